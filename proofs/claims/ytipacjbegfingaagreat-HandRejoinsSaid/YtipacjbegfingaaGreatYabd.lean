/- The walks of raceref's comparisons where both sides read as one: Histories, Pending, Pendings, State. -/
import Derived.BigRegion
import Derived.Test.YtipacjbegfingaaGreatYaah
import Derived.Test.YtipacjbegfingaaGreatYabc
namespace Go.Proofs.YtipacjbegfingaaGreat
set_option linter.unusedVariables false
open Go.RowKit Fl
attribute [local go_sem] run_store_float

/-- a loop that goes over all -/
def AllOf {α : Type} (l : List α) (w : World) (i : Value) (wr : World) : Prop := ∃ k : Nat, k ≤ l.length ∧ i = .int .i64 (k : Int) ∧ Below w.heap.size w wr

set_option maxRecDepth 100000 in
set_option maxHeartbeats 4000000 in
theorem hists_same (A A' : Option Addr) (n n' c c' : Nat) (l : List Hs) (w : World) (h : Sl HsRel 2 w w.heap.size A n l) (h' : Sl HsRel 2 w w.heap.size A' n' l) (hn : n ≤ maxLen) :
    Calls Tryz.prog 31 #[.slice A n c, .slice A' n' c'] w fun e w' => e = .returned (.bool true) ∧ Below w.heap.size w w' := by
  unfold maxLen at hn
  obtain rfl : n = n' := h.1.symm.trans h'.1
  have hl := h.1
  have hge : n ≤ l.length := by omega
  have hle : l.length ≤ n := by omega
  clear hl
  have hb0 : ((n : Int) != (n : Int)) = false := by simp
  go_enter Tryz.func31, Tryz.ntmps31
  go_wp2
  go_loopw [5] (fun i wr => AllOf l w i wr) (fun i _ => n - (intOf i).toNat)
  case atStart => exact ⟨0, by omega, rfl, Below.refl _ _⟩
  case round =>
    obtain ⟨k, hk, rfl, hb⟩ := hrel
    have hzz := hb.size
    by_cases hlt : k < n
    · obtain ⟨ad, a, A1, n1, c1, rfl, ha, hbk, hok, d0, d1, hn1, hc1, hs1⟩ := ((h.below HsRel.kept hb).more HsRel.kept hb.size).hs hlt
      obtain ⟨ad', a', A2, n2, c2, rfl, ha', hbk', hok', e0, e1, hn2, hc2, hs2⟩ := ((h'.below HsRel.kept hb).more HsRel.kept hb.size).hs hlt
      obtain rfl : a = a' := Option.some.inj (ha.symm.trans ha')
      obtain rfl : n1 = n2 := hs1.1.symm.trans hs2.1
      have hd1 : decide ((k : Int) < (n : Int)) = true := by simp; omega
      have hk0 : (0 : Int) ≤ (k : Int) := by omega
      have hk1 : (k : Int) < (n : Int) := by omega
      have hb1 : ((n1 : Int) != (n1 : Int)) = false := by simp
      have hb2 : (a.key.toList != a.key.toList) = false := by simp
      have hl1 := hs1.1
      have hge1 : n1 ≤ a.vs.length := by omega
      have hle1 : a.vs.length ≤ n1 := by omega
      unfold maxLen at hc1
      have HA := Lib.hid ha
      have HA' := Lib.hid ha'
      clear hl1 ha ha'
      go_wp2
      go_quiet (fail)
      go_wp2
      have hbq : Below w.heap.size w (wr.drewN nq) := hb.trans ((belowN nq).mono hzz)
      clear d0 d1 e0 e1 hs1 hs2 hb hzz
      go_loopw [6] (fun i wr => AllOf a.vs w i wr) (fun i _ => n1 - (intOf i).toNat)
      case atStart => exact ⟨0, by omega, rfl, hbq⟩
      case round =>
        obtain ⟨k2, hk2, rfl, hb⟩ := hrel
        have hzz := hb.size
        obtain ⟨ad1, a1, B1, m1, c3, ex, ha1, hbk1, hok1, d0, d1, hm1, hc3, hs1⟩ := ((h.below HsRel.kept hb).more HsRel.kept hb.size).hs hlt
        obtain ⟨ad2, a2, B2, m2, c4, ey, ha2, hbk2, hok2, e0, e1, hm2, hc4, hs2⟩ := ((h'.below HsRel.kept hb).more HsRel.kept hb.size).hs hlt
        injection ex with ex
        injection ey with ey
        subst ex ey
        obtain rfl : a = a1 := Option.some.inj (HA.out.symm.trans ha1)
        obtain rfl : a = a2 := Option.some.inj (HA'.out.symm.trans ha2)
        obtain rfl : n1 = m1 := by have := hs1.1; omega
        obtain rfl : n1 = m2 := by have := hs2.1; omega
        clear ha1 ha2
        by_cases hlt2 : k2 < n1
        · obtain ⟨bd, v, rfl, hv, hvk, hvo, x0, x1, x2, x3, x4, x5⟩ := hs1.vn hlt2
          obtain ⟨bd', v', rfl, hv', hvk', hvo', y0, y1, y2, y3, y4, y5⟩ := hs2.vn hlt2
          obtain rfl : v = v' := Option.some.inj (hv.symm.trans hv')
          have hd3 : decide ((k2 : Int) < (n1 : Int)) = true := by simp; omega
          have hk20 : (0 : Int) ≤ (k2 : Int) := by omega
          have hk21 : (k2 : Int) < (n1 : Int) := by omega
          have hvs := fun w => value_any v.v v.v w
          rw [Vl.same_self] at hvs
          clear hv hv'
          go_wp2
          go_region
          go_wp2_with ((with_reducible refine (hvs _).mono ?_); rintro e w3 ⟨rfl, hb3⟩)
          all_goals
            have hb4 : Below wr.heap.size wr w3 := Below.trans (by go_grown; done) (hb3.mono (by simp; omega))
            clear hb3
            go_roundw
            case rel => exact ⟨k2 + 1, by omega, by go_num, hb.trans (hb4.mono hzz)⟩
            case measure => simp [intOf]; omega
        · have hd3 : decide ((k2 : Int) < (n1 : Int)) = false := by simp; omega
          go_wp2
          go_roundw
          case rel => exact ⟨k + 1, by omega, by go_num, hb⟩
          case measure => simp [intOf]; omega
    · have hd1 : decide ((k : Int) < (n : Int)) = false := by simp; omega
      go_wp2
      go_ret
      exact ⟨rfl, hb⟩

set_option maxRecDepth 100000 in
set_option maxHeartbeats 4000000 in
theorem pend_same (p : Pn) (A1 A2 B1 B2 : Option Addr) (n1 n2 m1 m2 c1 c2 d1 d2 : Nat) (w : World) (h1 : Sl KyRel 1 w w.heap.size A1 n1 p.r) (h2 : Sl WtRel 4 w w.heap.size A2 n2 p.w) (k1 : Sl KyRel 1 w w.heap.size B1 m1 p.r) (k2 : Sl WtRel 4 w w.heap.size B2 m2 p.w)
    (hn1 : n1 ≤ maxLen) (hn2 : n2 ≤ maxLen) :
    Calls Tryz.prog 59 #[p.val (.slice A1 n1 c1) (.slice A2 n2 c2), p.val (.slice B1 m1 d1) (.slice B2 m2 d2)] w fun e w' => e = .returned (.bool true) ∧ Below w.heap.size w w' := by
  obtain rfl : n1 = m1 := h1.1.symm.trans k1.1
  obtain rfl : n2 = m2 := h2.1.symm.trans k2.1
  have hX : Below w.heap.size w ((w.alloc (.cells (p.arr (.slice A1 n1 c1) (.slice A2 n2 c2)) 45)).alloc (.cells (p.arr (.slice B1 n1 d1) (.slice B2 n2 d2)) 45)) := by go_grown
  have i2 : Blk ((w.alloc (.cells (p.arr (.slice A1 n1 c1) (.slice A2 n2 c2)) 45)).alloc (.cells (p.arr (.slice B1 n1 d1) (.slice B2 n2 d2)) 45)) w.heap.size 45 (p.arr (.slice A1 n1 c1) (.slice A2 n2 c2)) := (Blk.new _ _ _).alloc _
  have i3 : Blk ((w.alloc (.cells (p.arr (.slice A1 n1 c1) (.slice A2 n2 c2)) 45)).alloc (.cells (p.arr (.slice B1 n1 d1) (.slice B2 n2 d2)) 45)) (w.heap.size + 1) 45 (p.arr (.slice B1 n1 d1) (.slice B2 n2 d2)) := Blk.new' _ _ (by simp)
  have hT := fun w' (hb : Below w.heap.size w w') => texts_any A1 B1 n1 n1 c1 d1 p.r p.r w' ((h1.below KyRel.kept hb).more KyRel.kept hb.size) ((k1.below KyRel.kept hb).more KyRel.kept hb.size) hn1 hn1
  have hW := fun w' (hb : Below w.heap.size w w') => wts_any A2 B2 n2 n2 c2 d2 p.w p.w w' ((h2.below WtRel.kept hb).more WtRel.kept hb.size) ((k2.below WtRel.kept hb).more WtRel.kept hb.size) hn2 hn2
  rw [sameL_self (fun a => by simp)] at hT
  rw [sameL_self Wt.same_self] at hW
  go_enter Tryz.func59, Tryz.ntmps59
  go_wp2_with (first
    | ((with_reducible refine (hT _ hX).mono ?_); rintro e w3 ⟨rfl, hb3⟩
       have j2 := i2.below hb3 i2.lt
       have j3 := i3.below hb3 i3.lt
       have hY := hX.trans (hb3.mono hX.size)
       obtain ⟨l2, x0, x1, x2, x3, x4, x5, x6, x7⟩ := j2.eight
       obtain ⟨l3, y0, y1, y2, y3, y4, y5, y6, y7⟩ := j3.eight)
    | ((with_reducible refine (hW _ hY).mono ?_); rintro e w4 ⟨rfl, hb4⟩))
  go_ret
  exact ⟨rfl, hY.trans (hb4.mono hY.size)⟩

set_option maxRecDepth 100000 in
set_option maxHeartbeats 4000000 in
theorem pends_same (A A' : Option Addr) (n n' c c' : Nat) (l : List Pn) (w : World) (h : Sl PnRel 8 w w.heap.size A n l) (h' : Sl PnRel 8 w w.heap.size A' n' l) (hn : n ≤ maxLen) :
    Calls Tryz.prog 32 #[.slice A n c, .slice A' n' c'] w fun e w' => e = .returned (.bool true) ∧ Below w.heap.size w w' := by
  unfold maxLen at hn
  obtain rfl : n = n' := h.1.symm.trans h'.1
  have hl := h.1
  have hge : n ≤ l.length := by omega
  have hle : l.length ≤ n := by omega
  clear hl
  have hb0 : ((n : Int) != (n : Int)) = false := by simp
  go_enter Tryz.func32, Tryz.ntmps32
  go_wp2
  go_loopw [5] (fun i wr => AllOf l w i wr) (fun i _ => n - (intOf i).toNat)
  case atStart => exact ⟨0, by omega, rfl, Below.refl _ _⟩
  case round =>
    obtain ⟨k, hk, rfl, hb⟩ := hrel
    have hzz := hb.size
    by_cases hlt : k < n
    · obtain ⟨ad, a, A1, n1, c1, A2, n2, c2, rfl, ha, hbk, hxt, hxs, d0, d1, d2, d3, d4, d5, d6, d7, hn1, hc1, hs1, hn2, hc2, hs2⟩ := ((h.below PnRel.kept hb).more PnRel.kept hb.size).pn hlt
      obtain ⟨ad', a', A3, n3, c3, A4, n4, c4, rfl, ha', hbk', hxt', hxs', e0, e1, e2, e3, e4, e5, e6, e7, hn3, hc3, hs3, hn4, hc4, hs4⟩ := ((h'.below PnRel.kept hb).more PnRel.kept hb.size).pn hlt
      obtain rfl : a = a' := Option.some.inj (ha.symm.trans ha')
      have hd1 : decide ((k : Int) < (n : Int)) = true := by simp; omega
      have hk0 : (0 : Int) ≤ (k : Int) := by omega
      have hk1 : (k : Int) < (n : Int) := by omega
      have hP := fun w' (hb : Below wr.heap.size wr w') => pend_same a A1 A2 A3 A4 n1 n2 n3 n4 c1 c2 c3 c4 w' ((hs1.below KyRel.kept hb).more KyRel.kept hb.size) ((hs2.below WtRel.kept hb).more WtRel.kept hb.size) ((hs3.below KyRel.kept hb).more KyRel.kept hb.size) ((hs4.below WtRel.kept hb).more WtRel.kept hb.size) (by omega) (by omega)
      clear ha ha'
      go_wp2
      go_region_held3 (fun w' => w'.cell? (ad.add (k * 8)) = some (.int .i64 a.t.c) ∧ w'.cell? ⟨(ad.add (k * 8)).block, (ad.add (k * 8)).off + 1, none⟩ = some (.int .i64 a.t.l) ∧ w'.cell? ⟨(ad.add (k * 8)).block, (ad.add (k * 8)).off + 2, none⟩ = some (.int .i64 a.t.s) ∧ w'.cell? ⟨(ad.add (k * 8)).block, (ad.add (k * 8)).off + 3, none⟩ = some (.int .i64 a.s.w) ∧ w'.cell? ⟨(ad.add (k * 8)).block, (ad.add (k * 8)).off + 4, none⟩ = some (.int .i64 a.s.l) ∧ w'.cell? ⟨(ad.add (k * 8)).block, (ad.add (k * 8)).off + 5, none⟩ = some (.int .i64 a.s.n) ∧ w'.cell? ⟨(ad.add (k * 8)).block, (ad.add (k * 8)).off + 6, none⟩ = some (.slice A1 n1 c1) ∧ w'.cell? ⟨(ad.add (k * 8)).block, (ad.add (k * 8)).off + 7, none⟩ = some (.slice A2 n2 c2) ∧ w'.cell? (ad'.add (k * 8)) = some (.int .i64 a.t.c) ∧ w'.cell? ⟨(ad'.add (k * 8)).block, (ad'.add (k * 8)).off + 1, none⟩ = some (.int .i64 a.t.l) ∧ w'.cell? ⟨(ad'.add (k * 8)).block, (ad'.add (k * 8)).off + 2, none⟩ = some (.int .i64 a.t.s) ∧ w'.cell? ⟨(ad'.add (k * 8)).block, (ad'.add (k * 8)).off + 3, none⟩ = some (.int .i64 a.s.w) ∧ w'.cell? ⟨(ad'.add (k * 8)).block, (ad'.add (k * 8)).off + 4, none⟩ = some (.int .i64 a.s.l) ∧ w'.cell? ⟨(ad'.add (k * 8)).block, (ad'.add (k * 8)).off + 5, none⟩ = some (.int .i64 a.s.n) ∧ w'.cell? ⟨(ad'.add (k * 8)).block, (ad'.add (k * 8)).off + 6, none⟩ = some (.slice A3 n3 c3) ∧ w'.cell? ⟨(ad'.add (k * 8)).block, (ad'.add (k * 8)).off + 7, none⟩ = some (.slice A4 n4 c4))
        (first | exact ⟨d0, d1, d2, d3, d4, d5, d6, d7, e0, e1, e2, e3, e4, e5, e6, e7⟩ | exact ⟨(hb9.cell (by exact hbk)).trans d0, (hb9.cell (by exact hbk)).trans d1, (hb9.cell (by exact hbk)).trans d2, (hb9.cell (by exact hbk)).trans d3, (hb9.cell (by exact hbk)).trans d4, (hb9.cell (by exact hbk)).trans d5, (hb9.cell (by exact hbk)).trans d6, (hb9.cell (by exact hbk)).trans d7, (hb9.cell (by exact hbk')).trans e0, (hb9.cell (by exact hbk')).trans e1, (hb9.cell (by exact hbk')).trans e2, (hb9.cell (by exact hbk')).trans e3, (hb9.cell (by exact hbk')).trans e4, (hb9.cell (by exact hbk')).trans e5, (hb9.cell (by exact hbk')).trans e6, (hb9.cell (by exact hbk')).trans e7⟩)
        (first | ((with_reducible refine (hP _ (Below.refl _ _).drew).mono ?_); rintro e w5 ⟨rfl, hb5⟩; have hb9 : Below wr.heap.size wr w5 := (Below.refl wr.heap.size wr).drew.trans hb5))
      go_wp2
      go_roundw
      case rel => exact ⟨k + 1, by omega, by go_num, hb.trans (hb9.mono hzz)⟩
      case measure => simp [intOf]; omega
    · have hd1 : decide ((k : Int) < (n : Int)) = false := by simp; omega
      go_wp2
      go_ret
      exact ⟨rfl, hb⟩

theorem dozenC {w : World} {g : Nat} {t : TypeId} {a b c d e f h i j k l m : Value} (hh : Blk w g t #[a, b, c, d, e, f, h, i, j, k, l, m]) :
    g < w.heap.size ∧ w.cell? ⟨g, 0, none⟩ = some a ∧ w.cell? ⟨g, 1, none⟩ = some b ∧ w.cell? ⟨g, 2, none⟩ = some c ∧ w.cell? ⟨g, 3, none⟩ = some d ∧ w.cell? ⟨g, 4, none⟩ = some e ∧ w.cell? ⟨g, 5, none⟩ = some f ∧
    w.cell? ⟨g, 6, none⟩ = some h ∧ w.cell? ⟨g, 7, none⟩ = some i ∧ w.cell? ⟨g, 8, none⟩ = some j ∧ w.cell? ⟨g, 9, none⟩ = some k ∧ w.cell? ⟨g, 10, none⟩ = some l ∧ w.cell? ⟨g, 11, none⟩ = some m :=
  ⟨hh.lt, hh.cell 0, hh.cell 1, hh.cell 2, hh.cell 3, hh.cell 4, hh.cell 5, hh.cell 6, hh.cell 7, hh.cell 8, hh.cell 9, hh.cell 10, hh.cell 11⟩
set_option maxRecDepth 100000 in
set_option maxHeartbeats 4000000 in
theorem state_same (s : Stt) (A1 A2 B1 B2 : Option Addr) (n1 n2 m1 m2 c1 c2 d1 d2 : Nat) (w : World) (h1 : Sl HsRel 2 w w.heap.size A1 n1 s.h) (h2 : Sl PnRel 8 w w.heap.size A2 n2 s.p) (k1 : Sl HsRel 2 w w.heap.size B1 m1 s.h) (k2 : Sl PnRel 8 w w.heap.size B2 m2 s.p)
    (hn1 : n1 ≤ maxLen) (hn2 : n2 ≤ maxLen) :
    Calls Tryz.prog 10 #[.agg (s.arr (.slice A1 n1 c1) (.slice A2 n2 c2)), .agg (s.arr (.slice B1 m1 d1) (.slice B2 m2 d2))] w fun e w' => e = .returned (.bool true) ∧ Below w.heap.size w w' := by
  have hX : Below w.heap.size w ((w.alloc (.cells (s.arr (.slice A1 n1 c1) (.slice A2 n2 c2)) 30)).alloc (.cells (s.arr (.slice B1 m1 d1) (.slice B2 m2 d2)) 30)) := by go_grown
  have i2 : Blk ((w.alloc (.cells (s.arr (.slice A1 n1 c1) (.slice A2 n2 c2)) 30)).alloc (.cells (s.arr (.slice B1 m1 d1) (.slice B2 m2 d2)) 30)) w.heap.size 30 (s.arr (.slice A1 n1 c1) (.slice A2 n2 c2)) := (Blk.new _ _ _).alloc _
  have i3 : Blk ((w.alloc (.cells (s.arr (.slice A1 n1 c1) (.slice A2 n2 c2)) 30)).alloc (.cells (s.arr (.slice B1 m1 d1) (.slice B2 m2 d2)) 30)) (w.heap.size + 1) 30 (s.arr (.slice B1 m1 d1) (.slice B2 m2 d2)) := Blk.new' _ _ (by simp)
  have hR := fun w' => range_any s.r s.r w'
  have hT := fun w' (hb : Below w.heap.size w w') => hists_same A1 B1 n1 m1 c1 d1 s.h w' ((h1.below HsRel.kept hb).more HsRel.kept hb.size) ((k1.below HsRel.kept hb).more HsRel.kept hb.size) hn1
  have hW := fun w' (hb : Below w.heap.size w w') => pends_same A2 B2 n2 m2 c2 d2 s.p w' ((h2.below PnRel.kept hb).more PnRel.kept hb.size) ((k2.below PnRel.kept hb).more PnRel.kept hb.size) hn2
  rw [Rg.same_self] at hR
  go_enter Tryz.func10, Tryz.ntmps10
  go_wp2_with (first
    | ((with_reducible refine (hR _).mono ?_); rintro e w3 ⟨rfl, hb3⟩
       have j2 := i2.below hb3 i2.lt
       have j3 := i3.below hb3 i3.lt
       have hY := hX.trans (hb3.mono hX.size)
       obtain ⟨l2, x0, x1, x2, x3, x4, x5, x6, x7, x8, x9, x10, x11⟩ := dozenC j2
       obtain ⟨l3, y0, y1, y2, y3, y4, y5, y6, y7, y8, y9, y10, y11⟩ := dozenC j3)
    | ((with_reducible refine (hT _ hY).mono ?_); rintro e w4 ⟨rfl, hb4⟩
       have k2' := j2.below hb4 j2.lt
       have k3' := j3.below hb4 j3.lt
       have hZ := hY.trans (hb4.mono hY.size)
       obtain ⟨l2', -, -, -, -, -, -, -, -, -, -, -, z11⟩ := dozenC k2'
       obtain ⟨l3', -, -, -, -, -, -, -, -, -, -, -, u11⟩ := dozenC k3')
    | ((with_reducible refine (hW _ hZ).mono ?_); rintro e w5 ⟨rfl, hb5⟩))
  go_ret
  exact ⟨rfl, hZ.trans (hb5.mono hZ.size)⟩
end Go.Proofs.YtipacjbegfingaaGreat
/- The walks of racelaw15's some and alike. -/
namespace Go.Proofs.YtipacjbegfingaaGreat
set_option linter.unusedVariables false
open Go.RowKit Fl
attribute [local go_sem] run_store_float

section
variable {α : Type} {R : Rel α} {E size base : Nat} {K : Nat → Bool} {w w' : World} {v : Value} {l : List α}
theorem RowR.keep2 (hR : R.Kept) (h : RowR R E size base K w v l) (hs : w.heap.size ≤ w'.heap.size) (hb : ∀ k, base ≤ k → k < w.heap.size → w'.heap[k]? = w.heap[k]?) (hK : ∀ k, K k = true → w'.heap[k]? = w.heap[k]?) : RowR R E size base K w' v l := by
  obtain ⟨css, ho, hlen, hl, hc⟩ := h
  exact ⟨css, owns_same ho hb, hlen, hl, fun i cs a h1 h2 => (hc i cs a h1 h2).keep hR hK hs⟩
/-- a row whose elements read below it: its cells; what an append makes of it -/
theorem RowR.own (hR : R.Kept) (h : RowR R E size base K w v l) (hK : ∀ k, K k = true → k < base) (hbs : base ≤ w.heap.size) : ∃ xs, w.ownsRow base E size v l.length xs ∧
    ∀ (cs : List Value) (a : α) (w' : World) (v' : Value), cs.length = size → Inn R K w cs a → w'.ownsRow base E size v' (l.length + 1) (xs ++ cs) → w.grownBy w' v.ownBlock → RowR R E size base K w' v' (l ++ [a]) := by
  obtain ⟨css, ho, hlen, hl, hc⟩ := h
  refine ⟨css.flatten, ho, fun cs a w' v' hcs hin hown hg => ?_⟩
  have hB : ∀ k, K k = true → w'.heap[k]? = w.heap[k]? := fun k hk => hg.block k (by have := hK k hk; omega) (fun e => by have := (ho.lt k e.symm).1; have := hK k hk; omega)
  refine ⟨css ++ [cs], ?_, by simp [hlen], ?_, ?_⟩
  · rw [List.length_append, List.flatten_append]
    simpa using hown
  · intro c hc'
    rcases List.mem_append.1 hc' with h1 | h1
    · exact hl c h1
    · simp only [List.mem_cons, List.not_mem_nil, or_false] at h1
      rw [h1]; exact hcs
  · intro i c b h1 h2
    by_cases hi : i < l.length
    · rw [List.getElem?_append_left (by omega)] at h1 h2
      exact (hc i c b h1 h2).keep hR hB hg.size
    · have hi2 : i = l.length := by
        have := (List.getElem?_eq_some_iff.1 h2).1
        rw [List.length_append, List.length_cons, List.length_nil] at this
        omega
      subst hi2
      rw [List.getElem?_append_right (Nat.le_refl _)] at h2
      rw [← hlen, List.getElem?_append_right (Nat.le_refl _)] at h1
      simp only [Nat.sub_self, List.getElem?_cons_zero, Option.some.injEq] at h1 h2
      subst h1 h2
      exact hin.keep hR hB hg.size
end
end Go.Proofs.YtipacjbegfingaaGreat
