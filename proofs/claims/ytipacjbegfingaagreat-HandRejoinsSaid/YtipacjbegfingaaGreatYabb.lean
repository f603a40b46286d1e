/- What lists weigh: WeighWrites. -/
import Derived.Carry
import Derived.Deep.CutRange
import Derived.Deep.MidRow
import Derived.Test.YtipacjbegfingaaGreatYaac
import Derived.Test.YtipacjbegfingaaGreatYaaf
import Derived.Test.YtipacjbegfingaaGreatYaah
import Derived.Test.YtipacjbegfingaaGreatYaba
namespace Go.Proofs.YtipacjbegfingaaGreat
open Go.RowKit Fl

/-- a callee that leaves the world alone, in a quiet walk -/
theorem quiet_same {P : Program} {f : FuncId} {args : Array Value} {v : Value} {w : World} {Q q : Nat} (h : Calls P f args (w.drewN (Q + q)) fun e w' => e = .returned v ∧ w.drewN (Q + q) = w') :
    Calls P f args (w.drewN (Q + q)) fun e w' => e = .returned v ∧ ∃ m, w' = w.drewN (Q + m) := h.mono fun _ _ ⟨he, hw⟩ => ⟨he, q, hw.symm⟩

theorem fewI_range {n more most : Int} (h0 : 0 ≤ n) (h1 : 0 ≤ more) (h2 : 0 ≤ most) : 0 ≤ fewI n more most ∧ fewI n more most ≤ 2 * most + 1 ∧ (fewI n more most ≤ most → fewI n more most = n + more) := by
  unfold fewI
  split <;> omega
/-- what a list of writes weighs, up to most and one -/
def stepW (most n : Int) (a : Wt) : Int := fewI (fewI n (1 + (a.key.size : Int)) most) (a.v.t.size : Int) most
def weighW (most : Int) : Int → List Wt → Int
  | n, [] => n
  | n, a :: l => if n ≤ most then weighW most (stepW most n a) l else n
theorem weighW_drop {most n : Int} {l : List Wt} {k : Nat} {a : Wt} (h : l[k]? = some a) (hn : n ≤ most) : weighW most n (l.drop k) = weighW most (stepW most n a) (l.drop (k + 1)) := by
  have h1 := List.getElem?_eq_some_iff.1 h
  rw [List.drop_eq_getElem_cons h1.1, h1.2]
  show (if _ then _ else _) = _
  rw [if_pos hn]
theorem weighW_stop {most n : Int} (l : List Wt) (hn : most < n) : weighW most n l = n := by
  cases l with
  | nil => rfl
  | cons a l => show (if _ then _ else _) = _; rw [if_neg (by omega)]
theorem weighW_le : ∀ (l : List Wt) (most n : Int), 0 ≤ n → 0 ≤ most → weighW most n l ≤ most → n + (l.map fun a => 1 + (a.key.size : Int) + (a.v.t.size : Int)).sum ≤ most := by
  intro l
  induction l with
  | nil => intro most n h0 h1 h; simpa [weighW] using h
  | cons a l ih =>
    intro most n h0 h1 h
    by_cases hn : n ≤ most
    · have e : weighW most n (a :: l) = weighW most (stepW most n a) l := by show (if _ then _ else _) = _; rw [if_pos hn]
      rw [e] at h
      have h2 : 0 ≤ fewI n (1 + (a.key.size : Int)) most := (fewI_range h0 (by omega) h1).1
      have h3 : 0 ≤ stepW most n a := by
        unfold stepW
        unfold fewI at h2 ⊢
        split <;> split at h2 <;> omega
      have h4 := ih most _ h3 h1 h
      have hs : 0 ≤ (l.map fun a => 1 + (a.key.size : Int) + (a.v.t.size : Int)).sum := by
        clear h4 h e ih
        induction l with
        | nil => simp
        | cons b l ih => simp only [List.map_cons, List.sum_cons]; omega
      have h5 : stepW most n a = n + (1 + (a.key.size : Int)) + (a.v.t.size : Int) := by
        have : stepW most n a ≤ most := by omega
        unfold stepW fewI at this ⊢
        split at this <;> split <;> omega
      simp only [List.map_cons, List.sum_cons]
      omega
    · rw [weighW_stop _ (by omega)] at h
      omega

def WeighRel (most : Int) (l : List Wt) (w : World) (s i : Value) (wr : World) : Prop :=
  ∃ (k q : Nat) (n : Int), k ≤ l.length ∧ i = .int .i64 (k : Int) ∧ s = .int .i64 n ∧ 0 ≤ n ∧ n ≤ 2 * most + 1 ∧ weighW most n (l.drop k) = weighW most 0 l ∧ w.drewN q = wr

set_option maxRecDepth 100000 in
set_option maxHeartbeats 4000000 in
theorem weigh_any (A : Option Addr) (n c : Nat) (l : List Wt) (most : Int) (w : World) (h : Sl WtRel 4 w w.heap.size A n l) (hn : n ≤ maxLen) (hm0 : 0 ≤ most) (hm1 : most ≤ 1000000) :
    Calls Tryz.prog 74 #[.slice A n c, .int .i64 most] w fun e w' => e = .returned (.int .i64 (weighW most 0 l)) ∧ ∃ q, w.drewN q = w' := by
  unfold maxLen at hn
  have hl := h.1
  have hle : l.length ≤ n := by omega
  have hge : n ≤ l.length := by omega
  clear hl
  go_enter Tryz.func74, Tryz.ntmps74
  go_wp2
  go_loopw [5, 6] (fun s i wr => WeighRel most l w s i wr) (fun _ i _ => n - (intOf i).toNat)
  case atStart => exact ⟨0, 0, 0, by omega, rfl, rfl, by omega, by omega, rfl, rfl⟩
  case round =>
    obtain ⟨k, q, s, hk, rfl, rfl, hs0, hs1, hs, rfl⟩ := hrel
    by_cases hlt : k < n
    · have hd1 : decide ((k : Int) < (n : Int)) = true := by simp; omega
      by_cases hst : s ≤ most
      · obtain ⟨ad, a, rfl, ha, hbk, hok, c0, c1, c2, c3⟩ := h.wt hlt
        have hd2 : decide (s ≤ most) = true := by simp [hst]
        have hk0 : (0 : Int) ≤ (k : Int) := by omega
        have hk1 : (k : Int) < (n : Int) := by omega
        have hsz := hok.1
        have hsz2 := hok.2.2.2
        rw [weighW_drop ha hst] at hs
        have HS := Lib.hid hs
        have hr1 := fewI_range (n := s) (more := 1 + (a.key.size : Int)) (most := most) hs0 (by omega) hm0
        have hr2 : 0 ≤ stepW most s a ∧ stepW most s a ≤ 2 * most + 1 := by
          unfold stepW
          have h9 : fewI s (1 + (a.key.size : Int)) most ≤ most + 1 ∨ fewI s (1 + (a.key.size : Int)) most ≤ 2 * most + 1 := .inr hr1.2.1
          have h8 := hr1.1
          have h7 : fewI s (1 + (a.key.size : Int)) most ≤ 2 * most + 1 := hr1.2.1
          generalize fewI s (1 + (a.key.size : Int)) most = z at *
          unfold fewI
          split <;> omega
        have hwr : IntKind.i64.wrap (1 + (a.key.size : Int)) = 1 + (a.key.size : Int) := by rw [IntKind.wrap_i64]; omega
        have hr3 := hr1.1
        have hr4 := hr1.2.1
        have hr5 := hr2.1
        have hr6 := hr2.2
        clear hr1 hr2
        clear ha hs hok
        go_wp2
        go_quiet (first
          | (go_at_call 43; exact quiet_same (wfew _ _ _ _ (by omega) (by omega) (by omega) (by omega) hm0 (by omega))))
        go_wp2
        go_roundw
        case rel => exact ⟨k + 1, q + nq, stepW most s a, by omega, by go_num, rfl, hr5, hr6, HS.out, rfl⟩
        case measure => simp [intOf]; omega
      · have hd2 : decide (s ≤ most) = false := by simp; omega
        rw [weighW_stop _ (by omega)] at hs
        have HS := Lib.hid hs
        clear hs
        go_wp2
        go_ret
        rw [← HS.out]
        exact ⟨rfl, q, rfl⟩
    · have hd1 : decide ((k : Int) < (n : Int)) = false := by simp; omega
      rw [List.drop_of_length_le (by omega)] at hs
      have HS : RowKit.Hid (s = weighW most 0 l) := Lib.hid hs
      clear hs
      go_wp2
      go_ret
      rw [← HS.out]
      exact ⟨rfl, q, rfl⟩
end Go.Proofs.YtipacjbegfingaaGreat
/- The walks of hlc.May; of New, Load, StateMay and Divide where a state has neither histories nor what is pending; of first. -/
namespace Go.Proofs.YtipacjbegfingaaGreat
open Go.RowKit Fl
attribute [local go_sem] run_store_float

set_option maxHeartbeats 1000000 in
theorem new_any (w : World) : Calls Tryz.prog 77 #[] w fun e w' => ∃ g, e = .returned (.pointer (some ⟨g, 0, none⟩)) ∧ Below w.heap.size w w' := by
  have hmm := @run_makeMap Tryz.prog
  go_enter Tryz.func77, Tryz.ntmps77
  go_wp2
  go_ret
  exact ⟨_, rfl, (((Below.refl _ _).alloc (Nat.le_refl _) _).alloc (by simp) _).alloc (by simp; omega) _⟩

set_option maxHeartbeats 1000000 in
theorem load_nil (c1 c2 : Nat) (w : World) : Calls Tryz.prog 48 #[.slice none 0 c1, .slice none 0 c2] w fun e w' => ∃ g, e = .returned (.tuple #[.pointer (some ⟨g, 0, none⟩), .int .i64 0]) ∧ Below w.heap.size w w' := by
  go_enter Tryz.func48, Tryz.ntmps48
  go_wp2_with fail
  refine (new_any _).mono ?_
  rintro e w1 ⟨g, rfl, hb⟩
  go_wp2_with fail
  go_loop [18] (fun i => i = .int .i64 0) (fun _ => 0)
  case atStart => rfl
  case round =>
    obtain rfl := hrel
    go_wp2
    go_loop [40] (fun i => i = .int .i64 0) (fun _ => 0)
    case atStart => rfl
    case round =>
      obtain rfl := hrel
      go_wp2
      go_ret2
      exact ⟨⟨g, rfl⟩, hb⟩

/-- a state without histories and without what is pending, as a value -/
abbrev nilVal (r : Rg) (f c : Sp) : Value := .agg #[.int .i64 r.id, .int .i64 r.ep, .float .f64 r.lo, .float .f64 r.hi, .int .i64 f.w, .int .i64 f.l, .int .i64 f.n, .int .i64 c.w, .int .i64 c.l, .int .i64 c.n, .slice none 0 0, .slice none 0 0]

set_option maxRecDepth 100000 in
set_option maxHeartbeats 4000000 in
theorem stateMay_nil (r : Rg) (f c : Sp) (w : World) (hok : r.ok) (h1 : mayR r = true) (h2 : f.may = true) (h3 : c.may = true) :
    Calls Tryz.prog 18 #[nilVal r f c] w fun e w' => e = .returned (.bool true) ∧ Below w.heap.size w w' := by
  have hm := fun w => may_any r w hok
  have hf := fun w => hmay_any f w
  have hc := fun w => hmay_any c w
  rw [h1] at hm
  rw [h2] at hf
  rw [h3] at hc
  clear h1 h2 h3
  have hB0 := Blk.new w 30 #[.int .i64 r.id, .int .i64 r.ep, .float .f64 r.lo, .float .f64 r.hi, .int .i64 f.w, .int .i64 f.l, .int .i64 f.n, .int .i64 c.w, .int .i64 c.l, .int .i64 c.n, .slice none 0 0, .slice none 0 0]
  go_enter Tryz.func18, Tryz.ntmps18
  go_wp2_with (first
    | ((with_reducible refine (hm _).mono ?_); rintro e w1 ⟨rfl, rfl⟩)
    | ((with_reducible refine (hf _).mono ?_); rintro e w1 ⟨rfl, rfl⟩)
    | ((with_reducible refine (hc _).mono ?_); rintro e w1 ⟨rfl, rfl⟩)
    | ((with_reducible refine (load_nil _ _ _).mono ?_); rintro e w1 ⟨g, rfl, hb⟩
       have hB := Blk.below (((hB0.alloc _).alloc _).alloc _) hb (((hB0.alloc _).alloc _).alloc _).lt
       have c10 := hB.cell 10
       have c11 := hB.cell 11
       simp only [List.getElem?_toArray, List.getElem?_cons_succ, List.getElem?_cons_zero] at c10 c11
       have hbb : Below w.heap.size w w1 := ((((Below.refl _ _).alloc (Nat.le_refl _) _).alloc (by simp) _ |>.alloc (by simp; omega) _).alloc (by simp; omega) _).trans (hb.mono (by simp; omega))))
  go_loop [44] (fun i => i = .int .i64 0) (fun _ => 0)
  case atStart => rfl
  case round =>
    obtain rfl := hrel
    go_wp2
    go_loop [57] (fun i => i = .int .i64 0) (fun _ => 0)
    case atStart => rfl
    case round =>
      obtain rfl := hrel
      go_wp2
      go_ret
      exact ⟨rfl, hbb⟩

/-- what Divide makes of such a state -/
def DivPost (w : World) (a b : Value) (e : Int) : Ending → World → Prop := fun en w' => en = .returned (.tuple #[a, b, .int .i64 e]) ∧ Below w.heap.size w w'
abbrev zeroCells : Array Value := #[.int .i64 0, .int .i64 0, .float .f64 0, .float .f64 0, .int .i64 0, .int .i64 0, .int .i64 0, .int .i64 0, .int .i64 0, .int .i64 0, .slice none 0 0, .slice none 0 0]
abbrev zeroState : Value := .agg zeroCells
/-- five boxes in a row, and what is behind them -/
theorem five {w w1 : World} (t0 t1 t2 t3 t4 : TypeId) (c0 c1 c2 c3 c4 : Array Value) {B : Nat} (hB : w.heap.size + 5 ≤ B)
    (hb : Below B (((((w.alloc (.cells c0 t0)).alloc (.cells c1 t1)).alloc (.cells c2 t2)).alloc (.cells c3 t3)).alloc (.cells c4 t4)) w1) :
    (Blk w1 w.heap.size t0 c0 ∧ Blk w1 (w.heap.size + 1) t1 c1 ∧ Blk w1 (w.heap.size + 1 + 1) t2 c2 ∧ Blk w1 (w.heap.size + 1 + 1 + 1) t3 c3 ∧ Blk w1 (w.heap.size + 1 + 1 + 1 + 1) t4 c4) ∧ Below w.heap.size w w1 := by
  have b0 := (((((Blk.new w t0 c0).alloc (.cells c1 t1)).alloc (.cells c2 t2)).alloc (.cells c3 t3)).alloc (.cells c4 t4)).below hb (by omega)
  have b1 := ((((Blk.new' (w := w.alloc (.cells c0 t0)) (g := w.heap.size + 1) t1 c1 (by simp)).alloc (.cells c2 t2)).alloc (.cells c3 t3)).alloc (.cells c4 t4)).below hb (by omega)
  have b2 := (((Blk.new' (w := (w.alloc (.cells c0 t0)).alloc (.cells c1 t1)) (g := w.heap.size + 1 + 1) t2 c2 (by simp)).alloc (.cells c3 t3)).alloc (.cells c4 t4)).below hb (by omega)
  have b3 := ((Blk.new' (w := ((w.alloc (.cells c0 t0)).alloc (.cells c1 t1)).alloc (.cells c2 t2)) (g := w.heap.size + 1 + 1 + 1) t3 c3 (by simp)).alloc (.cells c4 t4)).below hb (by omega)
  have b4 := (Blk.new' (w := (((w.alloc (.cells c0 t0)).alloc (.cells c1 t1)).alloc (.cells c2 t2)).alloc (.cells c3 t3)) (g := w.heap.size + 1 + 1 + 1 + 1) t4 c4 (by simp)).below hb (by omega)
  refine ⟨⟨b0, b1, b2, b3, b4⟩, ?_⟩
  exact ((((((Below.refl _ _).alloc (Nat.le_refl _) _).alloc (by simp) _).alloc (by simp; omega) _).alloc (by simp; omega) _).alloc (by simp; omega) _).trans (hb.mono (by omega))

/-- the cells of a block of twelve -/
theorem Blk.dozen {w : World} {g : Nat} {t : TypeId} {a b c d e f h i j k l m : Value} (hh : Blk w g t #[a, b, c, d, e, f, h, i, j, k, l, m]) :
    g < w.heap.size ∧ w.cell? ⟨g, 0, none⟩ = some a ∧ w.cell? ⟨g, 1, none⟩ = some b ∧ w.cell? ⟨g, 2, none⟩ = some c ∧ w.cell? ⟨g, 3, none⟩ = some d ∧ w.cell? ⟨g, 4, none⟩ = some e ∧ w.cell? ⟨g, 5, none⟩ = some f ∧
    w.cell? ⟨g, 6, none⟩ = some h ∧ w.cell? ⟨g, 7, none⟩ = some i ∧ w.cell? ⟨g, 8, none⟩ = some j ∧ w.cell? ⟨g, 9, none⟩ = some k ∧ w.cell? ⟨g, 10, none⟩ = some l ∧ w.cell? ⟨g, 11, none⟩ = some m :=
  ⟨hh.lt, hh.cell 0, hh.cell 1, hh.cell 2, hh.cell 3, hh.cell 4, hh.cell 5, hh.cell 6, hh.cell 7, hh.cell 8, hh.cell 9, hh.cell 10, hh.cell 11⟩

set_option maxRecDepth 100000 in
set_option maxHeartbeats 4000000 in
theorem divide_no (r : Rg) (f c s q : Sp) (x : Nat) (k : Int) (w : World) (hok : r.ok) (hx : x < 18446744073709551616) (h1 : mayR r = true) (h2 : f.may = true) (h3 : c.may = true) (h4 : s.may = true) (h5 : q.may = true) (hE : splitE r x k ≠ 0) :
    Calls Tryz.prog 11 #[nilVal r f c, .float .f64 x, .int .i64 k, s.val, q.val] w (DivPost w zeroState zeroState (splitE r x k)) := by
  have hst := fun w => stateMay_nil r f c w hok h1 h2 h3
  have hs := fun w => hmay_any s w
  have hq := fun w => hmay_any q w
  have hsp := fun w => split_any r x k w hok hx
  rw [h4] at hs
  rw [h5] at hq
  have hE1 : (splitE r x k != 0) = true := by simp [hE]
  clear h1 h2 h3 h4 h5
  generalize splitE r x k = ee at *
  generalize splitL r x k = sl at *
  generalize splitU r x k = su at *
  go_enter Tryz.func11, Tryz.ntmps11
  go_upto_region 7 with (first
    | ((with_reducible refine (hst _).mono ?_); rintro e w1 ⟨rfl, hb⟩
       obtain ⟨⟨b0, b1, b2, b3, b4⟩, hb0⟩ := five _ _ _ _ _ _ _ _ _ _ (by simp) hb
       have l4 := b4.lt
       obtain ⟨g2, s0, s1, s2⟩ := b1.three
       obtain ⟨g3, q0, q1, q2⟩ := b2.three
       obtain ⟨g0, z0, z1, z2, z3, z4, z5, z6, z7, z8, z9, z10, z11⟩ := b0.dozen
       have g1 : w.heap.size < w1.heap.size + 1 := by omega
       clear hb)
    | ((with_reducible refine (hs _).mono ?_); rintro e w3 ⟨rfl, rfl⟩)
    | ((with_reducible refine (hq _).mono ?_); rintro e w3 ⟨rfl, rfl⟩)
    | ((with_reducible refine (hsp _).mono ?_); rintro e w2 ⟨rfl, hb2⟩
       have b3' := ((b3.alloc _).alloc _).below hb2 (by simp; omega)
       have b4' := ((b4.alloc _).alloc _).below hb2 (by simp; omega)))
  have b3 := (b3'.alloc (.cells #[.int .i64 sl.id, .int .i64 sl.ep, .float .f64 sl.lo, .float .f64 sl.hi] 24)).alloc (.cells #[.int .i64 su.id, .int .i64 su.ep, .float .f64 su.lo, .float .f64 su.hi] 24)
  have b4 := (b4'.alloc (.cells #[.int .i64 sl.id, .int .i64 sl.ep, .float .f64 sl.lo, .float .f64 sl.hi] 24)).alloc (.cells #[.int .i64 su.id, .int .i64 su.ep, .float .f64 su.lo, .float .f64 su.hi] 24)
  have hbz : Below w.heap.size w ((w2.alloc (.cells #[.int .i64 sl.id, .int .i64 sl.ep, .float .f64 sl.lo, .float .f64 sl.hi] 24)).alloc (.cells #[.int .i64 su.id, .int .i64 su.ep, .float .f64 su.lo, .float .f64 su.hi] 24)) := by
    refine (((hb0.alloc (by omega) _).alloc (by simp; omega) _).trans (hb2.mono (by simp; omega))).alloc ?_ _ |>.alloc ?_ _
    · have := b4'.lt; omega
    · have := b4'.lt; simp; omega
  generalize ((w2.alloc (.cells #[.int .i64 sl.id, .int .i64 sl.ep, .float .f64 sl.lo, .float .f64 sl.hi] 24)).alloc (.cells #[.int .i64 su.id, .int .i64 su.ep, .float .f64 su.lo, .float .f64 su.hi] 24)) = wz at *
  clear b3' b4' hb2 b0 b1 b2
  go_wp2_with (first
    | (refine wpList_store_row rfl 30 _ _ rfl _ _ rfl rfl _ _ b3 (by kernel_rfl) (by kernel_rfl) (by kernel_rfl) ?_)
    | (refine wpList_store_row rfl 30 _ _ rfl _ _ rfl rfl _ _ (b4.setRow_far _ (by omega)) (by kernel_rfl) (by kernel_rfl) (by kernel_rfl) ?_))
  have y3 := (b3.setRow zeroCells).setRow_far (g' := w.heap.size + 1 + 1 + 1 + 1) zeroCells (by omega)
  have y4 := (b4.setRow_far (g' := w.heap.size + 1 + 1 + 1) zeroCells (by omega)).setRow zeroCells
  refine post_cell_cell_tmp rfl (by rfl) (by rfl) y3 y4 rfl rfl (by kernel_rfl) rfl rfl (by kernel_rfl) ?_
  exact ⟨rfl, below_setRow (below_setRow hbz (by omega) _) (by omega) _⟩
end Go.Proofs.YtipacjbegfingaaGreat
/- The walk of Divide where a state has neither histories nor what is pending, and the split is good. -/
namespace Go.Proofs.YtipacjbegfingaaGreat
open Go.RowKit Fl
attribute [local go_sem] run_store_float

/-- a whole struct, of which the block is known, is taken first in a region that draws -/
theorem yieldsIf_load_blk {P : Program} {ops : Array Oper} {S : World → Prop} {op : Oper} {a : Act} (hw : Region.wanted op (yielded ops a.tmps) = true) (ty : TypeId) (x : Operand) (ho : op.op = .load ty x)
    (g : Nat) (hx : a.eval x = .pointer (some ⟨g, 0, none⟩)) (t : TypeId) (cs : Array Value) (d : TypeDesc) (hS : ∀ w, S w → Blk w g t cs)
    (hu : P.underlying ty = some d) (hd : (match d with | .struct _ | .array _ _ => true | _ => false) = true) (hi : (P.info? ty).map (·.size) = some cs.size) : YieldsIf P ops S op (.agg cs) a :=
  .inl ⟨hw, fun w hw' => by
    unfold execOp
    simp only [ho, hx, Instr.loadAt, Instr.sureAddr, Sem.run_bind, Sem.run_pure, Result.andThen_ok, run_loadVar_row w g t ty cs (0, 0) d (hS w hw') hu hd hi]⟩

theorem setRow_alloc (w : World) (t : TypeId) (c c' : Array Value) : (w.alloc (.cells c t)).setRow w.heap.size c' = w.alloc (.cells c' t) := by
  unfold World.setRow World.alloc
  congr 1
  apply Array.ext_getElem?
  intro i
  simp only [Array.getElem?_modify, Array.getElem?_push]
  by_cases h : i = w.heap.size
  · subst h; simp
  · have h' : w.heap.size ≠ i := fun e => h e.symm
    simp [h, h']
/-- a store of a whole struct into a box that is new -/
theorem wpList_store_new {P : Program} {ops : Array Oper} {rest : List Oper} {o : Oper} {a : Act} {w : World} {Q : Exit → Act → World → Prop} (hgd : o.guard = none) (ty : TypeId) (x y : Operand) (ho : o.op = .store ty x y)
    (cells : Array Value) (hx : a.eval x = .pointer (some ⟨w.heap.size, 0, none⟩)) (hy : a.eval y = .agg cells)
    (t : TypeId) (old : Array Value) (hi : (P.info? ty).map (·.size) = some cells.size)
    (hold : old.size = cells.size) (h1 : cells.all (·.oneCell') = true)
    (h : wpList P ops Q rest (a.put o.dst undef) (w.alloc (.cells cells t))) : wpList P ops Q (o :: rest) a (w.alloc (.cells old t)) :=
  wpList_store_row hgd ty x y ho _ cells hx hy t old (Blk.new w t old) hi hold h1 (by rw [setRow_alloc]; exact h)

abbrev nilCells (r : Rg) (f c : Sp) : Array Value := #[.int .i64 r.id, .int .i64 r.ep, .float .f64 r.lo, .float .f64 r.hi, .int .i64 f.w, .int .i64 f.l, .int .i64 f.n, .int .i64 c.w, .int .i64 c.l, .int .i64 c.n, .slice none 0 0, .slice none 0 0]

set_option maxRecDepth 100000 in
set_option maxHeartbeats 4000000 in
theorem divide_ok (r : Rg) (f c s q : Sp) (x : Nat) (k : Int) (w : World) (hok : r.ok) (hx : x < 18446744073709551616) (h1 : mayR r = true) (h2 : f.may = true) (h3 : c.may = true) (h4 : s.may = true) (h5 : q.may = true) (hE : splitE r x k = 0) :
    Calls Tryz.prog 11 #[nilVal r f c, .float .f64 x, .int .i64 k, s.val, q.val] w (DivPost w (nilVal (splitL r x k) f c) (nilVal (splitU r x k) q s) 0) := by
  have hst := fun w => stateMay_nil r f c w hok h1 h2 h3
  have hs := fun w => hmay_any s w
  have hq := fun w => hmay_any q w
  have hsp := fun w => split_any r x k w hok hx
  rw [h4] at hs
  rw [h5] at hq
  rw [hE] at hsp
  clear h1 h2 h3 h4 h5 hE
  generalize splitL r x k = sl at *
  generalize splitU r x k = su at *
  go_enter Tryz.func11, Tryz.ntmps11
  go_upto_region 8 with (first
    | ((with_reducible refine (hst _).mono ?_); rintro e w1 ⟨rfl, hb⟩
       obtain ⟨⟨b0, b1, b2, b3, b4⟩, hb0⟩ := five _ _ _ _ _ _ _ _ _ _ (by simp) hb
       have l4 := b4.lt
       obtain ⟨g2, s0, s1, s2⟩ := b1.three
       obtain ⟨g3, q0, q1, q2⟩ := b2.three
       obtain ⟨g0, z0, z1, z2, z3, z4, z5, z6, z7, z8, z9, z10, z11⟩ := b0.dozen
       have g1 : w.heap.size < w1.heap.size + 1 := by omega
       clear hb)
    | ((with_reducible refine (hs _).mono ?_); rintro e w3 ⟨rfl, rfl⟩)
    | ((with_reducible refine (hq _).mono ?_); rintro e w3 ⟨rfl, rfl⟩)
    | ((with_reducible refine (hsp _).mono ?_); rintro e w2 ⟨rfl, hb2⟩
       have b0' := ((b0.alloc _).alloc _).below hb2 (by simp; omega)
       have b1' := ((b1.alloc _).alloc _).below hb2 (by simp; omega)
       have b2' := ((b2.alloc _).alloc _).below hb2 (by simp; omega)
       have b3' := ((b3.alloc _).alloc _).below hb2 (by simp; omega)
       have b4' := ((b4.alloc _).alloc _).below hb2 (by simp; omega)))
  have b0 := (b0'.alloc (.cells #[.int .i64 sl.id, .int .i64 sl.ep, .float .f64 sl.lo, .float .f64 sl.hi] 24)).alloc (.cells #[.int .i64 su.id, .int .i64 su.ep, .float .f64 su.lo, .float .f64 su.hi] 24)
  have b1 := (b1'.alloc (.cells #[.int .i64 sl.id, .int .i64 sl.ep, .float .f64 sl.lo, .float .f64 sl.hi] 24)).alloc (.cells #[.int .i64 su.id, .int .i64 su.ep, .float .f64 su.lo, .float .f64 su.hi] 24)
  have b2 := (b2'.alloc (.cells #[.int .i64 sl.id, .int .i64 sl.ep, .float .f64 sl.lo, .float .f64 sl.hi] 24)).alloc (.cells #[.int .i64 su.id, .int .i64 su.ep, .float .f64 su.lo, .float .f64 su.hi] 24)
  have b3 := (b3'.alloc (.cells #[.int .i64 sl.id, .int .i64 sl.ep, .float .f64 sl.lo, .float .f64 sl.hi] 24)).alloc (.cells #[.int .i64 su.id, .int .i64 su.ep, .float .f64 su.lo, .float .f64 su.hi] 24)
  have b4 := (b4'.alloc (.cells #[.int .i64 sl.id, .int .i64 sl.ep, .float .f64 sl.lo, .float .f64 sl.hi] 24)).alloc (.cells #[.int .i64 su.id, .int .i64 su.ep, .float .f64 su.lo, .float .f64 su.hi] 24)
  have r13 := (Blk.new w2 24 #[.int .i64 sl.id, .int .i64 sl.ep, .float .f64 sl.lo, .float .f64 sl.hi]).alloc (.cells #[.int .i64 su.id, .int .i64 su.ep, .float .f64 su.lo, .float .f64 su.hi] 24)
  have r14 := Blk.new' (w := w2.alloc (.cells #[.int .i64 sl.id, .int .i64 sl.ep, .float .f64 sl.lo, .float .f64 sl.hi] 24)) (g := w2.heap.size + 1) 24 #[.int .i64 su.id, .int .i64 su.ep, .float .f64 su.lo, .float .f64 su.hi] (by simp)
  have hbz : Below w.heap.size w ((w2.alloc (.cells #[.int .i64 sl.id, .int .i64 sl.ep, .float .f64 sl.lo, .float .f64 sl.hi] 24)).alloc (.cells #[.int .i64 su.id, .int .i64 su.ep, .float .f64 su.lo, .float .f64 su.hi] 24)) := by
    refine (((hb0.alloc (by omega) _).alloc (by simp; omega) _).trans (hb2.mono (by simp; omega))).alloc ?_ _ |>.alloc ?_ _
    · have := b4'.lt; omega
    · have := b4'.lt; simp; omega
  have hgz : w.heap.size + 1 + 1 + 1 + 1 < w2.heap.size := b4'.lt
  generalize ((w2.alloc (.cells #[.int .i64 sl.id, .int .i64 sl.ep, .float .f64 sl.lo, .float .f64 sl.hi] 24)).alloc (.cells #[.int .i64 su.id, .int .i64 su.ep, .float .f64 su.lo, .float .f64 su.hi] 24)) = wz at *
  generalize w2.heap.size = g13 at *
  clear b0' b1' b2' b3' b4' hb2 s0 s1 s2 q0 q1 q2 z0 z1 z2 z3 z4 z5 z6 z7 z8 z9 z10 z11 g0 g1 g2 g3 hb0 l4 hst hs hq hsp
  obtain ⟨g1, s0, s1, s2⟩ := b1.three
  obtain ⟨g2, q0, q1, q2⟩ := b2.three
  obtain ⟨g0, z0, z1, z2, z3, z4, z5, z6, z7, z8, z9, z10, z11⟩ := b0.dozen
  obtain ⟨g13', x0, x1, x2, x3, -⟩ := r13.four
  obtain ⟨g14', y0, y1, y2, y3, -⟩ := r14.four
  go_wp2_with (first
    | (refine wpList_store_new rfl 30 _ _ rfl _ rfl rfl _ _ (by kernel_rfl) (by kernel_rfl) (by kernel_rfl) ?_))
  have b3z := (b3.alloc (.cells (nilCells sl f c) 30)).alloc (.cells (nilCells su q s) 30)
  have b4z := (b4.alloc (.cells (nilCells sl f c) 30)).alloc (.cells (nilCells su q s) 30)
  have b16 := (Blk.new wz 30 (nilCells sl f c)).alloc (.cells (nilCells su q s) 30)
  have b17 := Blk.new' (w := wz.alloc (.cells (nilCells sl f c) 30)) (g := wz.heap.size + 1) 30 (nilCells su q s) (by simp)
  have b0z := (b0.alloc (.cells (nilCells sl f c) 30)).alloc (.cells (nilCells su q s) 30)
  have hbf := (hbz.alloc (by omega) (.cells (nilCells sl f c) 30)).alloc (by simp; omega) (.cells (nilCells su q s) 30)
  have hgs : w.heap.size + 1 + 1 + 1 + 1 < wz.heap.size := by omega
  generalize (wz.alloc (.cells (nilCells sl f c) 30)).alloc (.cells (nilCells su q s) 30) = wy at *
  generalize wz.heap.size = g16 at *
  clear b0 b1 b2 b3 b4 r13 r14 hbz z0 z1 z2 z3 z4 z5 z6 z7 z8 z9 z10 z11 x0 x1 x2 x3 y0 y1 y2 y3 s0 s1 s2 q0 q1 q2
  obtain ⟨g0, z0, z1, z2, z3, z4, z5, z6, z7, z8, z9, z10, z11⟩ := b0z.dozen
  go_loop [68] (fun i => i = .int .i64 0) (fun _ => 0)
  case atStart => rfl
  case round =>
    obtain rfl := hrel
    go_wp2
    go_loop [97] (fun i => i = .int .i64 0) (fun _ => 0)
    case atStart => rfl
    case round =>
      obtain rfl := hrel
      go_wp2
      have hlt6 := b16.lt
      refine wp_region_held_drew (S := fun w' => Blk w' g16 30 (nilCells sl f c) ∧ Blk w' (g16 + 1) 30 (nilCells su q s)) (by kernel_rfl) ⟨b16, b17⟩ (fun hHeld => ?_)
      refine wpAnyH_take (i := 0) rfl (by kernel_rfl) (by kernel_rfl) (by kernel_rfl) (fun _ _ _ h => h) (yieldsIf_load_blk (by rfl) _ _ rfl g16 rfl _ _ _ (fun _ h => h.1) rfl rfl (by kernel_rfl)) hHeld ?_
      go_frame
      refine wpAnyH_take (i := 1) rfl (by kernel_rfl) (by kernel_rfl) (by kernel_rfl) (fun _ _ _ h => h) (yieldsIf_load_blk (by rfl) _ _ rfl (g16 + 1) rfl _ _ _ (fun _ h => h.2) rfl rfl (by kernel_rfl)) hHeld ?_
      go_frame
      refine wpAnyH_ready (rs := [2]) (by kernel_rfl) (by simp) ?_
      refine AllReadyH.cons rfl (fun K hK => ?_) AllReadyH.nil
      rw [if_pos (by rfl)]
      refine wp_store_row _ _ _ rfl _ _ rfl rfl _ _ b3z (by kernel_rfl) (by kernel_rfl) (by kernel_rfl) ?_
      refine hK.out _ _ ⟨b16.setRow_far _ (by omega), b17.setRow_far _ (by omega)⟩ (fun hHeld => ?_)
      clear hK K
      go_frame
      refine wpAnyH_ready (rs := [3]) (by kernel_rfl) (by simp) ?_
      refine AllReadyH.cons rfl (fun K hK => ?_) AllReadyH.nil
      rw [if_pos (by rfl)]
      refine wp_store_row _ _ _ rfl _ _ rfl rfl _ _ (b4z.setRow_far _ (by omega)) (by kernel_rfl) (by kernel_rfl) (by kernel_rfl) ?_
      refine hK.out _ _ ⟨(b16.setRow_far _ (by omega)).setRow_far _ (by omega), (b17.setRow_far _ (by omega)).setRow_far _ (by omega)⟩ (fun hHeld => ?_)
      clear hK K
      go_frame
      refine wpAnyH_ready (rs := [4]) (by kernel_rfl) (by simp) ?_
      refine AllReadyH.cons rfl (fun K hK => ?_) AllReadyH.nil
      rw [if_pos (by rfl)]
      go_simp
      refine hK.out _ _ ⟨(b16.setRow_far _ (by omega)).setRow_far _ (by omega), (b17.setRow_far _ (by omega)).setRow_far _ (by omega)⟩ (fun hHeld => ?_)
      clear hK K
      refine wpAnyH_done (by kernel_rfl) ?_ _
      have y3 := (b3z.setRow (nilCells sl f c)).setRow_far (g' := w.heap.size + 1 + 1 + 1 + 1) (nilCells su q s) (by omega)
      have y4 := (b4z.setRow_far (g' := w.heap.size + 1 + 1 + 1) (nilCells sl f c) (by omega)).setRow (nilCells su q s)
      go_wp2
      refine post_cell_cell_tmp rfl (by rfl) (by rfl) y3 y4 rfl rfl (by kernel_rfl) rfl rfl (by kernel_rfl) ?_
      exact ⟨rfl, below_setRow (below_setRow hbf.drew (by omega) _) (by omega) _⟩
end Go.Proofs.YtipacjbegfingaaGreat
/- The walk of Divide where it refuses. -/
namespace Go.Proofs.YtipacjbegfingaaGreat
set_option linter.unusedVariables false
open Go.RowKit Fl
attribute [local go_sem] run_store_float

/-- what Divide leaves -/
def DivPostS (w : World) (a b : Stt) (e : Int) : Ending → World → Prop := fun en w' => ∃ h1 p1 h2 p2, en = .returned (.tuple #[.agg (a.arr h1 p1), .agg (b.arr h2 p2), .int .i64 e]) ∧
  HdRel HsRel 2 w' w'.heap.size h1 a.h ∧ HdRel PnRel 8 w' w'.heap.size p1 a.p ∧ HdRel HsRel 2 w' w'.heap.size h2 b.h ∧ HdRel PnRel 8 w' w'.heap.size p2 b.p ∧ Below w.heap.size w w'
theorem DivPostS.zero {w w' : World} {e : Int} (hb : Below w.heap.size w w') : DivPostS w zeroS zeroS e (.returned (.tuple #[.agg zeroCells, .agg zeroCells, .int .i64 e])) w' :=
  ⟨_, _, _, _, rfl, HdRel.nil, HdRel.nil, HdRel.nil, HdRel.nil, hb⟩

section
variable (s : Stt) (A1 A2 : Option Addr) (n1 n2 c1 c2 : Nat) (x : Nat) (k : Int) (st fl : Sp) (w : World)
end
end Go.Proofs.YtipacjbegfingaaGreat
/- What lists and states weigh: the document's WeighTexts, WeighHistories, WeighPendings, WeighState. -/
namespace Go.Proofs.YtipacjbegfingaaGreat
set_option linter.unusedVariables false
open Go.RowKit Fl

/-- a weighing in general: f adds an element, up to most -/
def weighG {α : Type} (f : α → Int → Int) (most : Int) : Int → List α → Int
  | n, [] => n
  | n, a :: l => if n ≤ most then weighG f most (f a n) l else n
section
variable {α : Type} {f : α → Int → Int} {most n : Int} {l : List α}
theorem weighG_drop {k : Nat} {a : α} (h : l[k]? = some a) (hn : n ≤ most) : weighG f most n (l.drop k) = weighG f most (f a n) (l.drop (k + 1)) := by
  have h1 := List.getElem?_eq_some_iff.1 h
  rw [List.drop_eq_getElem_cons h1.1, h1.2]
  show (if _ then _ else _) = _
  rw [if_pos hn]
theorem weighG_stop (l : List α) (hn : most < n) : weighG f most n l = n := by
  cases l with
  | nil => rfl
  | cons a l => show (if _ then _ else _) = _; rw [if_neg (by omega)]
theorem weighG_range (hf : ∀ a ∈ l, ∀ n, 0 ≤ n → n ≤ most → 0 ≤ f a n ∧ f a n ≤ 2 * most + 1) (h0 : 0 ≤ n) (h1 : n ≤ 2 * most + 1) : 0 ≤ weighG f most n l ∧ weighG f most n l ≤ 2 * most + 1 := by
  induction l generalizing n with
  | nil => exact ⟨h0, h1⟩
  | cons a l ih =>
    by_cases hn : n ≤ most
    · have e : weighG f most n (a :: l) = weighG f most (f a n) l := by show (if _ then _ else _) = _; rw [if_pos hn]
      rw [e]
      have := hf a (List.mem_cons_self ..) n h0 hn
      exact ih (fun b hb => hf b (List.mem_cons_of_mem _ hb)) this.1 this.2
    · rw [weighG_stop _ (by omega)]; exact ⟨h0, h1⟩
theorem weighG_le (P : α → Prop) (hf : ∀ a n, 0 ≤ n → n ≤ most → 0 ≤ f a n ∧ (f a n ≤ most → n + 1 ≤ f a n ∧ P a)) (h0 : 0 ≤ n) (h : weighG f most n l ≤ most) : n + (l.length : Int) ≤ most ∧ ∀ a ∈ l, P a := by
  induction l generalizing n with
  | nil => exact ⟨by simpa [weighG] using h, by simp⟩
  | cons a l ih =>
    by_cases hn : n ≤ most
    · have e : weighG f most n (a :: l) = weighG f most (f a n) l := by show (if _ then _ else _) = _; rw [if_pos hn]
      rw [e] at h
      obtain ⟨h1, h2⟩ := hf a n h0 hn
      obtain ⟨h3, h4⟩ := ih h1 h
      obtain ⟨h5, h6⟩ := h2 (by omega)
      refine ⟨by rw [List.length_cons]; omega, fun b hb => ?_⟩
      rcases List.mem_cons.1 hb with rfl | hb
      · exact h6
      · exact h4 b hb
    · rw [weighG_stop _ (by omega)] at h; omega
end
def stepT (most : Int) (a : ByteArray) (n : Int) : Int := fewI n (1 + (a.size : Int)) most
def weighT (most : Int) (l : List ByteArray) : Int := weighG (stepT most) most 0 l
def stepV (most : Int) (a : Vn) (n : Int) : Int := fewI n (1 + (a.v.t.size : Int)) most
def stepH (most : Int) (h : Hs) (n : Int) : Int := weighG (stepV most) most (fewI n (1 + (h.key.size : Int)) most) h.vs
def weighH (most : Int) (l : List Hs) : Int := weighG (stepH most) most 0 l
def stepP (most : Int) (p : Pn) (n : Int) : Int := fewI (fewI n (1 + weighT most p.r) most) (weighW most 0 p.w) most
def weighP (most : Int) (l : List Pn) : Int := weighG (stepP most) most 0 l
def weighS (most : Int) (s : Stt) : Int := fewI (weighH most s.h) (weighP most s.p) most
section
variable {most n : Int}
theorem stepT_range (a : ByteArray) (hm : 0 ≤ most) (h0 : 0 ≤ n) : 0 ≤ stepT most a n ∧ stepT most a n ≤ 2 * most + 1 ∧ (stepT most a n ≤ most → n + 1 ≤ stepT most a n) := by
  have := fewI_range (n := n) (more := 1 + (a.size : Int)) (most := most) h0 (by omega) hm
  unfold stepT
  exact ⟨this.1, this.2.1, fun h => by rw [this.2.2 h]; omega⟩
theorem stepV_range (a : Vn) (hm : 0 ≤ most) (h0 : 0 ≤ n) : 0 ≤ stepV most a n ∧ stepV most a n ≤ 2 * most + 1 ∧ (stepV most a n ≤ most → n + 1 ≤ stepV most a n) := by
  have := fewI_range (n := n) (more := 1 + (a.v.t.size : Int)) (most := most) h0 (by omega) hm
  unfold stepV
  exact ⟨this.1, this.2.1, fun h => by rw [this.2.2 h]; omega⟩
theorem weighT_range (l : List ByteArray) (hm : 0 ≤ most) : 0 ≤ weighT most l ∧ weighT most l ≤ 2 * most + 1 := weighG_range (fun a _ n h0 _ => ⟨(stepT_range a hm h0).1, (stepT_range a hm h0).2.1⟩) (by omega) (by omega)
theorem weighT_le {l : List ByteArray} (hm : 0 ≤ most) (h : weighT most l ≤ most) : (l.length : Int) ≤ most := by
  have := (weighG_le (f := stepT most) (fun _ => True) (fun a n h0 _ => ⟨(stepT_range a hm h0).1, fun h => ⟨(stepT_range a hm h0).2.2 h, trivial⟩⟩) (by omega) h).1
  omega
theorem stepH_range (a : Hs) (hm : 0 ≤ most) (h0 : 0 ≤ n) : 0 ≤ stepH most a n ∧ stepH most a n ≤ 2 * most + 1 ∧ (stepH most a n ≤ most → n + 1 ≤ stepH most a n ∧ (a.vs.length : Int) ≤ most) := by
  have h2 := fewI_range (n := n) (more := 1 + (a.key.size : Int)) (most := most) h0 (by omega) hm
  have h3 := weighG_range (f := stepV most) (most := most) (n := fewI n (1 + (a.key.size : Int)) most) (l := a.vs) (fun a _ n h0 _ => ⟨(stepV_range a hm h0).1, (stepV_range a hm h0).2.1⟩) h2.1 h2.2.1
  unfold stepH
  refine ⟨h3.1, h3.2, fun h => ?_⟩
  have h4 := (weighG_le (f := stepV most) (fun _ => True) (fun a n h0 _ => ⟨(stepV_range a hm h0).1, fun h => ⟨(stepV_range a hm h0).2.2 h, trivial⟩⟩) h2.1 h).1
  have h5 := h2.2.2 (by omega)
  have h6 : fewI n (1 + (a.key.size : Int)) most ≤ weighG (stepV most) most (fewI n (1 + (a.key.size : Int)) most) a.vs := by
    have up : ∀ (l : List Vn) (n : Int), 0 ≤ n → weighG (stepV most) most n l ≤ most → n ≤ weighG (stepV most) most n l := by
      intro l
      induction l with
      | nil => intro n _ _; exact Int.le_refl _
      | cons b l ih =>
        intro n hn hl
        by_cases hle : n ≤ most
        · have e : weighG (stepV most) most n (b :: l) = weighG (stepV most) most (stepV most b n) l := by show (if _ then _ else _) = _; rw [if_pos hle]
          rw [e] at hl ⊢
          have h7 := stepV_range b hm hn
          have h8 := ih _ h7.1 hl
          have h9 := h7.2.2 (by omega)
          omega
        · rw [weighG_stop _ (by omega)]; exact Int.le_refl _
    exact up _ _ h2.1 h
  omega
theorem weighH_range (l : List Hs) (hm : 0 ≤ most) : 0 ≤ weighH most l ∧ weighH most l ≤ 2 * most + 1 := weighG_range (fun a _ n h0 _ => ⟨(stepH_range a hm h0).1, (stepH_range a hm h0).2.1⟩) (by omega) (by omega)
theorem weighW_len {l : List Wt} (hm : 0 ≤ most) (h : weighW most 0 l ≤ most) : (l.length : Int) ≤ most := by
  have h1 := weighW_le l most 0 (by omega) hm h
  have h2 : (l.length : Int) ≤ (l.map fun a => 1 + (a.key.size : Int) + (a.v.t.size : Int)).sum := by
    clear h1 h
    induction l with
    | nil => simp
    | cons a l ih => simp only [List.map_cons, List.sum_cons, List.length_cons]; omega
  omega
theorem weighW_range : ∀ (l : List Wt) (n : Int), 0 ≤ most → 0 ≤ n → n ≤ 2 * most + 1 → 0 ≤ weighW most n l ∧ weighW most n l ≤ 2 * most + 1 := by
  intro l
  induction l with
  | nil => intro n _ h0 h1; exact ⟨h0, h1⟩
  | cons a l ih =>
    intro n hm h0 h1
    by_cases hle : n ≤ most
    · have e : weighW most n (a :: l) = weighW most (stepW most n a) l := by show (if _ then _ else _) = _; rw [if_pos hle]
      rw [e]
      have h2 := fewI_range (n := n) (more := 1 + (a.key.size : Int)) (most := most) h0 (by omega) hm
      have h3 := fewI_range (n := fewI n (1 + (a.key.size : Int)) most) (more := (a.v.t.size : Int)) (most := most) h2.1 (by omega) hm
      exact ih _ hm h3.1 h3.2.1
    · rw [weighW_stop _ (by omega)]; exact ⟨h0, h1⟩
theorem stepP_range (p : Pn) (hm : 0 ≤ most) (h0 : 0 ≤ n) : 0 ≤ stepP most p n ∧ stepP most p n ≤ 2 * most + 1 ∧ (stepP most p n ≤ most → n + 1 ≤ stepP most p n ∧ (p.r.length : Int) ≤ most ∧ (p.w.length : Int) ≤ most) := by
  have h1 := weighT_range p.r hm
  have h2 := weighW_range p.w 0 hm (by omega) (by omega)
  have h3 := fewI_range (n := n) (more := 1 + weighT most p.r) (most := most) h0 (by omega) hm
  have h4 := fewI_range (n := fewI n (1 + weighT most p.r) most) (more := weighW most 0 p.w) (most := most) h3.1 h2.1 hm
  unfold stepP
  refine ⟨h4.1, h4.2.1, fun h => ?_⟩
  have h5 := h4.2.2 h
  have h6 := h3.2.2 (by omega)
  exact ⟨by omega, weighT_le hm (by omega), weighW_len hm (by omega)⟩
theorem weighP_range (l : List Pn) (hm : 0 ≤ most) : 0 ≤ weighP most l ∧ weighP most l ≤ 2 * most + 1 := weighG_range (fun a _ n h0 _ => ⟨(stepP_range a hm h0).1, (stepP_range a hm h0).2.1⟩) (by omega) (by omega)
/-- a state that weighs no more than most is short -/
theorem weighS_small {s : Stt} (hm : 0 ≤ most) (hm1 : most ≤ 1000000) (h : weighS most s ≤ most) : SmallH s.h ∧ SmallP s.p := by
  unfold weighS at h
  have h1 := weighH_range s.h hm
  have h2 := weighP_range s.p hm
  have h3 := (fewI_range (n := weighH most s.h) (more := weighP most s.p) (most := most) h1.1 h2.1 hm).2.2 h
  have h4 : weighH most s.h ≤ most := by omega
  have h5 : weighP most s.p ≤ most := by omega
  obtain ⟨a1, a2⟩ := weighG_le (f := stepH most) (fun a => (a.vs.length : Int) ≤ most) (fun a n h0 _ => ⟨(stepH_range a hm h0).1, (stepH_range a hm h0).2.2⟩) (n := 0) (by omega) h4
  obtain ⟨b1, b2⟩ := weighG_le (f := stepP most) (fun p => (p.r.length : Int) ≤ most ∧ (p.w.length : Int) ≤ most) (fun a n h0 _ => ⟨(stepP_range a hm h0).1, (stepP_range a hm h0).2.2⟩) (n := 0) (by omega) h5
  exact ⟨⟨by omega, fun x hx => by have := a2 x hx; omega⟩, ⟨by omega, fun p hp => by have := b2 p hp; omega⟩⟩
end

def WeighGRel0 {α : Type} (f : α → Int → Int) (most : Int) (l : List α) (n0 : Int) (w : World) (s i : Value) (wr : World) : Prop :=
  ∃ (k : Nat) (n : Int), k ≤ l.length ∧ i = .int .i64 (k : Int) ∧ s = .int .i64 n ∧ 0 ≤ n ∧ n ≤ 2 * most + 1 ∧ weighG f most n (l.drop k) = weighG f most n0 l ∧ w = wr
def WeighGRel {α : Type} (f : α → Int → Int) (most : Int) (l : List α) (n0 : Int) (w : World) (s i : Value) (wr : World) : Prop :=
  ∃ (k q : Nat) (n : Int), k ≤ l.length ∧ i = .int .i64 (k : Int) ∧ s = .int .i64 n ∧ 0 ≤ n ∧ n ≤ 2 * most + 1 ∧ weighG f most n (l.drop k) = weighG f most n0 l ∧ w.drewN q = wr

set_option maxRecDepth 100000 in
set_option maxHeartbeats 4000000 in
theorem weighT_any (A : Option Addr) (n c : Nat) (l : List ByteArray) (most : Int) (w : World) (h : Sl KyRel 1 w w.heap.size A n l) (hn : n ≤ maxLen) (hm0 : 0 ≤ most) (hm1 : most ≤ 1000000) :
    Calls Tryz.prog 73 #[.slice A n c, .int .i64 most] w fun e w' => e = .returned (.int .i64 (weighT most l)) ∧ w = w' := by
  unfold maxLen at hn
  have hl := h.1
  have hle : l.length ≤ n := by omega
  have hge : n ≤ l.length := by omega
  clear hl
  go_enter Tryz.func73, Tryz.ntmps73
  go_wp2
  go_loopw [5, 6] (fun s i wr => WeighGRel0 (stepT most) most l 0 w s i wr) (fun _ i _ => n - (intOf i).toNat)
  case atStart => exact ⟨0, 0, by omega, rfl, rfl, by omega, by omega, rfl, rfl⟩
  case round =>
    obtain ⟨k, s, hk, rfl, rfl, hs0, hs1, hs, rfl⟩ := hrel
    by_cases hlt : k < n
    · have hd1 : decide ((k : Int) < (n : Int)) = true := by simp; omega
      by_cases hst : s ≤ most
      · obtain ⟨ad, a, rfl, ha, hbk, hok, c0⟩ := h.ky hlt
        have hd2 : decide (s ≤ most) = true := by simp [hst]
        have hk0 : (0 : Int) ≤ (k : Int) := by omega
        have hk1 : (k : Int) < (n : Int) := by omega
        rw [weighG_drop ha hst] at hs
        have HS := Lib.hid hs
        have hr1 := stepT_range (n := s) (most := most) a hm0 hs0
        have hr2 := hr1.1
        have hr3 := hr1.2.1
        have hwr : IntKind.i64.wrap (1 + (a.size : Int)) = 1 + (a.size : Int) := by rw [IntKind.wrap_i64]; omega
        clear hr1 ha hs
        go_wp2_with ((with_reducible refine (wfew _ _ _ _ (by omega) (by omega) (by omega) (by omega) hm0 (by omega)).mono ?_); rintro e w1 ⟨rfl, rfl⟩)
        go_roundw
        case rel => exact ⟨k + 1, stepT most a s, by omega, by go_num, rfl, hr2, hr3, HS.out, rfl⟩
        case measure => simp [intOf]; omega
      · have hd2 : decide (s ≤ most) = false := by simp; omega
        rw [weighG_stop _ (by omega)] at hs
        have HS := Lib.hid (show s = weighT most l from hs)
        clear hs
        go_wp2
        go_ret
        rw [← HS.out]
        exact ⟨rfl, rfl⟩
    · have hd1 : decide ((k : Int) < (n : Int)) = false := by simp; omega
      rw [List.drop_of_length_le (by omega)] at hs
      have HS : RowKit.Hid (s = weighT most l) := Lib.hid hs
      clear hs
      go_wp2
      go_ret
      rw [← HS.out]
      exact ⟨rfl, rfl⟩

def WeighV (most : Int) (l : List Vn) (m0 : Int) (w : World) (s i : Value) (wr : World) : Prop := WeighGRel0 (stepV most) most l m0 w s i wr
set_option maxRecDepth 100000 in
set_option maxHeartbeats 4000000 in
theorem weighH_any (A : Option Addr) (n c : Nat) (l : List Hs) (most : Int) (w : World) (h : Sl HsRel 2 w w.heap.size A n l) (hn : n ≤ maxLen) (hm0 : 0 ≤ most) (hm1 : most ≤ 1000000) :
    Calls Tryz.prog 44 #[.slice A n c, .int .i64 most] w fun e w' => e = .returned (.int .i64 (weighH most l)) ∧ w = w' := by
  unfold maxLen at hn
  have hl := h.1
  have hle : l.length ≤ n := by omega
  have hge : n ≤ l.length := by omega
  clear hl
  go_enter Tryz.func44, Tryz.ntmps44
  go_wp2
  go_loopw [5, 6] (fun s i wr => WeighGRel0 (stepH most) most l 0 w s i wr) (fun _ i _ => n - (intOf i).toNat)
  case atStart => exact ⟨0, 0, by omega, rfl, rfl, by omega, by omega, rfl, rfl⟩
  case round =>
    obtain ⟨k, s, hk, rfl, rfl, hs0, hs1, hs, rfl⟩ := hrel
    by_cases hlt : k < n
    · have hd1 : decide ((k : Int) < (n : Int)) = true := by simp; omega
      by_cases hst : s ≤ most
      · obtain ⟨ad, a, A', n', c', rfl, ha, hbk, hok, c0, c1, hn', hc', hsv⟩ := h.hs hlt
        have hd2 : decide (s ≤ most) = true := by simp [hst]
        have hk0 : (0 : Int) ≤ (k : Int) := by omega
        have hk1 : (k : Int) < (n : Int) := by omega
        unfold maxLen at hc'
        have hl' := hsv.1
        have hle' : a.vs.length ≤ n' := by omega
        have hge' : n' ≤ a.vs.length := by omega
        clear hl'
        rw [weighG_drop ha hst] at hs
        have HS := Lib.hid hs
        have hr1 := fewI_range (n := s) (more := 1 + (a.key.size : Int)) (most := most) hs0 (by omega) hm0
        have hr2 := hr1.1
        have hr3 := hr1.2.1
        have hst1 := stepH_range (n := s) a hm0 hs0
        have hst2 := hst1.1
        have hst3 := hst1.2.1
        have hwr : IntKind.i64.wrap (1 + (a.key.size : Int)) = 1 + (a.key.size : Int) := by rw [IntKind.wrap_i64]; omega
        have HE := Lib.hid (show stepH most a s = weighG (stepV most) most (fewI s (1 + (a.key.size : Int)) most) a.vs from rfl)
        clear hr1 ha hs hst1
        go_wp2_with ((with_reducible refine (wfew _ _ _ _ (by omega) (by omega) (by omega) (by omega) hm0 (by omega)).mono ?_); rintro e w1 ⟨rfl, rfl⟩)
        generalize fewI s (1 + (a.key.size : Int)) most = m0 at *
        generalize stepH most a s = m1 at *
        go_loopw [5, 7] (fun s i wr => WeighV most a.vs m0 w s i wr) (fun _ i _ => n' - (intOf i).toNat)
        case atStart => exact ⟨0, m0, by omega, rfl, rfl, hr2, hr3, rfl, rfl⟩
        case round =>
          obtain ⟨k2, s2, hk2, rfl, rfl, hs02, hs12, hs2, rfl⟩ := hrel
          by_cases hlt2 : k2 < n'
          · have hd3 : decide ((k2 : Int) < (n' : Int)) = true := by simp; omega
            by_cases hst2 : s2 ≤ most
            · obtain ⟨ad2, v, rfl, hv, hbk2, hok2, e0, e1, e2, e3, e4, e5⟩ := hsv.vn hlt2
              have hd4 : decide (s2 ≤ most) = true := by simp [hst2]
              have hk02 : (0 : Int) ≤ (k2 : Int) := by omega
              have hk12 : (k2 : Int) < (n' : Int) := by omega
              rw [weighG_drop hv hst2] at hs2
              have HS2 := Lib.hid hs2
              have hsz := hok2.2.2.2
              have hr1 := stepV_range (n := s2) (most := most) v hm0 hs02
              have hr4 := hr1.1
              have hr5 := hr1.2.1
              have hwr2 : IntKind.i64.wrap (1 + (v.v.t.size : Int)) = 1 + (v.v.t.size : Int) := by rw [IntKind.wrap_i64]; omega
              clear hr1 hv hs2 hwr
              go_wp2_with ((with_reducible refine (wfew _ _ _ _ (by omega) (by omega) (by omega) (by omega) hm0 (by omega)).mono ?_); rintro e w1 ⟨rfl, rfl⟩)
              go_roundw
              case rel => exact ⟨k2 + 1, stepV most v s2, by omega, by go_num, rfl, hr4, hr5, HS2.out, rfl⟩
              case measure => simp [intOf]; omega
            · have hd4 : decide (s2 ≤ most) = false := by simp; omega
              rw [weighG_stop _ (by omega)] at hs2
              have HS2 := Lib.hid (show m1 = s2 by rw [HE.out, hs2])
              clear hs2 hwr
              go_wp2
              go_roundw
              case rel => exact ⟨k + 1, s2, by omega, by go_num, rfl, hs02, hs12, by rw [← HS2.out]; exact HS.out, rfl⟩
              case measure => simp [intOf]; omega
          · have hd3 : decide ((k2 : Int) < (n' : Int)) = false := by simp; omega
            rw [List.drop_of_length_le (by omega)] at hs2
            have HS2 := Lib.hid (show m1 = s2 by rw [HE.out, ← hs2]; rfl)
            clear hs2 hwr
            go_wp2
            go_roundw
            case rel => exact ⟨k + 1, s2, by omega, by go_num, rfl, hs02, hs12, by rw [← HS2.out]; exact HS.out, rfl⟩
            case measure => simp [intOf]; omega
      · have hd2 : decide (s ≤ most) = false := by simp; omega
        rw [weighG_stop _ (by omega)] at hs
        have HS := Lib.hid (show s = weighH most l from hs)
        clear hs
        go_wp2
        go_ret
        rw [← HS.out]
        exact ⟨rfl, rfl⟩
    · have hd1 : decide ((k : Int) < (n : Int)) = false := by simp; omega
      rw [List.drop_of_length_le (by omega)] at hs
      have HS : RowKit.Hid (s = weighH most l) := Lib.hid hs
      clear hs
      go_wp2
      go_ret
      rw [← HS.out]
      exact ⟨rfl, rfl⟩

/-- a callee that only draws, in a quiet walk -/
theorem quiet_more {P : Program} {f : FuncId} {args : Array Value} {v : Value} {w : World} {Q q : Nat} (h : Calls P f args (w.drewN (Q + q)) fun e w' => e = .returned v ∧ ∃ m, (w.drewN (Q + q)).drewN m = w') :
    Calls P f args (w.drewN (Q + q)) fun e w' => e = .returned v ∧ ∃ m, w' = w.drewN (Q + m) := h.mono fun _ _ ⟨he, m, hw⟩ => ⟨he, q + m, by rw [← hw, World.drewN_drewN, Nat.add_assoc]⟩
theorem quietMore {P : Program} {f : FuncId} {args : Array Value} {v : Value} {w : World} {q : Nat} (h : Calls P f args (w.drewN q) fun e w' => e = .returned v ∧ ∃ m, (w.drewN q).drewN m = w') :
    Calls P f args (w.drewN q) fun e w' => e = .returned v ∧ ∃ m, w' = w.drewN m := h.mono fun _ _ ⟨he, m, hw⟩ => ⟨he, q + m, by rw [← hw, World.drewN_drewN]⟩

set_option maxRecDepth 100000 in
set_option maxHeartbeats 4000000 in
theorem weighP_any (A : Option Addr) (n c : Nat) (l : List Pn) (most : Int) (w : World) (h : Sl PnRel 8 w w.heap.size A n l) (hn : n ≤ maxLen) (hm0 : 0 ≤ most) (hm1 : most ≤ 1000000) :
    Calls Tryz.prog 45 #[.slice A n c, .int .i64 most] w fun e w' => e = .returned (.int .i64 (weighP most l)) ∧ ∃ q, w.drewN q = w' := by
  unfold maxLen at hn
  have hl := h.1
  have hle : l.length ≤ n := by omega
  have hge : n ≤ l.length := by omega
  clear hl
  go_enter Tryz.func45, Tryz.ntmps45
  go_wp2
  go_loopw [5, 6] (fun s i wr => WeighGRel (stepP most) most l 0 w s i wr) (fun _ i _ => n - (intOf i).toNat)
  case atStart => exact ⟨0, 0, 0, by omega, rfl, rfl, by omega, by omega, rfl, rfl⟩
  case round =>
    obtain ⟨k, q, s, hk, rfl, rfl, hs0, hs1, hs, rfl⟩ := hrel
    by_cases hlt : k < n
    · have hd1 : decide ((k : Int) < (n : Int)) = true := by simp; omega
      by_cases hst : s ≤ most
      · obtain ⟨ad, p, A1, n1, c1, A2, n2, c2, rfl, ha, hbk, hpt, hps, d0, d1, d2, d3, d4, d5, d6, d7, hn1, hc1, hs1', hn2, hc2, hs2'⟩ := h.pn hlt
        have hd2 : decide (s ≤ most) = true := by simp [hst]
        have hk0 : (0 : Int) ≤ (k : Int) := by omega
        have hk1 : (k : Int) < (n : Int) := by omega
        rw [weighG_drop ha hst] at hs
        have HS := Lib.hid hs
        have hT := weighT_range p.r hm0
        have hT1 := hT.1
        have hT2 := hT.2
        have hW := weighW_range p.w 0 hm0 (by omega) (by omega)
        have hW1 := hW.1
        have hW2 := hW.2
        have hF := fewI_range (n := s) (more := 1 + weighT most p.r) (most := most) hs0 (by omega) hm0
        have hF1 := hF.1
        have hF2 := hF.2.1
        have hr1 := stepP_range (n := s) p hm0 hs0
        have hr2 := hr1.1
        have hr3 := hr1.2.1
        have hwr : IntKind.i64.wrap (1 + weighT most p.r) = 1 + weighT most p.r := by rw [IntKind.wrap_i64]; omega
        clear hr1 ha hs hT hW hF
        go_wp2
        go_quiet (first
          | (go_at_call 73; exact quiet_same (weighT_any A1 n1 c1 p.r most _ hs1' (by omega) hm0 hm1))
          | (go_at_call 74; exact quiet_more (weigh_any A2 n2 c2 p.w most _ hs2' (by omega) hm0 hm1))
          | (go_at_call 43; exact quiet_same (wfew _ _ _ _ (by omega) (by omega) (by omega) (by omega) hm0 (by omega))))
        go_wp2
        go_roundw
        case rel => exact ⟨k + 1, q + nq, stepP most p s, by omega, by go_num, rfl, hr2, hr3, HS.out, rfl⟩
        case measure => simp [intOf]; omega
      · have hd2 : decide (s ≤ most) = false := by simp; omega
        rw [weighG_stop _ (by omega)] at hs
        have HS := Lib.hid (show s = weighP most l from hs)
        clear hs
        go_wp2
        go_ret
        rw [← HS.out]
        exact ⟨rfl, q, rfl⟩
    · have hd1 : decide ((k : Int) < (n : Int)) = false := by simp; omega
      rw [List.drop_of_length_le (by omega)] at hs
      have HS : RowKit.Hid (s = weighP most l) := Lib.hid hs
      clear hs
      go_wp2
      go_ret
      rw [← HS.out]
      exact ⟨rfl, q, rfl⟩

set_option maxRecDepth 100000 in
set_option maxHeartbeats 4000000 in
theorem weighS_any (s : Stt) (A1 A2 : Option Addr) (n1 n2 c1 c2 : Nat) (most : Int) (w : World) (h1 : Sl HsRel 2 w w.heap.size A1 n1 s.h) (h2 : Sl PnRel 8 w w.heap.size A2 n2 s.p) (hn1 : n1 ≤ maxLen) (hn2 : n2 ≤ maxLen) (hm0 : 0 ≤ most) (hm1 : most ≤ 1000000) :
    Calls Tryz.prog 15 #[.agg (s.arr (.slice A1 n1 c1) (.slice A2 n2 c2)), .int .i64 most] w fun e w' => e = .returned (.int .i64 (weighS most s)) ∧ Below w.heap.size w w' := by
  have hX : Below w.heap.size w (w.alloc (.cells (s.arr (.slice A1 n1 c1) (.slice A2 n2 c2)) 30)) := by go_grown
  have k1 := (h1.below HsRel.kept hX).more HsRel.kept hX.size
  have k2 := (h2.below PnRel.kept hX).more PnRel.kept hX.size
  have hH := weighH_range s.h hm0
  have hH1 := hH.1
  have hH2 := hH.2
  have hP := weighP_range s.p hm0
  have hP1 := hP.1
  have hP2 := hP.2
  clear hH hP
  go_enter Tryz.func15, Tryz.ntmps15
  go_wp2
  go_quiet (first
    | (go_at_call 44; exact quietSame (weighH_any A1 n1 c1 s.h most _ k1 hn1 hm0 hm1))
    | (go_at_call 45; exact quietMore (weighP_any A2 n2 c2 s.p most _ k2 hn2 hm0 hm1))
    | (go_at_call 43; exact quietSame (wfew _ _ _ _ (by omega) (by omega) (by omega) (by omega) hm0 (by omega))))
  go_wp2
  go_ret
  exact ⟨rfl, hX.trans ((belowN _).mono hX.size)⟩
end Go.Proofs.YtipacjbegfingaaGreat
/- The walk of first: the chapter's examples. -/
namespace Go.Proofs.YtipacjbegfingaaGreat
open Go.RowKit Fl
attribute [local go_sem] run_store_float

theorem setRow_alloc2 (w : World) (t : TypeId) (c c' : Array Value) (o : Obj) : ((w.alloc (.cells c t)).alloc o).setRow w.heap.size c' = (w.alloc (.cells c' t)).alloc o := by
  unfold World.setRow World.alloc
  congr 1
  apply Array.ext_getElem?
  intro i
  simp only [Array.getElem?_modify, Array.getElem?_push, Array.size_push]
  by_cases h : i = w.heap.size
  · subst h; simp
  · have h' : w.heap.size ≠ i := fun e => h e.symm
    by_cases h2 : i = w.heap.size + 1
    · subst h2; simp
    · simp [h, h', h2]
/-- a store of a whole struct into the box that is new but one -/
theorem wpList_store_new2 {P : Program} {ops : Array Oper} {rest : List Oper} {o : Oper} {a : Act} {w : World} {Q : Exit → Act → World → Prop} (hgd : o.guard = none) (ty : TypeId) (x y : Operand) (ho : o.op = .store ty x y)
    (cells : Array Value) (hx : a.eval x = .pointer (some ⟨w.heap.size, 0, none⟩)) (hy : a.eval y = .agg cells)
    (t : TypeId) (old : Array Value) (ob : Obj) (hi : (P.info? ty).map (·.size) = some cells.size)
    (hold : old.size = cells.size) (h1 : cells.all (·.oneCell') = true)
    (h : wpList P ops Q rest (a.put o.dst undef) ((w.alloc (.cells cells t)).alloc ob)) : wpList P ops Q (o :: rest) a ((w.alloc (.cells old t)).alloc ob) :=
  wpList_store_row hgd ty x y ho _ cells hx hy t old ((Blk.new w t old).alloc ob) hi hold h1 (by rw [setRow_alloc2]; exact h)

theorem firstE : splitE ⟨1, 0, 0, 4607182418800017408⟩ 4602678819172646912 2 = 0 := by kernel_rfl
theorem firstL : splitL ⟨1, 0, 0, 4607182418800017408⟩ 4602678819172646912 2 = ⟨1, 1, 0, 4602678819172646912⟩ := by kernel_rfl
theorem firstU : splitU ⟨1, 0, 0, 4607182418800017408⟩ 4602678819172646912 2 = ⟨2, 0, 4602678819172646912, 4607182418800017408⟩ := by kernel_rfl
theorem firstM : mayR ⟨1, 0, 0, 4607182418800017408⟩ = true := by kernel_rfl
theorem firstE2 : splitE ⟨1, 0, 0, 4607182418800017408⟩ 0 2 = 24 := by kernel_rfl
theorem firstOk : Rg.ok ⟨1, 0, 0, 4607182418800017408⟩ := by unfold Rg.ok i64ok; simp

theorem div1 (w : World) : Calls Tryz.prog 11 #[nilVal ⟨1, 0, 0, 4607182418800017408⟩ ⟨0, 0, 0⟩ ⟨0, 0, 0⟩, .float .f64 4602678819172646912, .int .i64 2, .agg #[.int .i64 5, .int .i64 0, .int .i64 1], .agg #[.int .i64 9, .int .i64 0, .int .i64 0]] w
    (DivPost w (nilVal ⟨1, 1, 0, 4602678819172646912⟩ ⟨0, 0, 0⟩ ⟨0, 0, 0⟩) (nilVal ⟨2, 0, 4602678819172646912, 4607182418800017408⟩ ⟨9, 0, 0⟩ ⟨5, 0, 1⟩) 0) := by
  have h := divide_ok ⟨1, 0, 0, 4607182418800017408⟩ ⟨0, 0, 0⟩ ⟨0, 0, 0⟩ ⟨5, 0, 1⟩ ⟨9, 0, 0⟩ 4602678819172646912 2 w firstOk (by omega) firstM (by kernel_rfl) (by kernel_rfl) (by kernel_rfl) (by kernel_rfl) firstE
  rw [firstL, firstU] at h
  exact h
theorem div2 (w : World) : Calls Tryz.prog 11 #[nilVal ⟨1, 0, 0, 4607182418800017408⟩ ⟨0, 0, 0⟩ ⟨0, 0, 0⟩, .float .f64 0, .int .i64 2, .agg #[.int .i64 0, .int .i64 0, .int .i64 0], .agg #[.int .i64 0, .int .i64 0, .int .i64 0]] w
    (DivPost w zeroState zeroState 24) := by
  have h := divide_no ⟨1, 0, 0, 4607182418800017408⟩ ⟨0, 0, 0⟩ ⟨0, 0, 0⟩ ⟨0, 0, 0⟩ ⟨0, 0, 0⟩ 0 2 w firstOk (by omega) firstM (by kernel_rfl) (by kernel_rfl) (by kernel_rfl) (by kernel_rfl) (by rw [firstE2]; omega)
  rw [firstE2] at h
  exact h
theorem rng1 (w : World) : Calls Tryz.prog 14 #[.agg #[.int .i64 1, .int .i64 1, .float .f64 0, .float .f64 4602678819172646912], .agg #[.int .i64 1, .int .i64 1, .float .f64 0, .float .f64 4602678819172646912]] w fun e w' => e = .returned (.bool true) ∧ Below w.heap.size w w' :=
  range_any ⟨1, 1, 0, 4602678819172646912⟩ ⟨1, 1, 0, 4602678819172646912⟩ w
theorem rng2 (w : World) : Calls Tryz.prog 14 #[.agg #[.int .i64 2, .int .i64 0, .float .f64 4602678819172646912, .float .f64 4607182418800017408], .agg #[.int .i64 2, .int .i64 0, .float .f64 4602678819172646912, .float .f64 4607182418800017408]] w fun e w' => e = .returned (.bool true) ∧ Below w.heap.size w w' :=
  range_any ⟨2, 0, 4602678819172646912, 4607182418800017408⟩ ⟨2, 0, 4602678819172646912, 4607182418800017408⟩ w

set_option maxRecDepth 100000 in
set_option maxHeartbeats 4000000 in
theorem first_any (w : World) : Calls Tryz.prog 5 #[] w fun e w' => e = .returned (.bool true) ∧ Below w.heap.size w w' := by
  go_enter Tryz.func5, Tryz.ntmps5
  go_wp2_with (first
    | (refine wpList_store_new rfl 30 _ _ rfl _ rfl rfl _ _ (by kernel_rfl) (by kernel_rfl) (by kernel_rfl) ?_)
    | (refine wpList_store_new2 rfl 30 _ _ rfl _ rfl rfl _ _ _ (by kernel_rfl) (by kernel_rfl) (by kernel_rfl) ?_)
    | (go_at_call 11; fail))
  refine (div1 _).mono ?_
  rintro e w1 ⟨rfl, hb1⟩
  have c1 := (Blk.new w 30 (nilCells ⟨1, 0, 0, 4607182418800017408⟩ ⟨0, 0, 0⟩ ⟨0, 0, 0⟩)).below hb1 (by simp)
  have hw1 : Below w.heap.size w w1 := ((Below.refl _ _).alloc (Nat.le_refl _) _).trans (hb1.mono (by simp))
  obtain ⟨g0, z0, z1, z2, z3, z4, z5, z6, z7, z8, z9, z10, z11⟩ := c1.dozen
  have g1 : w.heap.size < w1.heap.size + 1 := by omega
  go_wp2_with (first
    | (refine wpList_store_new rfl 30 _ _ rfl _ rfl rfl _ _ (by kernel_rfl) (by kernel_rfl) (by kernel_rfl) ?_)
    | (refine wpList_store_new2 rfl 30 _ _ rfl _ rfl rfl _ _ _ (by kernel_rfl) (by kernel_rfl) (by kernel_rfl) ?_)
    | (go_at_call 11; fail))
  refine (div2 _).mono ?_
  rintro e w2 ⟨rfl, hb2⟩
  have c2 := ((Blk.new w1 30 (nilCells ⟨1, 1, 0, 4602678819172646912⟩ ⟨0, 0, 0⟩ ⟨0, 0, 0⟩)).alloc (.cells (nilCells ⟨2, 0, 4602678819172646912, 4607182418800017408⟩ ⟨9, 0, 0⟩ ⟨5, 0, 1⟩) 30)).below hb2 (by simp <;> omega)
  have c3 := (Blk.new' (w := w1.alloc (.cells (nilCells ⟨1, 1, 0, 4602678819172646912⟩ ⟨0, 0, 0⟩ ⟨0, 0, 0⟩) 30)) (g := w1.heap.size + 1) 30 (nilCells ⟨2, 0, 4602678819172646912, 4607182418800017408⟩ ⟨9, 0, 0⟩ ⟨5, 0, 1⟩) (by simp)).below hb2 (by simp <;> omega)
  have hw2 : Below w.heap.size w w2 := ((hw1.alloc (by omega) _).alloc (by simp; omega) _).trans (hb2.mono (by simp; omega))
  clear z0 z1 z2 z3 z4 z5 z6 z7 z8 z9 z10 z11 hb2 hb1 c1 g1 hw1
  generalize w1.heap.size = g at *
  obtain ⟨g2, x0, x1, x2, x3, x4, x5, x6, x7, x8, x9, x10, x11⟩ := c2.dozen
  obtain ⟨g3, y0, y1, y2, y3, y4, y5, y6, y7, y8, y9, y10, y11⟩ := c3.dozen
  have k2 : g < w2.heap.size + 1 := by omega
  have k3 : g + 1 < w2.heap.size + 1 := by omega
  go_wp2_with (first
    | (refine wpList_store_new rfl 30 _ _ rfl _ rfl rfl _ _ (by kernel_rfl) (by kernel_rfl) (by kernel_rfl) ?_)
    | (refine wpList_store_new2 rfl 30 _ _ rfl _ rfl rfl _ _ _ (by kernel_rfl) (by kernel_rfl) (by kernel_rfl) ?_)
    | ((with_reducible refine (rng1 _).mono ?_); rintro e w3 ⟨rfl, hb3⟩
       have c3' := ((c3.alloc _).alloc _).below hb3 (by simp; omega)
       obtain ⟨g3', y0', y1', y2', y3', y4', y5', y6', y7', y8', y9', y10', y11'⟩ := c3'.dozen
       have hw3 : Below w.heap.size w w3 := ((hw2.alloc (by omega) _).alloc (by simp; omega) _).trans (hb3.mono (by simp; omega)))
    | ((with_reducible refine (rng2 _).mono ?_); rintro e w4 ⟨rfl, hb4⟩
       have c3'' := c3'.below hb4 (by omega)
       obtain ⟨g3'', y0'', y1'', y2'', y3'', y4'', y5'', y6'', y7'', y8'', y9'', y10'', y11''⟩ := c3''.dozen
       have hw4 : Below w.heap.size w w4 := hw3.trans (hb4.mono (by omega))))
  go_ret
  exact ⟨rfl, hw4⟩
end Go.Proofs.YtipacjbegfingaaGreat
