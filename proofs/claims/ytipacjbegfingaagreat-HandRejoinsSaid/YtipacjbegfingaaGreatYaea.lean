/- The program's Rejoin where all goes well. -/
import Derived.Test.YtipacjbegfingaaGreatYadc
import Derived.Test.YtipacjbegfingaaGreatYadd
import Derived.Test.YtipacjbegfingaaGreatYadj
namespace Go.Proofs.YtipacjbegfingaaGreat
set_option linter.unusedVariables false
open Go.RowKit Fl
attribute [local go_sem] run_store_float

theorem HalfM.grown {w w' : World} {B base b : Nat} {m : List Pn} (h : HalfM w B base b m) {row : Option Nat} (hg : w.grownBy w' row) (hne : some b ≠ row) (hlo : ∀ q, row = some q → B ≤ q) : HalfM w' B base b m :=
  h.keep hg.size (fun p hp => World.cell?_of_block (hg.block p.block (by have := h.hi; have := h.lt; omega) (fun e => by have := hlo _ e.symm; omega))) fun D o => o.kept hg hne
theorem HalfM.far {w : World} {B base b : Nat} {m : List Pn} (h : HalfM w B base b m) {p : Addr} (hp : b ≠ p.block) (hp2 : B ≤ p.block) (u : Value) : HalfM (w.setCell p u) B base b m :=
  h.keep (by simp [World.setCell]) (fun q hq => World.cell?_of_block (Below.heap_setCell _ _ _ _ (by omega))) fun D o => o.setCell hp u
/-- the other half of a pending one: found, or empty -/
theorem half_of {w : World} {B base b : Nat} {m : List Pn} (h : HalfM w B base b m) {a : Pn} (ht : a.t.ok) (hap : ∀ p ∈ m, Apart2 a p) (hr : RiseK id a.r ∧ RiseK Wt.key a.w) (hQ : SmallP m) :
    ∃ (D : DataW Value) (q : Pn) (A3 : Option Addr) (n3 c3 : Nat) (A4 : Option Addr) (n4 c4 : Nat), w.ownsMap Tryz.prog 41 anyE b m.length D ∧ (∀ w' : World, w'.ownsMap Tryz.prog 41 anyE b m.length D → (Instr.lookup 54 (.map (some b)) a.t.val false).run Tryz.prog w' = .ok (q.val (.slice A3 n3 c3) (.slice A4 n4 c4)) w') ∧
      Sl KyRel 1 w B A3 n3 q.r ∧ Sl WtRel 4 w B A4 n4 q.w ∧ Apart2 a q ∧ n3 ≤ 1000000 ∧ n4 ≤ 1000000 ∧ joinP a (m.find? fun p => decide (p.t = a.t)) = ⟨a.t, a.s, mergeL id a.r q.r, mergeL Wt.key a.w q.w⟩ := by
  obtain ⟨D, v, o, run, hv⟩ := h.look ht
  cases hf : m.find? fun p => decide (p.t = a.t) with
  | none =>
    rw [hf] at hv
    refine ⟨D, ⟨⟨0, 0, 0⟩, ⟨0, 0, 0⟩, [], []⟩, none, 0, 0, none, 0, 0, o, fun w' ho => by rw [run w' ho, hv], Sl.nil, Sl.nil, ⟨hr.1, List.Pairwise.nil, hr.2, List.Pairwise.nil, fun _ _ b hb => by simp at hb, fun _ _ b hb => by simp at hb⟩, by omega, by omega, ?_⟩
    rw [merge_nil, merge_nil]; rfl
  | some p =>
    rw [hf] at hv
    obtain ⟨_, _, rfl, ⟨A3, n3, c3, rfl, -, -, h3⟩, A4, n4, c4, rfl, -, -, h4⟩ := hv
    have hp := List.mem_of_find?_eq_some hf
    have hq := hQ.2 p hp
    exact ⟨D, p, A3, n3, c3, A4, n4, c4, o, run, h3, h4, hap p hp, by have := h3.1; omega, by have := h4.1; omega, rfl⟩
def RejL (l r : Stt) (vh : Value) (G N mb : Nat) (R : Rg) (w w1 : World) (i : Value) (wr : World) : Prop :=
  ∃ (k : Nat) (v : Value), k ≤ l.p.length ∧ i = .int .i64 (k : Int) ∧ Blk wr (w.heap.size + 1 + 1) 30 zeroCells ∧ Blk wr G 30 (stArr R l.f l.c vh v) ∧
    Pair PnRel 45 8 N wr v (.slice none 0 0) ((l.p.take k).map fun x => joinP x (r.p.find? fun p => decide (p.t = x.t))) [] ∧ (∀ j, G < j → j < N → wr.heap[j]? = w1.heap[j]?) ∧ HalfM wr w.heap.size mb mb r.p ∧ Below w.heap.size w wr ∧ N ≤ wr.heap.size
section
variable {l r : Stt} {A1 A2 A3 A4 : Option Addr} {n1 n2 n3 n4 c1 c2 c3 c4 : Nat} {w : World}
set_option maxRecDepth 100000 in
set_option maxHeartbeats 4000000 in
theorem rejoin_d (hok : l.r.ok) (hok2 : r.r.ok) (h1 : Sl HsRel 2 w w.heap.size A1 n1 l.h) (h2 : Sl PnRel 8 w w.heap.size A2 n2 l.p) (h3 : Sl HsRel 2 w w.heap.size A3 n3 r.h) (h4 : Sl PnRel 8 w w.heap.size A4 n4 r.p) (hH : SmallH l.h) (hQ : SmallP l.p) (hH2 : SmallH r.h) (hQ2 : SmallP r.p) (hm : mayS l = true) (hm2 : mayS r = true) (hgo : l.r.hi = r.r.lo ∧ 1 ≤ l.r.ep ∧ l.r.id ≠ r.r.id) (hone : r.p.Pairwise fun a b => a.t ≠ b.t) (hbad : (r.p.all fun p => l.p.any fun x => alikeP x p) = true) :
    Calls Tryz.prog 8 #[.agg (l.arr (.slice A1 n1 c1) (.slice A2 n2 c2)), .agg (r.arr (.slice A3 n3 c3) (.slice A4 n4 c4))] w (RejPost w (rejS l r) 0) := by
  obtain ⟨rl, rr, rd, rp, -, -, rq⟩ := rej_apart hm hm2 hgo.1
  have HR := Lib.hid (⟨rl, rr, rd, rp, rq⟩ : RiseK Hs.key l.h ∧ RiseK Hs.key r.h ∧ (∀ a ∈ l.h, ∀ b ∈ r.h, a.key ≠ b.key) ∧ (∀ x ∈ l.p, ∀ p ∈ r.p, Apart2 x p) ∧ ∀ x ∈ l.p, RiseK id x.r ∧ RiseK Wt.key x.w)
  clear rl rr rd rp rq
  obtain ⟨i1, hi1, iz0, iz1, iz2⟩ := info_parts pn_infoC
  have HG := Lib.hid (⟨hgo, hone, hbad⟩ : (l.r.hi = r.r.lo ∧ 1 ≤ l.r.ep ∧ l.r.id ≠ r.r.id) ∧ (r.p.Pairwise fun a b => a.t ≠ b.t) ∧ (r.p.all fun p => l.p.any fun x => alikeP x p) = true)
  clear hgo hone hbad
  have hX : Below w.heap.size w (((w.alloc (.cells (l.arr (.slice A1 n1 c1) (.slice A2 n2 c2)) 30)).alloc (.cells (r.arr (.slice A3 n3 c3) (.slice A4 n4 c4)) 30)).alloc (.cells zeroCells 30)) := by go_grown
  have b0 : Blk (((w.alloc (.cells (l.arr (.slice A1 n1 c1) (.slice A2 n2 c2)) 30)).alloc (.cells (r.arr (.slice A3 n3 c3) (.slice A4 n4 c4)) 30)).alloc (.cells zeroCells 30)) w.heap.size 30 (l.arr (.slice A1 n1 c1) (.slice A2 n2 c2)) := ((Blk.new _ _ _).alloc _).alloc _
  have b1 : Blk (((w.alloc (.cells (l.arr (.slice A1 n1 c1) (.slice A2 n2 c2)) 30)).alloc (.cells (r.arr (.slice A3 n3 c3) (.slice A4 n4 c4)) 30)).alloc (.cells zeroCells 30)) (w.heap.size + 1) 30 (r.arr (.slice A3 n3 c3) (.slice A4 n4 c4)) := (Blk.new' _ _ (by simp)).alloc _
  have b2 : Blk (((w.alloc (.cells (l.arr (.slice A1 n1 c1) (.slice A2 n2 c2)) 30)).alloc (.cells (r.arr (.slice A3 n3 c3) (.slice A4 n4 c4)) 30)).alloc (.cells zeroCells 30)) (w.heap.size + 1 + 1) 30 zeroCells := Blk.new' _ _ (by simp)
  have hs1 := fun w' (hb : Below w.heap.size w w') => stateMay_any l A1 A2 n1 n2 c1 c2 w' hok ((h1.below HsRel.kept hb).more HsRel.kept hb.size) ((h2.below PnRel.kept hb).more PnRel.kept hb.size) hH hQ
  have hs2 := fun w' (hb : Below w.heap.size w w') => stateMay_any r A3 A4 n3 n4 c3 c4 w' hok2 ((h3.below HsRel.kept hb).more HsRel.kept hb.size) ((h4.below PnRel.kept hb).more PnRel.kept hb.size) hH2 hQ2
  rw [hm] at hs1
  rw [hm2] at hs2
  clear hm hm2
  go_enter Tryz.func8, Tryz.ntmps8
  go_upto_region 1 with fail
  generalize (((w.alloc (.cells (l.arr (.slice A1 n1 c1) (.slice A2 n2 c2)) 30)).alloc (.cells (r.arr (.slice A3 n3 c3) (.slice A4 n4 c4)) 30)).alloc (.cells zeroCells 30)) = W at *
  obtain ⟨g0, z0, z1, z2, z3, z4, z5, z6, z7, z8, z9, z10, z11⟩ := b0.dozen
  go_wp2_with fail
  refine (hs1 _ hX).mono ?_
  rintro e w1 ⟨rfl, hb1⟩
  have b1' := b1.below hb1 b1.lt
  have b2' := b2.below hb1 b2.lt
  have b0' := b0.below hb1 b0.lt
  have hY := hX.trans (hb1.mono hX.size)
  clear z0 z1 z2 z3 z4 z5 z6 z7 z8 z9 z10 z11 g0 b0 b1 b2 hs1
  obtain ⟨g0, z0, z1, z2, z3, z4, z5, z6, z7, z8, z9, z10, z11⟩ := b1'.dozen
  go_wp2_with fail
  refine (hs2 _ hY).mono ?_
  rintro e w2 ⟨rfl, hb2⟩
  have b3' := b2'.below hb2 b2'.lt
  have d0 := b0'.below hb2 b0'.lt
  have d1 := b1'.below hb2 b1'.lt
  have hZ := hY.trans (hb2.mono hY.size)
  clear z0 z1 z2 z3 z4 z5 z6 z7 z8 z9 z10 z11 g0 b0' b1' b2' hs2
  go_upto_region 3 with fail
  have z0 : w2.cell? ⟨w.heap.size, 0, none⟩ = some (.int .i64 l.r.id) := d0.cell 0
  have z1 : w2.cell? ⟨w.heap.size, 1, none⟩ = some (.int .i64 l.r.ep) := d0.cell 1
  have z3 : w2.cell? ⟨w.heap.size, 3, none⟩ = some (.float .f64 l.r.hi) := d0.cell 3
  have y0 : w2.cell? ⟨w.heap.size + 1, 0, none⟩ = some (.int .i64 r.r.id) := d1.cell 0
  have y2 : w2.cell? ⟨w.heap.size + 1, 2, none⟩ = some (.float .f64 r.r.lo) := d1.cell 2
  have l3 := b3'.lt
  obtain ⟨⟨e, e2, e3⟩, -⟩ := HG.out
  have q1 : ((l.r.hi : Int) != (r.r.lo : Int)) = false := by simp [e]
  have q1' : ((l.r.hi : Int) == (r.r.lo : Int)) = true := by simp [e]
  have q2 : decide (l.r.ep < 1) = false := decide_eq_false (by omega)
  have q3 : (l.r.id == r.r.id) = false := by simp [e3]
  clear e e3
  go_quiet (fail)
  have hQ3 : Below w.heap.size w (w2.drewN nq) := hZ.trans ⟨rfl, rfl, rfl, Nat.le_refl _, fun _ _ => rfl⟩
  have b4' : Blk (w2.drewN nq) (w.heap.size + 1 + 1) 30 zeroCells := b3'
  have d0' : Blk (w2.drewN nq) w.heap.size 30 (l.arr (.slice A1 n1 c1) (.slice A2 n2 c2)) := d0
  have d1' : Blk (w2.drewN nq) (w.heap.size + 1) 30 (r.arr (.slice A3 n3 c3) (.slice A4 n4 c4)) := d1
  clear z0 z1 z3 y0 y2 d0 d1 b3' q1 q1' q2 q3 hZ
  generalize w2.drewN nq = wx at *
  have hmm := @run_makeMap Tryz.prog
  go_upto_region 6 with fail
  have X0 : Below wx.heap.size wx (wx.alloc (.map #[] 0)) := by go_grown
  have H0 := HalfM.new wx hQ3.size
  have e0 := d0'.below X0 d0'.lt
  have e1 := d1'.below X0 d1'.lt
  have e4 := b4'.below X0 b4'.lt
  have W0 := hQ3.trans (X0.mono hQ3.size)
  have hbx := hQ3.size
  have hmb : w.heap.size + 1 + 1 < wx.heap.size := b4'.lt
  clear d0' d1' b4' X0 hQ3
  generalize wx.heap.size = mb at *
  generalize wx.alloc (.map #[] 0) = wy at *
  have x4 : wy.cell? ⟨w.heap.size + 1, 11, none⟩ = some (.slice A4 n4 c4) := e1.cell 11
  have ly := e1.lt
  have hn4 : n4 ≤ 1000000 := by have := hQ2.1; have := h4.1; omega
  go_wp2
  go_loopw [52] (fun i wr => HalR l r A1 A2 A3 A4 n1 n2 n3 n4 c1 c2 c3 c4 mb w i wr) (fun i _ => n4 - (intOf i).toNat)
  case atStart => exact ⟨0, Nat.zero_le _, rfl, H0, rfl, e0, e1, e4, W0⟩
  case round =>
    clear e0 e1 e4 W0 H0 x4 ly
    obtain ⟨k, hk, rfl, hM, hall, e0, e1, e4, hb⟩ := hrel
    by_cases hlt : k < n4
    · obtain ⟨ad, a, A5, n5, c5, A6, n6, c6, rfl, ha, hbk, hxt, hxs, x0, x1, x2, x3, x4, x5, x6, x7, hn5, hc5, hs5, hn6, hc6, hs6⟩ := (h4.below PnRel.kept hb).pn hlt
      have hbk := Nat.lt_of_lt_of_le hbk hb.size
      have hd1 : decide ((k : Int) < (n4 : Int)) = true := by simp; omega
      have hk0 : (0 : Int) ≤ (k : Int) := by omega
      have hk1 : (k : Int) < (n4 : Int) := by omega
      go_upto_region 9 with fail
      have X8 : Below wr.heap.size wr (wr.alloc (.cells (a.arr (.slice A5 n5 c5) (.slice A6 n6 c6)) 45)) := by go_grown
      have bP := Blk.new wr 45 (a.arr (.slice A5 n5 c5) (.slice A6 n6 c6))
      have b8 := hb.trans (X8.mono hb.size)
      have f0 := e0.below X8 e0.lt
      have f1 := e1.below X8 e1.lt
      have f4 := e4.below X8 e4.lt
      have hM8 := hM.below X8
      have hI := indexP_any a A2 A5 A6 n2 n5 n6 c2 c5 c6 l.p wr.heap.size (wr.alloc (.cells (a.arr (.slice A5 n5 c5) (.slice A6 n6 c6)) 45)) bP ((h2.below PnRel.kept b8).more PnRel.kept b8.size) (by have := hQ.1; have := h2.1; omega)
      have hneg := idxP_neg a l.p 0
      generalize idxP a 0 l.p = z at *
      have y11 : (wr.alloc (.cells (a.arr (.slice A5 n5 c5) (.slice A6 n6 c6)) 45)).cell? ⟨w.heap.size, 11, none⟩ = some (.slice A2 n2 c2) := f0.cell 11
      have lf0 := f0.lt
      have hs5' := hs5.keep KyRel.kept fun p hp => X8.cell (by have := hb.size; omega)
      have hs6' := hs6.keep WtRel.kept fun p hp => X8.cell (by have := hb.size; omega)
      clear e0 e1 e4 hM hb x0 x1 x2 x3 x4 x5 x6 x7 X8 hs5 hs6
      generalize wr.heap.size = bx at *
      generalize wr.alloc (.cells (a.arr (.slice A5 n5 c5) (.slice A6 n6 c6)) 45) = w8 at *
      have HA := Lib.hid ha
      clear ha
      cases hq : l.p.any fun x => alikeP x a
      case' false =>
        have := List.all_eq_true.1 HG.out.2.2 a (List.mem_of_getElem? HA.out)
        rw [hq] at this; cases this
      case' true =>
        rw [hq] at hneg
        have HQ := Lib.hid hq
        clear hq
        go_wp2_with fail
        refine hI.mono ?_
        rintro e' w9 ⟨rfl, hb9⟩
        have bP9 := bP.below hb9 bP.lt
        have g0 := f0.below hb9 f0.lt
        have g1 := f1.below hb9 f1.lt
        have g4 := f4.below hb9 f4.lt
        have b9 := b8.trans (hb9.mono b8.size)
        have hka := List.getElem?_eq_some_iff.1 HA.out
        have hput := (hM8.below hb9).put (x := a) (r := .slice A5 n5 c5) (q := .slice A6 n6 c6) hxt hxs (by rw [List.length_take]; have := hQ2.1; unfold maxLen; omega) ⟨A5, n5, c5, rfl, hn5, hc5, hs5'.keep KyRel.kept fun p hp => hb9.cell (by have := b8.size; omega)⟩ ⟨A6, n6, c6, rfl, hn6, hc6, hs6'.keep WtRel.kept fun p hp => hb9.cell (by have := b8.size; omega)⟩ (fun y hy => by
          obtain ⟨j, hj⟩ := List.mem_iff_getElem?.1 hy
          have hjk : j < k := by
            have := (List.getElem?_eq_some_iff.1 hj).1
            rw [List.length_take] at this; omega
          rw [List.getElem?_take_of_lt hjk] at hj
          obtain ⟨hj1, hj2⟩ := List.getElem?_eq_some_iff.1 hj
          have := List.pairwise_iff_getElem.1 HG.out.2.1 j k hj1 hka.1 hjk
          rwa [hj2, hka.2] at this)
        obtain ⟨w10, hrun, hM10, hg10, -⟩ := hput
        have z0 : w9.cell? ⟨bx, 0, none⟩ = some (.int .i64 a.t.c) := bP9.cell 0
        have z1 : w9.cell? ⟨bx, 1, none⟩ = some (.int .i64 a.t.l) := bP9.cell 1
        have z2 : w9.cell? ⟨bx, 2, none⟩ = some (.int .i64 a.t.s) := bP9.cell 2
        have z3 : w9.cell? ⟨bx, 3, none⟩ = some (.int .i64 a.s.w) := bP9.cell 3
        have z4 : w9.cell? ⟨bx, 4, none⟩ = some (.int .i64 a.s.l) := bP9.cell 4
        have z5 : w9.cell? ⟨bx, 5, none⟩ = some (.int .i64 a.s.n) := bP9.cell 5
        have z6 : w9.cell? ⟨bx, 6, none⟩ = some (.slice A5 n5 c5) := bP9.cell 6
        have z7 : w9.cell? ⟨bx, 7, none⟩ = some (.slice A6 n6 c6) := bP9.cell 7
        have lx := bP9.lt
        have b10 : Below w.heap.size w w10 := b9.grown hg10 b9.size (fun q hq => by injection hq with hq; omega)
        have k0 := g0.grown hg10 (fun e => by injection e with e; omega)
        have k1 := g1.grown hg10 (fun e => by injection e with e; omega)
        have k4 := g4.grown hg10 (fun e => by injection e with e; omega)
        have HT := Lib.hid (show r.p.take (k + 1) = r.p.take k ++ [a] by rw [List.take_add_one, HA.out]; rfl)
        have HM := Lib.hid (⟨hM10, hall⟩ : HalfM w10 w.heap.size mb mb (r.p.take k ++ [a]) ∧ ((r.p.take k).all fun p => l.p.any fun x => alikeP x p) = true)
        clear hM10 hall hM8 f0 f1 f4 g0 g1 g4 bP bP9 hg10 y11 hb9 b8 b9 hka
        go_wp2
        go_roundw
        case rel =>
          refine ⟨k + 1, by have := (List.getElem?_eq_some_iff.1 HA.out).1; omega, by go_num, ?_, ?_, k0, k1, k4, b10⟩
          · rw [HT.out]; exact HM.out.1
          · rw [HT.out, List.all_append, HM.out.2]; simp [HQ.out]
        case measure => simp [intOf]; omega
    · have hkn : r.p.take k = r.p := List.take_of_length_le (by have := h4.1; omega)
      have hd1 : decide ((k : Int) < (n4 : Int)) = false := by simp; omega
      rw [hkn] at hM
      clear hall hkn
      have hep : IntKind.i64.wrap (l.r.ep - 1) = l.r.ep - 1 := by have := hok.2.1; have := HG.out.1.2.1; unfold i64ok at *; rw [IntKind.wrap_i64]; omega
      obtain ⟨g0, z0, z1, z2, z3, z4, z5, z6, z7, z8, z9, z10, z11⟩ := e0.dozen
      have y3 : wr.cell? ⟨w.heap.size + 1, 3, none⟩ = some (.float .f64 r.r.hi) := e1.cell 3
      have ly := e1.lt
      go_upto_region 15 with fail
      have XO : Below wr.heap.size wr (wr.alloc (.cells (nilCells l.r l.f l.c) 30)) := by go_grown
      have bO := Blk.new wr 30 (nilCells l.r l.f l.c)
      have f0 := e0.below XO e0.lt
      have f1 := e1.below XO e1.lt
      have f4 := e4.below XO e4.lt
      have b14 := hb.trans (XO.mono hb.size)
      have hGm := hM.lt
      have hM14 := hM.below XO
      have hGs : (wr.alloc (.cells (nilCells l.r l.f l.c) 30)).heap.size = wr.heap.size + 1 := by simp
      clear e0 e1 e4 hM z0 z1 z2 z3 z4 z5 z6 z7 z8 z9 z10 z11 g0 y3 ly XO hb
      generalize wr.alloc (.cells (nilCells l.r l.f l.c) 30) = w14 at *
      generalize wr.heap.size = G at *
      have o1 : w14.cell? ⟨G, 1, none⟩ = some (.int .i64 l.r.ep) := bO.cell 1
      have q1 := bO.frozen 1
      have lo := bO.lt
      go_upto_region 16 with fail
      have bP : Blk (w14.setCell ⟨G, 1, none⟩ (.int .i64 (l.r.ep - 1))) G 30 (nilCells ⟨l.r.id, l.r.ep - 1, l.r.lo, l.r.hi⟩ l.f l.c) := bO.set_ 1 _
      have e0 := f0.far (p := ⟨G, 1, none⟩) (by show w.heap.size ≠ G; omega) (.int .i64 (l.r.ep - 1))
      have e1 := f1.far (p := ⟨G, 1, none⟩) (by show w.heap.size + 1 ≠ G; omega) (.int .i64 (l.r.ep - 1))
      have e4 := f4.far (p := ⟨G, 1, none⟩) (by show w.heap.size + 1 + 1 ≠ G; omega) (.int .i64 (l.r.ep - 1))
      have b15 := b14.setCell (p := ⟨G, 1, none⟩) (by show w.heap.size ≤ G; omega) (.int .i64 (l.r.ep - 1))
      have hM15 := hM14.far (p := ⟨G, 1, none⟩) (by show mb ≠ G; omega) (by show w.heap.size ≤ G; omega) (.int .i64 (l.r.ep - 1))
      have hGs' : (w14.setCell ⟨G, 1, none⟩ (.int .i64 (l.r.ep - 1))).heap.size = G + 1 := by simp [World.setCell]; omega
      clear bO f0 f1 f4 b14 hM14 hGs o1 q1 lo hep
      generalize (w14.setCell ⟨G, 1, none⟩ (.int .i64 (l.r.ep - 1))) = w15 at *
      have o3 : w15.cell? ⟨G, 3, none⟩ = some (.float .f64 l.r.hi) := bP.cell 3
      have q3 := bP.frozen 3
      have lo := bP.lt
      have y3 : w15.cell? ⟨w.heap.size + 1, 3, none⟩ = some (.float .f64 r.r.hi) := e1.cell 3
      have l1 := e1.lt
      go_upto_region 18 with fail
      have bO : Blk (w15.setCell ⟨G, 3, none⟩ (.float .f64 r.r.hi)) G 30 (nilCells ⟨l.r.id, l.r.ep - 1, l.r.lo, r.r.hi⟩ l.f l.c) := bP.set_ 3 _
      have f0 := e0.far (p := ⟨G, 3, none⟩) (by show w.heap.size ≠ G; omega) (.float .f64 r.r.hi)
      have f1 := e1.far (p := ⟨G, 3, none⟩) (by show w.heap.size + 1 ≠ G; omega) (.float .f64 r.r.hi)
      have f4 := e4.far (p := ⟨G, 3, none⟩) (by show w.heap.size + 1 + 1 ≠ G; omega) (.float .f64 r.r.hi)
      have b16 := b15.setCell (p := ⟨G, 3, none⟩) (by show w.heap.size ≤ G; omega) (.float .f64 r.r.hi)
      have hM16 := hM15.far (p := ⟨G, 3, none⟩) (by show mb ≠ G; omega) (by show w.heap.size ≤ G; omega) (.float .f64 r.r.hi)
      have hGs : (w15.setCell ⟨G, 3, none⟩ (.float .f64 r.r.hi)).heap.size = G + 1 := by simp [World.setCell]; omega
      clear bP e0 e1 e4 b15 hM15 hGs' o3 q3 lo y3 l1
      generalize (w15.setCell ⟨G, 3, none⟩ (.float .f64 r.r.hi)) = W at *
      have x10 : W.cell? ⟨w.heap.size, 10, none⟩ = some (.slice A1 n1 c1) := f0.cell 10
      have y10 : W.cell? ⟨w.heap.size + 1, 10, none⟩ = some (.slice A3 n3 c3) := f1.cell 10
      have l0 := f0.lt
      have l1 := f1.lt
      have s0 : Below W.heap.size W W.drew := (Below.refl _ _).drew
      have HS := Lib.hid hGs
      have hWG : G < W.heap.size := by omega
      clear hGs
      have HZ := Lib.hid (⟨h1.1, h3.1, hH, hH2⟩ : l.h.length = n1 ∧ r.h.length = n3 ∧ SmallH l.h ∧ SmallH r.h)
      have b17 := b16.trans (s0.mono b16.size)
      have hC := clone2_low A1 n1 c1 l.h W.drew ((h1.below HsRel.kept b17).more HsRel.kept b17.size) (by have := HZ.out.1; have := HZ.out.2.2.1.1; omega) HZ.out.2.2.1.2
      have HC2 := Lib.hid (fun w' (hb : Below w.heap.size w w') => clone2_low A3 n3 c3 r.h w' ((h3.below HsRel.kept hb).more HsRel.kept hb.size) (by have := HZ.out.2.1; have := HZ.out.2.2.2.1; omega) HZ.out.2.2.2.2)
      refine wp_region_held_drew (S := fun w' => w'.cell? ⟨w.heap.size, 10, none⟩ = some (.slice A1 n1 c1) ∧ w'.cell? ⟨w.heap.size + 1, 10, none⟩ = some (.slice A3 n3 c3)) (by kernel_rfl) ⟨x10, y10⟩ (fun hHeld => ?_)
      refine t0 0 86 ?_
      go_frame
      refine t0 1 87 ?_
      go_frame
      refine t0 2 88 ?_
      go_frame
      refine t0 4 90 ?_
      go_frame
      refine t0 5 91 ?_
      go_frame
      refine t0 6 92 ?_
      go_frame
      refine wpAnyH_ready (rs := [3]) (by kernel_rfl) (by simp) (AllReadyH.cons (o := ⟨some 89, _, _, _, _, _⟩) rfl (fun K hK => ?_) AllReadyH.nil)
      go_simp
      (with_reducible refine hC.mono ?_)
      rintro e w5 ⟨v5, rfl, o5, hb5⟩
      obtain ⟨A5, q5, rfl, hq5, hq5m⟩ := o5.form1
      have s5 := s0.trans (hb5.mono s0.size)
      have b5 := b16.trans (s5.mono b16.size)
      have HO5 := Lib.hid o5
      have hbs5 := hb5.size
      clear hC o5 hb5 s0
      refine hK.out _ _ ⟨(s5.cell (by exact l0)).trans x10, (s5.cell (by exact l1)).trans y10⟩ (fun hHeld => ?_)
      clear hK K
      try go_frame
      refine wpAnyH_ready (rs := [7]) (by kernel_rfl) (by simp) (AllReadyH.cons (o := ⟨some 93, _, _, _, _, _⟩) rfl (fun K hK => ?_) AllReadyH.nil)
      go_simp
      (with_reducible refine (HC2.out w5 b5).mono ?_)
      rintro e w6 ⟨v6, rfl, o6, hb6⟩
      obtain ⟨A6, q6, rfl, hq6, hq6m⟩ := o6.form1
      have s6 := s5.trans (hb6.mono s5.size)
      have k5 := (HO5.out.below HsRel.kept HsRel.mono hb6).held HsRel.mono (by omega)
      have k6 := o6.held HsRel.mono (by omega)
      have hbs6 := hb6.size
      have g5 := k5.1.wide (K' := rng W.heap.size w6.heap.size) HsRel.mono fun k hk _ => by rw [rng_iff] at *; exact hk
      have g6 := k6.1.wide (K' := rng W.heap.size w6.heap.size) HsRel.mono fun k hk _ => by rw [rng_iff] at *; have : W.heap.size ≤ w5.heap.size := s5.size; omega
      obtain ⟨_, _, _, ee5, -, -, m5⟩ := g5
      obtain ⟨_, _, _, ee6, -, -, m6⟩ := g6
      injection ee5 with ea5 eb5 ec5
      injection ee6 with ea6 eb6 ec6
      subst ea5 eb5 ec5 ea6 eb6 ec6
      have hMt := meetH_low (rng W.heap.size w6.heap.size) A5 A6 l.h.length r.h.length q5 q6 l.h r.h w6 (fun k hk => (rng_iff.1 hk).2) m5 m6 (by have := HZ.out.2.2.1.1; omega) (by have := HZ.out.2.2.2.1; omega) HR.out.1 HR.out.2.1 HR.out.2.2.1
      clear k5 k6 m5 m6 o6 hb6
      refine hK.out _ _ ⟨(s6.cell (by exact l0)).trans x10, (s6.cell (by exact l1)).trans y10⟩ (fun hHeld => ?_)
      clear hK K
      try go_frame
      refine wpAnyH_ready (rs := [8]) (by kernel_rfl) (by simp) (AllReadyH.cons (o := ⟨some 94, _, _, _, _, _⟩) rfl (fun K hK => ?_) AllReadyH.nil)
      go_simp
      (with_reducible refine hMt.mono ?_)
      rintro e w7 ⟨v7, rfl, o7, hb7⟩
      obtain ⟨Av, nv, cv, rfl, hnv, hcv, hsv⟩ := o7
      have s7 := s6.trans (hb7.mono s6.size)
      have hbs7 := hb7.size
      clear hMt hb7
      refine hK.out _ _ ⟨(s7.cell (by exact l0)).trans x10, (s7.cell (by exact l1)).trans y10⟩ (fun hHeld => ?_)
      clear hK K
      try go_frame
      have bO7 := bO.below s7 bO.lt
      have o10 : w7.cell? ⟨G, 10, none⟩ = some (.slice none 0 0) := bO7.cell 10
      have q10 := bO7.frozen 10
      have f07 := f0.below s7 f0.lt
      have f17 := f1.below s7 f1.lt
      refine t0 9 95 ?_
      go_frame
      refine wpAnyH_ready (rs := [10]) (by kernel_rfl) (by simp) (AllReadyH.cons (o := ⟨none, _, _, _, _, _⟩) rfl (fun K hK => ?_) AllReadyH.nil)
      go_simp
      refine hK.out _ _ ⟨(f07.far (p := ⟨G, 10, none⟩) (by show w.heap.size ≠ G; omega) (.slice Av nv cv)).cell 10, (f17.far (p := ⟨G, 10, none⟩) (by show w.heap.size + 1 ≠ G; omega) (.slice Av nv cv)).cell 10⟩ (fun hHeld => ?_)
      clear hK K
      try go_frame
      refine wpAnyH_done (by kernel_rfl) ?_ _
      have f47 := f4.below s7 f4.lt
      have b7 := b16.trans (s7.mono b16.size)
      have hM7 := hM16.below s7
      have hbw7 : W.heap.size ≤ w7.heap.size := s7.size
      have HV := Lib.hid (HdRel.wide (K' := rng (G + 1) w7.heap.size) HsRel.mono (⟨Av, nv, cv, rfl, hnv, hcv, hsv⟩ : HdRel HsRel 2 (only (orB (rng W.heap.size w6.heap.size) w6.heap.size) w7) w7.heap.size (.slice Av nv cv) (mergeL Hs.key l.h r.h)) fun k hk hkN => by
        unfold orB at hk
        rw [Bool.or_eq_true, rng_iff, decide_eq_true_eq] at hk
        have := HS.out
        have h6 : W.heap.size ≤ w6.heap.size := s6.size
        rw [rng_iff]; omega)
      have bO8 : Blk (w7.setCell ⟨G, 10, none⟩ (.slice Av nv cv)) G 30 (stArr ⟨l.r.id, l.r.ep - 1, l.r.lo, r.r.hi⟩ l.f l.c (.slice Av nv cv) (.slice none 0 0)) := bO7.set_ 10 _
      have f08 := f07.far (p := ⟨G, 10, none⟩) (by show w.heap.size ≠ G; omega) (.slice Av nv cv)
      have f48 := f47.far (p := ⟨G, 10, none⟩) (by show w.heap.size + 1 + 1 ≠ G; omega) (.slice Av nv cv)
      have b8 := b7.setCell (p := ⟨G, 10, none⟩) (by show w.heap.size ≤ G; omega) (.slice Av nv cv)
      have hM8 := hM7.far (p := ⟨G, 10, none⟩) (by show mb ≠ G; omega) (by show w.heap.size ≤ G; omega) (.slice Av nv cv)
      have HV7 := HV.out.stay (w' := w7.setCell ⟨G, 10, none⟩ (.slice Av nv cv)) HsRel.kept fun k hk => Below.heap_setCell _ _ _ _ (by rw [rng_iff] at hk; show k ≠ G; omega)
      have hsz8 : (w7.setCell ⟨G, 10, none⟩ (.slice Av nv cv)).heap.size = w7.heap.size := by simp [World.setCell]
      rw [← hsz8] at HV7
      have HV8 := Lib.hid HV7
      have hGN : G < (w7.setCell ⟨G, 10, none⟩ (.slice Av nv cv)).heap.size := by omega
      clear HV HV7 bO7 o10 q10 f07 f17 f47 b7 hM7 bO f0 f1 f4 b16 hM16 x10 y10 l0 l1 s5 s6 s7 HS hWG HZ b17 HC2 hHeld b5 HO5 hbs5 hbs6 hbs7 hbw7 hsz8 hsv hnv hcv
      generalize (w7.setCell ⟨G, 10, none⟩ (.slice Av nv cv)) = w1 at *
      have x11 : w1.cell? ⟨w.heap.size, 11, none⟩ = some (.slice A2 n2 c2) := f08.cell 11
      have l0 := f08.lt
      have hn2 : n2 ≤ 1000000 := by have := hQ.1; have := h2.1; omega
      go_wp2
      go_loopw [99] (fun i wr => RejL l r (.slice Av nv cv) G w1.heap.size mb ⟨l.r.id, l.r.ep - 1, l.r.lo, r.r.hi⟩ w w1 i wr) (fun i _ => n2 - (intOf i).toNat)
      case atStart => exact ⟨0, _, Nat.zero_le _, rfl, f48, bO8, Pair.nil _, fun _ _ _ => rfl, hM8, b8, Nat.le_refl _⟩
      case round =>
        clear f48 bO8 hM8 b8 x11 l0 f08 hd1
        obtain ⟨k2, v, hk2, rfl, f4, bO, hp, hsm, hM, hb, hN⟩ := hrel
        have hzz := hb.size
        obtain ⟨Ap, qp, rfl, hqp, hqpm⟩ := hp.form1
        by_cases hlt : k2 < n2
        · obtain ⟨ad, a, A5, n5, c5, A6, n6, c6, rfl, ha, hbk, hxt, hxs, x0, x1, x2, x3, x4, x5, x6, x7, hn5, hc5, hs5, hn6, hc6, hs6⟩ := (h2.below PnRel.kept hb).pn hlt
          have hbk := Nat.lt_of_lt_of_le hbk hb.size
          have hd2 : decide ((k2 : Int) < (n2 : Int)) = true := decide_eq_true (by omega)
          have hk0 : (0 : Int) ≤ (k2 : Int) := by omega
          have hk1 : (k2 : Int) < (n2 : Int) := by omega
          have hmem := List.mem_of_getElem? ha
          have hkl := (List.getElem?_eq_some_iff.1 ha).1
          have hsml := hQ.2 a hmem
          have hr5 : n5 ≤ 10000000 := by have := hs5.1; omega
          have hr6 : n6 ≤ 10000000 := by have := hs6.1; omega
          have hL0 : ((l.p.take k2).map fun x => joinP x (r.p.find? fun p => decide (p.t = x.t))).length ≤ 1000000 := by rw [List.length_map, List.length_take]; omega
          have HT := Lib.hid (show (l.p.take (k2 + 1)).map (fun x => joinP x (r.p.find? fun p => decide (p.t = x.t))) = ((l.p.take k2).map fun x => joinP x (r.p.find? fun p => decide (p.t = x.t))) ++ [joinP a (r.p.find? fun p => decide (p.t = a.t))] by rw [List.take_add_one, ha, List.map_append]; rfl)
          clear ha hsml
          generalize ((l.p.take k2).map fun x => joinP x (r.p.find? fun p => decide (p.t = x.t))) = L at *
          go_upto_region 22 with fail
          have X8 : Below wr.heap.size wr (wr.alloc (.cells (a.arr (.slice A5 n5 c5) (.slice A6 n6 c6)) 45)) := by go_grown
          have bB := Blk.new wr 45 (a.arr (.slice A5 n5 c5) (.slice A6 n6 c6))
          have hM8 := hM.below X8
          obtain ⟨D, q, A7, n7, c7, A8, n8, c8, hD, hlook, hs7, hs8, hap, hr7, hr8, hj⟩ := half_of hM8 hxt (fun p hp => HR.out.2.2.2.1 a hmem p hp) (HR.out.2.2.2.2 a hmem) hQ2
          have g4 := f4.below X8 f4.lt
          have gO := bO.below X8 bO.lt
          have b8 := hb.trans (X8.mono hb.size)
          have pX := hp.below PnRel.kept PnRel.mono X8
          have hz8 : wr.heap.size ≤ (wr.alloc (.cells (a.arr (.slice A5 n5 c5) (.slice A6 n6 c6)) 45)).heap.size := X8.size
          have hnB : some wr.heap.size ≠ (Value.slice Ap L.length qp).ownBlock := fun e => by have := (hp.1.lt _ e.symm).2; omega
          have hNb : w1.heap.size ≤ wr.heap.size := hN
          have hsm8 : ∀ j, G < j → j < w1.heap.size → (wr.alloc (.cells (a.arr (.slice A5 n5 c5) (.slice A6 n6 c6)) 45)).heap[j]? = w1.heap[j]? := fun j h1 h2 => (X8.block j (by omega)).trans (hsm j h1 h2)
          have HSM := Lib.hid hsm8
          have k5 := (hs5.keep KyRel.kept fun p hp => X8.cell (by omega)).more KyRel.kept (show w.heap.size ≤ (wr.alloc (.cells (a.arr (.slice A5 n5 c5) (.slice A6 n6 c6)) 45)).heap.size by omega)
          have k6 := (hs6.keep WtRel.kept fun p hp => X8.cell (by omega)).more WtRel.kept (show w.heap.size ≤ (wr.alloc (.cells (a.arr (.slice A5 n5 c5) (.slice A6 n6 c6)) 45)).heap.size by omega)
          have k7 := hs7.more KyRel.kept (show w.heap.size ≤ (wr.alloc (.cells (a.arr (.slice A5 n5 c5) (.slice A6 n6 c6)) 45)).heap.size by omega)
          have k8 := hs8.more WtRel.kept (show w.heap.size ≤ (wr.alloc (.cells (a.arr (.slice A5 n5 c5) (.slice A6 n6 c6)) 45)).heap.size by omega)
          have K1 := Lib.hid (fun k hk => by
            rcases (merge_mem _ _ _ (Nat.le_refl _) k).1 hk with h | h
            · exact Sl.all_ok k5 k h
            · exact Sl.all_ok k7 k h : ∀ k ∈ mergeL id a.r q.r, k.size ≤ 140737488351232)
          have K2 := Lib.hid (fun k hk => by
            rcases (merge_mem _ _ _ (Nat.le_refl _) k).1 hk with h | h
            · exact Sl.all_ok k6 k h
            · exact Sl.all_ok k8 k h : ∀ k ∈ mergeL Wt.key a.w q.w, Wt.ok k)
          rw [hj] at HT
          clear f4 bO hp hsm hM hs5 hs6 hs7 hs8 hj x0 x1 x2 x3 x4 x5 x6 x7 X8 hsm8 hb hmem
          generalize wr.heap.size = bx at *
          generalize wr.alloc (.cells (a.arr (.slice A5 n5 c5) (.slice A6 n6 c6)) 45) = W8 at *
          have s8 : Below W8.heap.size W8 W8.drew := (Below.refl _ _).drew
          have hJ := join_any a q A5 A6 A7 A8 n5 n6 n7 n8 c5 c6 c7 c8 W8.drew (k5.below KyRel.kept s8) (k6.below WtRel.kept s8) (k7.below KyRel.kept s8) (k8.below WtRel.kept s8) hr5 hr6 (by omega) (by omega) hap
          generalize mergeL id a.r q.r = M1 at *
          generalize mergeL Wt.key a.w q.w = M2 at *
          clear k5 k6 k7 k8 hap
          have lB := bB.lt
          have lO := gO.lt
          have hmG : mb < W8.heap.size := hM8.lt
          refine wp_region_held_drew (S := fun w' => Blk w' bx 45 (a.arr (.slice A5 n5 c5) (.slice A6 n6 c6)) ∧ w'.ownsMap Tryz.prog 41 anyE mb r.p.length D) (by kernel_rfl) ⟨bB, hD⟩ (fun hHeld => ?_)
          refine t0 0 103 ?_
          go_frame
          refine tl 2 105 rfl (yieldsIf_load_row (by kernel_rfl) 45 _ rfl bx rfl 45 (a.arr (.slice A5 n5 c5) (.slice A6 n6 c6)) _ (fun _ h => h.1) Tryz.underlying45 rfl (by kernel_rfl)) ?_
          go_frame
          refine t0 3 106 ?_
          go_frame
          refine t0 4 107 ?_
          go_frame
          refine tl 5 108 rfl (yieldsIf_load_mid (by kernel_rfl) _ _ rfl bx 0 rfl [.int .i64 a.t.c, .int .i64 a.t.l, .int .i64 a.t.s] _ (fun W hSw => Blk.range hSw.1 0 _ (three_of rfl rfl rfl)) rfl rfl (by kernel_rfl)) ?_
          go_frame
          refine wpAnyH_take (i := 6) (oi := ⟨some 109, _, _, _, _, _⟩) (v := q.val (.slice A7 n7 c7) (.slice A8 n8 c8)) rfl (by kernel_rfl) (by kernel_rfl) (by kernel_rfl) (fun _ _ _ h => h) (Or.inl ⟨by kernel_rfl, fun W hSw => by have y := hlook W hSw.2; clear hSw; go_simp⟩) hHeld ?_
          go_frame
          refine wpAnyH_ready (rs := [1, 7]) (by kernel_rfl) (by simp) (AllReadyH.cons (o := ⟨some 104, _, _, _, _, _⟩) rfl (fun K hK => ?cA) (AllReadyH.cons (o := ⟨some 110, _, _, _, _, _⟩) rfl (fun K hK => ?cB) AllReadyH.nil))
          case' cA =>
            have y11 : W8.drew.cell? ⟨G, 11, none⟩ = some (.slice Ap L.length qp) := gO.cell 11
            go_simp
            refine hK.out _ _ hHeld (fun hHeld => ?_)
            clear hK K
            try go_frame
            clear y11
            refine wpAnyH_ready (rs := [7]) (by kernel_rfl) (by simp) (AllReadyH.cons (o := ⟨some 110, _, _, _, _, _⟩) rfl (fun K hK => ?_) AllReadyH.nil)
            go_simp
            (with_reducible refine hJ.mono ?_)
            rintro e w9 ⟨v1, v2, b2, rfl, u1, u2, hb2, hdis, hb9⟩
            obtain ⟨D1, e1, rfl, he1, he1m⟩ := u1.form
            obtain ⟨D2, e2, rfl, he2, he2m⟩ := u2.form
            have s9 := s8.trans (hb9.mono (Nat.le_refl _))
            clear hJ hdis he1 he1m he2 he2m
            refine hK.out _ _ ⟨bB.below s9 lB, (hD.drew).kept (grownBy_below hb9 none) (by simp)⟩ (fun hHeld => ?_)
            clear hK K
            try go_frame
            refine wpAnyH_ready (rs := [8]) (by kernel_rfl) (by simp) (AllReadyH.cons (o := ⟨some 111, _, _, _, _, _⟩) rfl (fun K hK => ?_) AllReadyH.nil)
            go_simp
            refine hK.out _ _ ⟨(bB.below s9 lB).alloc _, ((hD.drew).kept (grownBy_below hb9 none) (by simp)).alloc _⟩ (fun hHeld => ?_)
            clear hK K
            try go_frame
          case' cB =>
            go_simp
            (with_reducible refine hJ.mono ?_)
            rintro e w9 ⟨v1, v2, b2, rfl, u1, u2, hb2, hdis, hb9⟩
            obtain ⟨D1, e1, rfl, he1, he1m⟩ := u1.form
            obtain ⟨D2, e2, rfl, he2, he2m⟩ := u2.form
            have s9 := s8.trans (hb9.mono (Nat.le_refl _))
            clear hJ hdis he1 he1m he2 he2m
            refine hK.out _ _ ⟨bB.below s9 lB, (hD.drew).kept (grownBy_below hb9 none) (by simp)⟩ (fun hHeld => ?_)
            clear hK K
            try go_frame
            refine wpAnyH_ready (rs := [1, 8]) (by kernel_rfl) (by simp) (AllReadyH.cons (o := ⟨some 104, _, _, _, _, _⟩) rfl (fun K hK => ?cC) (AllReadyH.cons (o := ⟨some 111, _, _, _, _, _⟩) rfl (fun K hK => ?cD) AllReadyH.nil))
          case' cC =>
            have y11 : w9.cell? ⟨G, 11, none⟩ = some (.slice Ap L.length qp) := (gO.below s9 lO).cell 11
            go_simp
            refine hK.out _ _ hHeld (fun hHeld => ?_)
            clear hK K
            try go_frame
            clear y11
            refine wpAnyH_ready (rs := [8]) (by kernel_rfl) (by simp) (AllReadyH.cons (o := ⟨some 111, _, _, _, _, _⟩) rfl (fun K hK => ?_) AllReadyH.nil)
            go_simp
            refine hK.out _ _ ⟨(bB.below s9 lB).alloc _, ((hD.drew).kept (grownBy_below hb9 none) (by simp)).alloc _⟩ (fun hHeld => ?_)
            clear hK K
            try go_frame
          case' cD =>
            go_simp
            refine hK.out _ _ ⟨(bB.below s9 lB).alloc _, ((hD.drew).kept (grownBy_below hb9 none) (by simp)).alloc _⟩ (fun hHeld => ?_)
            clear hK K
            try go_frame
            have y11 : (w9.alloc (.cells (a.arr (.slice D1 M1.length e1) (.slice D2 M2.length e2)) 45)).cell? ⟨G, 11, none⟩ = some (.slice Ap L.length qp) := ((gO.below s9 lO).alloc _).cell 11
            refine wpAnyH_ready (rs := [1]) (by kernel_rfl) (by simp) (AllReadyH.cons (o := ⟨some 104, _, _, _, _, _⟩) rfl (fun K hK => ?_) AllReadyH.nil)
            go_simp
            refine hK.out _ _ hHeld (fun hHeld => ?_)
            clear hK K
            try go_frame
            clear y11
          all_goals
            have hY : Below w9.heap.size w9 (w9.alloc (.cells (a.arr (.slice D1 M1.length e1) (.slice D2 M2.length e2)) 45)) := by go_grown
            have s10 := s9.trans (hY.mono s9.size)
            have hz10 : W8.heap.size ≤ (w9.alloc (.cells (a.arr (.slice D1 M1.length e1) (.slice D2 M2.length e2)) 45)).heap.size := s10.size
            have hsz10 : (w9.alloc (.cells (a.arr (.slice D1 M1.length e1) (.slice D2 M2.length e2)) 45)).heap.size = w9.heap.size + 1 := by simp
            have p10 := pX.below PnRel.kept PnRel.mono s10
            have hK : ∀ k, W8.heap.size ≤ k → k < (w9.alloc (.cells (a.arr (.slice D1 M1.length e1) (.slice D2 M2.length e2)) 45)).heap.size → freeB w1.heap.size (w9.alloc (.cells (a.arr (.slice D1 M1.length e1) (.slice D2 M2.length e2)) 45)).heap.size (.slice Ap L.length qp) (.slice none 0 0) k = true := pX.fresh hz10 (Nat.le_refl _) (by omega)
            have hin : Inn PnRel (freeB w1.heap.size (w9.alloc (.cells (a.arr (.slice D1 M1.length e1) (.slice D2 M2.length e2)) 45)).heap.size (.slice Ap L.length qp) (.slice none 0 0)) (w9.alloc (.cells (a.arr (.slice D1 M1.length e1) (.slice D2 M2.length e2)) 45)) (a.cl (.slice D1 M1.length e1) (.slice D2 M2.length e2)) ⟨a.t, a.s, M1, M2⟩ :=
              ⟨_, _, rfl, hxt, hxs, OwnL.inn (by omega) ky_len (u1.below hY) K1.out hK, OwnL.inn (by omega) wt_len (u2.below hY) K2.out (fun k h5 h6 => hK k (by have : W8.heap.size ≤ b2 := hb2; omega) h6)⟩
            have HI := Lib.hid hin
            obtain ⟨xs, hown0, hpush⟩ := p10.own1 PnRel.kept PnRel.mono
            have HP := Lib.hid hpush
            have hrd0 := reads_new' w9 45 (a.cl (.slice D1 M1.length e1) (.slice D2 M2.length e2)) 8 rfl
            have B10 := (bB.below s9 lB).alloc (.cells (a.arr (.slice D1 M1.length e1) (.slice D2 M2.length e2)) 45)
            have D10 := ((hD.drew).kept (grownBy_below hb9 none) (by simp)).alloc (.cells (a.arr (.slice D1 M1.length e1) (.slice D2 M2.length e2)) 45)
            have O10 := gO.below s10 lO
            clear hpush hin hK
            refine wpAnyH_ready (rs := [9]) (by kernel_rfl) (by simp) (AllReadyH.cons (o := ⟨some 112, _, _, _, _, _⟩) rfl (fun K hK => ?_) AllReadyH.nil)
            refine step_append_any _ rfl _ _ _ rfl w1.heap.size 45 i1 _ 8 96 Tryz.underlying28 hi1 iz0 iz1 iz2 rfl (by omega) (.slice Ap L.length qp) _ xs (by rfl) hown0 _ (some ⟨w9.heap.size, 0, none⟩) 1 1 (a.cl (.slice D1 M1.length e1) (.slice D2 M2.length e2)) (by rfl) hrd0 (pn_oneC a _ _ _ _ _ _) (by unfold maxLen; omega) (by omega) (by rw [World.size_alloc]; omega) ?_
            intro v3 w3 hown3 hg3 hat3
            have hpn := HP.out _ _ w3 _ rfl HI.out hown3 hg3 hat3
            obtain ⟨A9, q9, rfl, hq9, hq9m⟩ := own_form hown3
            have hne : ∀ g, g < w1.heap.size → some g ≠ (Value.slice Ap L.length qp).ownBlock := fun g hg => pX.ne1 hg
            have B11 := B10.grown hg3 hnB
            have D11 := D10.kept hg3 (hne mb (by omega))
            have O11 := O10.grown hg3 (hne G hGN)
            refine hK.out _ _ ⟨B11, D11⟩ (fun hHeld => ?_)
            clear hK K
            try go_frame
            refine t0 10 113 ?_
            go_frame
            have y11 : w3.cell? ⟨G, 11, none⟩ = some (.slice Ap L.length qp) := O11.cell 11
            have f11 := O11.frozen 11
            refine wpAnyH_ready (rs := [11]) (by kernel_rfl) (by simp) (AllReadyH.cons (o := ⟨none, _, _, _, _, _⟩) rfl (fun K hK => ?_) AllReadyH.nil)
            go_simp
            refine hK.out _ _ ⟨B11.far (p := ⟨G, 11, none⟩) (by show bx ≠ G; omega) _, D11.setCell (by show mb ≠ G; omega) _⟩ (fun hHeld => ?_)
            clear hK K
            try go_frame
            refine wpAnyH_done (by kernel_rfl) ?_ _
            have O12 : Blk (w3.setCell ⟨G, 11, none⟩ (.slice A9 (L.length + 1) q9)) G 30 (stArr ⟨l.r.id, l.r.ep - 1, l.r.lo, r.r.hi⟩ l.f l.c (.slice Av nv cv) (.slice A9 (L.length + 1) q9)) := O11.set_ 11 _
            have g12 := ((g4.below s10 g4.lt).grown hg3 (hne _ (by omega))).far (p := ⟨G, 11, none⟩) (by show w.heap.size + 1 + 1 ≠ G; omega) (.slice A9 (L.length + 1) q9)
            have p12 := hpn.far PnRel.kept PnRel.mono (p := ⟨G, 11, none⟩) (by show G < w1.heap.size; omega) (.slice A9 (L.length + 1) q9)
            have M12 := ((hM8.below s10).grown hg3 (hne mb (by omega)) (fun q hq => by have := (hown0.lt q hq).1; omega)).far (p := ⟨G, 11, none⟩) (by show mb ≠ G; omega) (by show w.heap.size ≤ G; omega) (.slice A9 (L.length + 1) q9)
            have h12 : ∀ j, G < j → j < w1.heap.size → (w3.setCell ⟨G, 11, none⟩ (.slice A9 (L.length + 1) q9)).heap[j]? = w1.heap[j]? := fun j h1 h2 => (Below.heap_setCell _ _ _ _ (by show j ≠ G; omega)).trans ((hg3.block j (by rw [World.size_alloc]; omega) (hne j h2)).trans ((s10.block j (by omega)).trans (HSM.out j h1 h2)))
            have b12 := ((b8.trans (s10.mono b8.size)).grown hg3 (by omega) (fun q hq => by have := (hown0.lt q hq).1; omega)).setCell (p := ⟨G, 11, none⟩) (by show w.heap.size ≤ G; omega) (.slice A9 (L.length + 1) q9)
            have n12 : w1.heap.size ≤ (w3.setCell ⟨G, 11, none⟩ (.slice A9 (L.length + 1) q9)).heap.size := by have := hg3.size; rw [World.size_alloc] at this; simp [World.setCell]; omega
            have H12 := Lib.hid h12
            clear h12 hg3 hat3 hown3 hown0 hrd0 y11 f11 hHeld hpn O11 B11 D11 B10 D10 O10 p10 s10 s9 s8 hb9 u1 u2 hz10 hsz10 hY hne HSM gO g4 pX hnB bB hD hlook b8 hM8
            generalize (w3.setCell ⟨G, 11, none⟩ (.slice A9 (L.length + 1) q9)) = w12 at *
            go_wp2
            go_roundw
            case rel =>
              refine ⟨k2 + 1, _, by omega, by go_num, g12, O12, ?_, H12.out, M12, b12, n12⟩
              rw [HT.out]; exact p12
            case measure => simp [intOf]; omega
        · have hd2 : decide ((k2 : Int) < (n2 : Int)) = false := decide_eq_false (by omega)
          have hlp : l.p.take k2 = l.p := List.take_of_length_le (by have := h2.1; omega)
          rw [hlp] at hp bO
          clear hlp
          obtain ⟨LP, hLP⟩ : ∃ LP, LP = l.p.map fun x => joinP x (r.p.find? fun p => decide (p.t = x.t)) := ⟨_, rfl⟩
          rw [← hLP] at hp bO
          have HLP := Lib.hid hLP
          clear hLP
          have pv := (hp.held PnRel.mono (by omega)).1
          have HP := Lib.hid pv
          have hGw := bO.lt
          have HSM := Lib.hid hsm
          obtain ⟨g0, z0, z1, z2, z3, z4, z5, z6, z7, z8, z9, z10, z11⟩ := bO.dozen
          clear hp hsm hM pv
          go_wp2_with (first
            | (guard_target =~ wpList _ _ _ _ _ _; refine wpList_store_row rfl 30 _ _ rfl (w.heap.size + 1 + 1) (stArr ⟨l.r.id, l.r.ep - 1, l.r.lo, r.r.hi⟩ l.f l.c (.slice Av nv cv) (.slice Ap LP.length qp)) (by kernel_rfl) (by kernel_rfl) _ _ f4 (by kernel_rfl) (by kernel_rfl) (by kernel_rfl) ?_))
          (try simp only [Exit.inBlock, Exit.then])
          refine post_cell_tmp rfl (by rfl) (f4.setRow (stArr ⟨l.r.id, l.r.ep - 1, l.r.lo, r.r.hi⟩ l.f l.c (.slice Av nv cv) (.slice Ap LP.length qp))) rfl rfl (by kernel_rfl) ?_
          refine ⟨_, _, rfl, ?_, ?_, below_setRow hb (by omega) _⟩
          · exact ((HV8.out.stay (w' := wr) HsRel.kept fun k hk => by rw [rng_iff] at hk; exact HSM.out k (by omega) hk.2).stay HsRel.kept fun k hk => setRow_other _ _ _ _ (by rw [rng_iff] at hk; omega)).out HsRel.kept HsRel.mono (by rw [size_setRow]; exact hN)
          · have hx := (HP.out.stay (w' := wr.setRow (w.heap.size + 1 + 1) (stArr ⟨l.r.id, l.r.ep - 1, l.r.lo, r.r.hi⟩ l.f l.c (.slice Av nv cv) (.slice Ap LP.length qp))) PnRel.kept fun k hk => setRow_other _ _ _ _ (by rw [rng_iff] at hk; omega)).out PnRel.kept PnRel.mono (by rw [size_setRow]; exact Nat.le_refl _)
            rw [show (rejS l r).p = LP from HLP.out.symm]
            exact hx
end
end Go.Proofs.YtipacjbegfingaaGreat
