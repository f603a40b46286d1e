/- The program's Rejoin: its map of halves. -/
import Derived.Test.YtipacjbegfingaaGreatYadg
namespace Go.Proofs.YtipacjbegfingaaGreat
set_option linter.unusedVariables false
open Go.RowKit Fl
attribute [local go_sem] run_store_float

def HalR (l r : Stt) (A1 A2 A3 A4 : Option Addr) (n1 n2 n3 n4 c1 c2 c3 c4 mb : Nat) (w : World) (i : Value) (wr : World) : Prop :=
  ∃ k : Nat, k ≤ r.p.length ∧ i = .int .i64 (k : Int) ∧ HalfM wr w.heap.size mb mb (r.p.take k) ∧ ((r.p.take k).all fun p => l.p.any fun x => alikeP x p) = true ∧ Blk wr w.heap.size 30 (l.arr (.slice A1 n1 c1) (.slice A2 n2 c2)) ∧ Blk wr (w.heap.size + 1) 30 (r.arr (.slice A3 n3 c3) (.slice A4 n4 c4)) ∧ Blk wr (w.heap.size + 1 + 1) 30 zeroCells ∧ Below w.heap.size w wr
section
variable {l r : Stt} {A1 A2 A3 A4 : Option Addr} {n1 n2 n3 n4 c1 c2 c3 c4 : Nat} {w : World}
set_option maxRecDepth 100000 in
set_option maxHeartbeats 4000000 in
theorem rejoin_c (hok : l.r.ok) (hok2 : r.r.ok) (h1 : Sl HsRel 2 w w.heap.size A1 n1 l.h) (h2 : Sl PnRel 8 w w.heap.size A2 n2 l.p) (h3 : Sl HsRel 2 w w.heap.size A3 n3 r.h) (h4 : Sl PnRel 8 w w.heap.size A4 n4 r.p) (hH : SmallH l.h) (hQ : SmallP l.p) (hH2 : SmallH r.h) (hQ2 : SmallP r.p) (hm : mayS l = true) (hm2 : mayS r = true) (hgo : l.r.hi = r.r.lo ∧ 1 ≤ l.r.ep ∧ l.r.id ≠ r.r.id) (hone : r.p.Pairwise fun a b => a.t ≠ b.t) (hbad : (r.p.all fun p => l.p.any fun x => alikeP x p) = false) :
    Calls Tryz.prog 8 #[.agg (l.arr (.slice A1 n1 c1) (.slice A2 n2 c2)), .agg (r.arr (.slice A3 n3 c3) (.slice A4 n4 c4))] w (RejPost w zeroS 14) := by
  have HG := Lib.hid (⟨hgo, hone, hbad⟩ : (l.r.hi = r.r.lo ∧ 1 ≤ l.r.ep ∧ l.r.id ≠ r.r.id) ∧ (r.p.Pairwise fun a b => a.t ≠ b.t) ∧ (r.p.all fun p => l.p.any fun x => alikeP x p) = false)
  clear hgo hone hbad
  have hX : Below w.heap.size w (((w.alloc (.cells (l.arr (.slice A1 n1 c1) (.slice A2 n2 c2)) 30)).alloc (.cells (r.arr (.slice A3 n3 c3) (.slice A4 n4 c4)) 30)).alloc (.cells zeroCells 30)) := by go_grown
  have b0 : Blk (((w.alloc (.cells (l.arr (.slice A1 n1 c1) (.slice A2 n2 c2)) 30)).alloc (.cells (r.arr (.slice A3 n3 c3) (.slice A4 n4 c4)) 30)).alloc (.cells zeroCells 30)) w.heap.size 30 (l.arr (.slice A1 n1 c1) (.slice A2 n2 c2)) := ((Blk.new _ _ _).alloc _).alloc _
  have b1 : Blk (((w.alloc (.cells (l.arr (.slice A1 n1 c1) (.slice A2 n2 c2)) 30)).alloc (.cells (r.arr (.slice A3 n3 c3) (.slice A4 n4 c4)) 30)).alloc (.cells zeroCells 30)) (w.heap.size + 1) 30 (r.arr (.slice A3 n3 c3) (.slice A4 n4 c4)) := (Blk.new' _ _ (by simp)).alloc _
  have b2 : Blk (((w.alloc (.cells (l.arr (.slice A1 n1 c1) (.slice A2 n2 c2)) 30)).alloc (.cells (r.arr (.slice A3 n3 c3) (.slice A4 n4 c4)) 30)).alloc (.cells zeroCells 30)) (w.heap.size + 1 + 1) 30 zeroCells := Blk.new' _ _ (by simp)
  have hs1 := fun w' (hb : Below w.heap.size w w') => stateMay_any l A1 A2 n1 n2 c1 c2 w' hok ((h1.below HsRel.kept hb).more HsRel.kept hb.size) ((h2.below PnRel.kept hb).more PnRel.kept hb.size) hH hQ
  have hs2 := fun w' (hb : Below w.heap.size w w') => stateMay_any r A3 A4 n3 n4 c3 c4 w' hok2 ((h3.below HsRel.kept hb).more HsRel.kept hb.size) ((h4.below PnRel.kept hb).more PnRel.kept hb.size) hH2 hQ2
  rw [hm] at hs1
  rw [hm2] at hs2
  clear hm hm2
  go_enter Tryz.func8, Tryz.ntmps8
  go_upto_region 1 with fail
  generalize (((w.alloc (.cells (l.arr (.slice A1 n1 c1) (.slice A2 n2 c2)) 30)).alloc (.cells (r.arr (.slice A3 n3 c3) (.slice A4 n4 c4)) 30)).alloc (.cells zeroCells 30)) = W at *
  obtain ⟨g0, z0, z1, z2, z3, z4, z5, z6, z7, z8, z9, z10, z11⟩ := b0.dozen
  go_wp2_with fail
  refine (hs1 _ hX).mono ?_
  rintro e w1 ⟨rfl, hb1⟩
  have b1' := b1.below hb1 b1.lt
  have b2' := b2.below hb1 b2.lt
  have b0' := b0.below hb1 b0.lt
  have hY := hX.trans (hb1.mono hX.size)
  clear z0 z1 z2 z3 z4 z5 z6 z7 z8 z9 z10 z11 g0 b0 b1 b2 hs1
  obtain ⟨g0, z0, z1, z2, z3, z4, z5, z6, z7, z8, z9, z10, z11⟩ := b1'.dozen
  go_wp2_with fail
  refine (hs2 _ hY).mono ?_
  rintro e w2 ⟨rfl, hb2⟩
  have b3' := b2'.below hb2 b2'.lt
  have d0 := b0'.below hb2 b0'.lt
  have d1 := b1'.below hb2 b1'.lt
  have hZ := hY.trans (hb2.mono hY.size)
  clear z0 z1 z2 z3 z4 z5 z6 z7 z8 z9 z10 z11 g0 b0' b1' b2' hs2
  go_upto_region 3 with fail
  have z0 : w2.cell? ⟨w.heap.size, 0, none⟩ = some (.int .i64 l.r.id) := d0.cell 0
  have z1 : w2.cell? ⟨w.heap.size, 1, none⟩ = some (.int .i64 l.r.ep) := d0.cell 1
  have z3 : w2.cell? ⟨w.heap.size, 3, none⟩ = some (.float .f64 l.r.hi) := d0.cell 3
  have y0 : w2.cell? ⟨w.heap.size + 1, 0, none⟩ = some (.int .i64 r.r.id) := d1.cell 0
  have y2 : w2.cell? ⟨w.heap.size + 1, 2, none⟩ = some (.float .f64 r.r.lo) := d1.cell 2
  have l3 := b3'.lt
  obtain ⟨⟨e, e2, e3⟩, -⟩ := HG.out
  have q1 : ((l.r.hi : Int) != (r.r.lo : Int)) = false := by simp [e]
  have q1' : ((l.r.hi : Int) == (r.r.lo : Int)) = true := by simp [e]
  have q2 : decide (l.r.ep < 1) = false := decide_eq_false (by omega)
  have q3 : (l.r.id == r.r.id) = false := by simp [e3]
  clear e e3
  go_quiet (fail)
  have hQ3 : Below w.heap.size w (w2.drewN nq) := hZ.trans ⟨rfl, rfl, rfl, Nat.le_refl _, fun _ _ => rfl⟩
  have b4' : Blk (w2.drewN nq) (w.heap.size + 1 + 1) 30 zeroCells := b3'
  have d0' : Blk (w2.drewN nq) w.heap.size 30 (l.arr (.slice A1 n1 c1) (.slice A2 n2 c2)) := d0
  have d1' : Blk (w2.drewN nq) (w.heap.size + 1) 30 (r.arr (.slice A3 n3 c3) (.slice A4 n4 c4)) := d1
  clear z0 z1 z3 y0 y2 d0 d1 b3' q1 q1' q2 q3 hZ
  generalize w2.drewN nq = wx at *
  have hmm := @run_makeMap Tryz.prog
  go_upto_region 6 with fail
  have X0 : Below wx.heap.size wx (wx.alloc (.map #[] 0)) := by go_grown
  have H0 := HalfM.new wx hQ3.size
  have e0 := d0'.below X0 d0'.lt
  have e1 := d1'.below X0 d1'.lt
  have e4 := b4'.below X0 b4'.lt
  have W0 := hQ3.trans (X0.mono hQ3.size)
  have hbx := hQ3.size
  have hmb : w.heap.size + 1 + 1 < wx.heap.size := b4'.lt
  clear d0' d1' b4' X0 hQ3
  generalize wx.heap.size = mb at *
  generalize wx.alloc (.map #[] 0) = wy at *
  have x4 : wy.cell? ⟨w.heap.size + 1, 11, none⟩ = some (.slice A4 n4 c4) := e1.cell 11
  have ly := e1.lt
  have hn4 : n4 ≤ 1000000 := by have := hQ2.1; have := h4.1; omega
  go_wp2
  go_loopw [52] (fun i wr => HalR l r A1 A2 A3 A4 n1 n2 n3 n4 c1 c2 c3 c4 mb w i wr) (fun i _ => n4 - (intOf i).toNat)
  case atStart => exact ⟨0, Nat.zero_le _, rfl, H0, rfl, e0, e1, e4, W0⟩
  case round =>
    clear e0 e1 e4 W0 H0 x4 ly
    obtain ⟨k, hk, rfl, hM, hall, e0, e1, e4, hb⟩ := hrel
    by_cases hlt : k < n4
    · obtain ⟨ad, a, A5, n5, c5, A6, n6, c6, rfl, ha, hbk, hxt, hxs, x0, x1, x2, x3, x4, x5, x6, x7, hn5, hc5, hs5, hn6, hc6, hs6⟩ := (h4.below PnRel.kept hb).pn hlt
      have hbk := Nat.lt_of_lt_of_le hbk hb.size
      have hd1 : decide ((k : Int) < (n4 : Int)) = true := by simp; omega
      have hk0 : (0 : Int) ≤ (k : Int) := by omega
      have hk1 : (k : Int) < (n4 : Int) := by omega
      go_upto_region 9 with fail
      have X8 : Below wr.heap.size wr (wr.alloc (.cells (a.arr (.slice A5 n5 c5) (.slice A6 n6 c6)) 45)) := by go_grown
      have bP := Blk.new wr 45 (a.arr (.slice A5 n5 c5) (.slice A6 n6 c6))
      have b8 := hb.trans (X8.mono hb.size)
      have f0 := e0.below X8 e0.lt
      have f1 := e1.below X8 e1.lt
      have f4 := e4.below X8 e4.lt
      have hM8 := hM.below X8
      have hI := indexP_any a A2 A5 A6 n2 n5 n6 c2 c5 c6 l.p wr.heap.size (wr.alloc (.cells (a.arr (.slice A5 n5 c5) (.slice A6 n6 c6)) 45)) bP ((h2.below PnRel.kept b8).more PnRel.kept b8.size) (by have := hQ.1; have := h2.1; omega)
      have hneg := idxP_neg a l.p 0
      generalize idxP a 0 l.p = z at *
      have y11 : (wr.alloc (.cells (a.arr (.slice A5 n5 c5) (.slice A6 n6 c6)) 45)).cell? ⟨w.heap.size, 11, none⟩ = some (.slice A2 n2 c2) := f0.cell 11
      have lf0 := f0.lt
      have hs5' := hs5.keep KyRel.kept fun p hp => X8.cell (by have := hb.size; omega)
      have hs6' := hs6.keep WtRel.kept fun p hp => X8.cell (by have := hb.size; omega)
      clear e0 e1 e4 hM hb x0 x1 x2 x3 x4 x5 x6 x7 X8 hs5 hs6
      generalize wr.heap.size = bx at *
      generalize wr.alloc (.cells (a.arr (.slice A5 n5 c5) (.slice A6 n6 c6)) 45) = w8 at *
      have HA := Lib.hid ha
      clear ha
      cases hq : l.p.any fun x => alikeP x a
      case' false =>
        rw [hq] at hneg
        clear hq
        go_wp2_with fail
        refine hI.mono ?_
        rintro e' w9 ⟨rfl, hb9⟩
        have b4' := f4.below hb9 f4.lt
        have hQ3 := b8.trans (hb9.mono b8.size)
        clear f0 f1 f4 y11
        go_wp2_with (first
          | (guard_target =~ wpList _ _ _ _ _ _; refine wpList_store_row rfl 30 _ _ rfl (w.heap.size + 1 + 1) zeroCells (by kernel_rfl) (by kernel_rfl) _ _ b4' (by kernel_rfl) (by kernel_rfl) (by kernel_rfl) ?_))
        (try simp only [Exit.inBlock, Exit.then])
        refine post_cell_tmp rfl (by rfl) (b4'.setRow zeroCells) rfl rfl (by kernel_rfl) ?_
        exact RejPost.zero (below_setRow hQ3 (by omega) _)
      case' true =>
        rw [hq] at hneg
        have HQ := Lib.hid hq
        clear hq
        go_wp2_with fail
        refine hI.mono ?_
        rintro e' w9 ⟨rfl, hb9⟩
        have bP9 := bP.below hb9 bP.lt
        have g0 := f0.below hb9 f0.lt
        have g1 := f1.below hb9 f1.lt
        have g4 := f4.below hb9 f4.lt
        have b9 := b8.trans (hb9.mono b8.size)
        have hka := List.getElem?_eq_some_iff.1 HA.out
        have hput := (hM8.below hb9).put (x := a) (r := .slice A5 n5 c5) (q := .slice A6 n6 c6) hxt hxs (by rw [List.length_take]; have := hQ2.1; unfold maxLen; omega) ⟨A5, n5, c5, rfl, hn5, hc5, hs5'.keep KyRel.kept fun p hp => hb9.cell (by have := b8.size; omega)⟩ ⟨A6, n6, c6, rfl, hn6, hc6, hs6'.keep WtRel.kept fun p hp => hb9.cell (by have := b8.size; omega)⟩ (fun y hy => by
          obtain ⟨j, hj⟩ := List.mem_iff_getElem?.1 hy
          have hjk : j < k := by
            have := (List.getElem?_eq_some_iff.1 hj).1
            rw [List.length_take] at this; omega
          rw [List.getElem?_take_of_lt hjk] at hj
          obtain ⟨hj1, hj2⟩ := List.getElem?_eq_some_iff.1 hj
          have := List.pairwise_iff_getElem.1 HG.out.2.1 j k hj1 hka.1 hjk
          rwa [hj2, hka.2] at this)
        obtain ⟨w10, hrun, hM10, hg10, -⟩ := hput
        have z0 : w9.cell? ⟨bx, 0, none⟩ = some (.int .i64 a.t.c) := bP9.cell 0
        have z1 : w9.cell? ⟨bx, 1, none⟩ = some (.int .i64 a.t.l) := bP9.cell 1
        have z2 : w9.cell? ⟨bx, 2, none⟩ = some (.int .i64 a.t.s) := bP9.cell 2
        have z3 : w9.cell? ⟨bx, 3, none⟩ = some (.int .i64 a.s.w) := bP9.cell 3
        have z4 : w9.cell? ⟨bx, 4, none⟩ = some (.int .i64 a.s.l) := bP9.cell 4
        have z5 : w9.cell? ⟨bx, 5, none⟩ = some (.int .i64 a.s.n) := bP9.cell 5
        have z6 : w9.cell? ⟨bx, 6, none⟩ = some (.slice A5 n5 c5) := bP9.cell 6
        have z7 : w9.cell? ⟨bx, 7, none⟩ = some (.slice A6 n6 c6) := bP9.cell 7
        have lx := bP9.lt
        have b10 : Below w.heap.size w w10 := b9.grown hg10 b9.size (fun q hq => by injection hq with hq; omega)
        have k0 := g0.grown hg10 (fun e => by injection e with e; omega)
        have k1 := g1.grown hg10 (fun e => by injection e with e; omega)
        have k4 := g4.grown hg10 (fun e => by injection e with e; omega)
        have HT := Lib.hid (show r.p.take (k + 1) = r.p.take k ++ [a] by rw [List.take_add_one, HA.out]; rfl)
        have HM := Lib.hid (⟨hM10, hall⟩ : HalfM w10 w.heap.size mb mb (r.p.take k ++ [a]) ∧ ((r.p.take k).all fun p => l.p.any fun x => alikeP x p) = true)
        clear hM10 hall hM8 f0 f1 f4 g0 g1 g4 bP bP9 hg10 y11 hb9 b8 b9 hka
        go_wp2
        go_roundw
        case rel =>
          refine ⟨k + 1, by have := (List.getElem?_eq_some_iff.1 HA.out).1; omega, by go_num, ?_, ?_, k0, k1, k4, b10⟩
          · rw [HT.out]; exact HM.out.1
          · rw [HT.out, List.all_append, HM.out.2]; simp [HQ.out]
        case measure => simp [intOf]; omega
    · have hkn : r.p.take k = r.p := List.take_of_length_le (by have := h4.1; omega)
      rw [hkn, HG.out.2.2] at hall
      cases hall
end
end Go.Proofs.YtipacjbegfingaaGreat
