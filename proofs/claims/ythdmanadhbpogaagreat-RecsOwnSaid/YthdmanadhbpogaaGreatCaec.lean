/- The walk of CopyRec, told with whose blocks its lists lie in. -/
import Derived.Test.YthdmanadhbpogaaGreatCadc
namespace Go.Proofs.YthdmanadhbpogaaGreat
set_option linter.unusedVariables false
open Go.RowKit Fl
attribute [local go_sem] run_store_float
theorem dis_of {v u : Value} (h : ∀ k, v.ownBlock = some k → u.ownBlock ≠ some k) : Dis v u := h
def CopyRO (r : Rc) (w : World) : Ending → World → Prop := fun e w' => ∃ g : Hds, e = .returned (.agg (r.vals g)) ∧ g.caps ∧ RcIn w' r g ∧ Below w.heap.size w w' ∧
 OwnL keyCells 9 1 w.heap.size w' g.a.v r.rd ∧ OwnL Wt.cells 60 4 w.heap.size w' g.b.v r.wr ∧ OwnL nmCells 3 1 w.heap.size w' g.c.v r.ps ∧ OwnL Wt.cells 61 4 w.heap.size w' g.d.v r.pr ∧
 (∀ w'', w'.grownBy w'' g.a.v.ownBlock → RcIn w'' { r with rd := [] } { g with a := Hd.nil }) ∧ (∀ w'', w'.grownBy w'' g.b.v.ownBlock → RcIn w'' { r with wr := [] } { g with b := Hd.nil }) ∧
 (∀ w'', w'.grownBy w'' g.c.v.ownBlock → RcIn w'' { r with ps := [] } { g with c := Hd.nil }) ∧ (∀ w'', w'.grownBy w'' g.d.v.ownBlock → RcIn w'' { r with pr := [] } { g with d := Hd.nil })
set_option maxRecDepth 100000 in
set_option maxHeartbeats 8000000 in
theorem copyRecO_any (r : Rc) (h : Hds) (w : World) (i : RcIn w r h) (sm : RcSm r h) :
 Calls Tryz.prog 11 #[.agg (r.vals h)] w (CopyRO r w) := by
 have hX : Below w.heap.size w ((w.alloc (.cells (r.vals h) 38)).alloc (.cells zeroRc 38)) := by go_grown
 have k1 : Blk ((w.alloc (.cells (r.vals h) 38)).alloc (.cells zeroRc 38)) w.heap.size 38 (r.vals h) := (Blk.new _ _ _).alloc _
 have k2 : Blk ((w.alloc (.cells (r.vals h) 38)).alloc (.cells zeroRc 38)) (w.heap.size + 1) 38 zeroRc := Blk.new' _ _ (by simp)
 have c0 : ((w.alloc (.cells (r.vals h) 38)).alloc (.cells zeroRc 38)).cell? ⟨w.heap.size, 0, none⟩ = some (.int .i64 r.k) := k1.cell 0
 have c1 : ((w.alloc (.cells (r.vals h) 38)).alloc (.cells zeroRc 38)).cell? ⟨w.heap.size, 1, none⟩ = some (.int .i64 r.t.c) := k1.cell 1
 have c2 : ((w.alloc (.cells (r.vals h) 38)).alloc (.cells zeroRc 38)).cell? ⟨w.heap.size, 2, none⟩ = some (.int .i64 r.t.l) := k1.cell 2
 have c3 : ((w.alloc (.cells (r.vals h) 38)).alloc (.cells zeroRc 38)).cell? ⟨w.heap.size, 3, none⟩ = some (.int .i64 r.t.s) := k1.cell 3
 have c4 : ((w.alloc (.cells (r.vals h) 38)).alloc (.cells zeroRc 38)).cell? ⟨w.heap.size, 4, none⟩ = some (.int .i64 r.s.w) := k1.cell 4
 have c5 : ((w.alloc (.cells (r.vals h) 38)).alloc (.cells zeroRc 38)).cell? ⟨w.heap.size, 5, none⟩ = some (.int .i64 r.s.l) := k1.cell 5
 have c6 : ((w.alloc (.cells (r.vals h) 38)).alloc (.cells zeroRc 38)).cell? ⟨w.heap.size, 6, none⟩ = some (.int .i64 r.s.n) := k1.cell 6
 have c7 : ((w.alloc (.cells (r.vals h) 38)).alloc (.cells zeroRc 38)).cell? ⟨w.heap.size, 7, none⟩ = some (.int .i64 r.pv.w) := k1.cell 7
 have c8 : ((w.alloc (.cells (r.vals h) 38)).alloc (.cells zeroRc 38)).cell? ⟨w.heap.size, 8, none⟩ = some (.int .i64 r.pv.l) := k1.cell 8
 have c9 : ((w.alloc (.cells (r.vals h) 38)).alloc (.cells zeroRc 38)).cell? ⟨w.heap.size, 9, none⟩ = some (.int .i64 r.pv.n) := k1.cell 9
 have c10 : ((w.alloc (.cells (r.vals h) 38)).alloc (.cells zeroRc 38)).cell? ⟨w.heap.size, 10, none⟩ = some (.bool r.cm) := k1.cell 10
 have c11 : ((w.alloc (.cells (r.vals h) 38)).alloc (.cells zeroRc 38)).cell? ⟨w.heap.size, 11, none⟩ = some (.int .i64 r.n) := k1.cell 11
 have c12 : ((w.alloc (.cells (r.vals h) 38)).alloc (.cells zeroRc 38)).cell? ⟨w.heap.size, 12, none⟩ = some (.float .f64 r.pt) := k1.cell 12
 have hY : Below w.heap.size w (((w.alloc (.cells (r.vals h) 38)).alloc (.cells zeroRc 38)).alloc (.cells (r.part (.slice none 0 0) (.slice none 0 0) (.slice none 0 0) (.slice none 0 0)) 38)) := by go_grown
 have y1 : Blk (((w.alloc (.cells (r.vals h) 38)).alloc (.cells zeroRc 38)).alloc (.cells (r.part (.slice none 0 0) (.slice none 0 0) (.slice none 0 0) (.slice none 0 0)) 38)) w.heap.size 38 (r.vals h) := k1.alloc _
 have y2 : Blk (((w.alloc (.cells (r.vals h) 38)).alloc (.cells zeroRc 38)).alloc (.cells (r.part (.slice none 0 0) (.slice none 0 0) (.slice none 0 0) (.slice none 0 0)) 38)) (w.heap.size + 1) 38 zeroRc := k2.alloc _
 have y3 : Blk (((w.alloc (.cells (r.vals h) 38)).alloc (.cells zeroRc 38)).alloc (.cells (r.part (.slice none 0 0) (.slice none 0 0) (.slice none 0 0) (.slice none 0 0)) 38)) (w.heap.size + 1 + 1) 38 (r.part (.slice none 0 0) (.slice none 0 0) (.slice none 0 0) (.slice none 0 0)) := Blk.new' _ _ (by simp)
 have hzY : ((((w.alloc (.cells (r.vals h) 38)).alloc (.cells zeroRc 38)).alloc (.cells (r.part (.slice none 0 0) (.slice none 0 0) (.slice none 0 0) (.slice none 0 0)) 38))).heap.size = w.heap.size + 1 + 1 + 1 := by simp
 have HZY := Lib.hid hzY
 clear hzY
 go_enter Tryz.func11, Tryz.ntmps11
 go_wp2_with (refine wpList_store_at rfl 38 _ _ rfl (w.heap.size + 1 + 1) _ rfl rfl (by simp) _ _ (by kernel_rfl) (by kernel_rfl) (by kernel_rfl) ?_)
 clear c0 c1 c2 c3 c4 c5 c6 c7 c8 c9 c10 c11 c12 k1 k2 hX
 refine (strings_any h.a.A h.a.n h.a.c r.rd _ (i.below hY).rd sm.a).mono ?_
 rintro e w1 ⟨v1, rfl, o1, hb1⟩
 obtain ⟨A1, q1, rfl, hq1, hm1⟩ := o1.form
 have L1 := Lib.hid (fun k hk => o1.lt k hk)
 have hz1 := hb1.size
 replace y1 := y1.below hb1 y1.lt
 replace y2 := y2.below hb1 y2.lt
 replace y3 := y3.below hb1 y3.lt
 have hB1 : Below w.heap.size w w1 := hY.trans (hb1.mono hY.size)
 have z1 : w1.cell? ⟨w.heap.size + 1 + 1, 13, none⟩ = some (.slice none 0 0) := y3.cell 13
 have f1 : w1.frozen? ⟨w.heap.size + 1 + 1, 13, none⟩ = false := y3.frozen 13
 have n1 : w1.cell? ⟨w.heap.size, 14, none⟩ = some h.b.v := y1.cell 14
 have hW1 : Below w.heap.size w (w1.setCell ⟨w.heap.size + 1 + 1, 13, none⟩ (.slice A1 r.rd.length q1)) := hB1.setCell (p := ⟨w.heap.size + 1 + 1, 13, none⟩) (by simp; omega) _
 replace y1 := y1.far (p := ⟨w.heap.size + 1 + 1, 13, none⟩) (by simp; omega) (.slice A1 r.rd.length q1)
 replace y2 := y2.far (p := ⟨w.heap.size + 1 + 1, 13, none⟩) (by simp) (.slice A1 r.rd.length q1)
 replace y3 : Blk (w1.setCell ⟨w.heap.size + 1 + 1, 13, none⟩ (.slice A1 r.rd.length q1)) (w.heap.size + 1 + 1) 38 (r.part (.slice A1 r.rd.length q1) (.slice none 0 0) (.slice none 0 0) (.slice none 0 0)) := y3.set_ 13 (.slice A1 r.rd.length q1)
 have hs1 : w.heap.size + 1 + 1 + 1 ≤ ((((w.alloc (.cells (r.vals h) 38)).alloc (.cells zeroRc 38)).alloc (.cells (r.part (.slice none 0 0) (.slice none 0 0) (.slice none 0 0) (.slice none 0 0)) 38))).heap.size := by rw [HZY.out]; exact Nat.le_refl _
 replace o1 := o1.set_far (p := ⟨w.heap.size + 1 + 1, 13, none⟩) (by simp only; omega) (.slice A1 r.rd.length q1)
 go_wp2_with fail
 refine (copyW_any h.b.A h.b.n h.b.c r.wr _ (i.below hW1).wr sm.b).mono ?_
 rintro e w2 ⟨v2, rfl, o2, hb2⟩
 obtain ⟨A2, q2, rfl, hq2, hm2⟩ := o2.form
 have L2 := Lib.hid (fun k hk => o2.lt k hk)
 have hz2 := hb2.size
 replace y1 := y1.below hb2 y1.lt
 replace y2 := y2.below hb2 y2.lt
 replace y3 := y3.below hb2 y3.lt
 have hB2 : Below w.heap.size w w2 := hW1.trans (hb2.mono hW1.size)
 replace o1 := o1.below hb2
 have z2 : w2.cell? ⟨w.heap.size + 1 + 1, 14, none⟩ = some (.slice none 0 0) := y3.cell 14
 have f2 : w2.frozen? ⟨w.heap.size + 1 + 1, 14, none⟩ = false := y3.frozen 14
 have n2 : w2.cell? ⟨w.heap.size, 15, none⟩ = some h.c.v := y1.cell 15
 have hW2 : Below w.heap.size w (w2.setCell ⟨w.heap.size + 1 + 1, 14, none⟩ (.slice A2 r.wr.length q2)) := hB2.setCell (p := ⟨w.heap.size + 1 + 1, 14, none⟩) (by simp; omega) _
 replace y1 := y1.far (p := ⟨w.heap.size + 1 + 1, 14, none⟩) (by simp; omega) (.slice A2 r.wr.length q2)
 replace y2 := y2.far (p := ⟨w.heap.size + 1 + 1, 14, none⟩) (by simp) (.slice A2 r.wr.length q2)
 replace y3 : Blk (w2.setCell ⟨w.heap.size + 1 + 1, 14, none⟩ (.slice A2 r.wr.length q2)) (w.heap.size + 1 + 1) 38 (r.part (.slice A1 r.rd.length q1) (.slice A2 r.wr.length q2) (.slice none 0 0) (.slice none 0 0)) := y3.set_ 14 (.slice A2 r.wr.length q2)
 have hs2 : w.heap.size + 1 + 1 + 1 ≤ (w1.setCell ⟨w.heap.size + 1 + 1, 13, none⟩ (.slice A1 r.rd.length q1)).heap.size := by have := hb1.size; have := HZY.out; simp; omega
 replace o1 := o1.set_far (p := ⟨w.heap.size + 1 + 1, 14, none⟩) (by simp only; omega) (.slice A2 r.wr.length q2)
 replace o2 := o2.set_far (p := ⟨w.heap.size + 1 + 1, 14, none⟩) (by simp only; omega) (.slice A2 r.wr.length q2)
 go_wp2_with fail
 refine (ints_any h.c.A h.c.n h.c.c r.ps _ (i.below hW2).ps sm.c).mono ?_
 rintro e w3 ⟨v3, rfl, o3, hb3⟩
 obtain ⟨A3, q3, rfl, hq3, hm3⟩ := o3.form
 have L3 := Lib.hid (fun k hk => o3.lt k hk)
 have hz3 := hb3.size
 replace y1 := y1.below hb3 y1.lt
 replace y2 := y2.below hb3 y2.lt
 replace y3 := y3.below hb3 y3.lt
 have hB3 : Below w.heap.size w w3 := hW2.trans (hb3.mono hW2.size)
 replace o1 := o1.below hb3
 replace o2 := o2.below hb3
 have z3 : w3.cell? ⟨w.heap.size + 1 + 1, 15, none⟩ = some (.slice none 0 0) := y3.cell 15
 have f3 : w3.frozen? ⟨w.heap.size + 1 + 1, 15, none⟩ = false := y3.frozen 15
 have n3 : w3.cell? ⟨w.heap.size, 16, none⟩ = some h.d.v := y1.cell 16
 have hW3 : Below w.heap.size w (w3.setCell ⟨w.heap.size + 1 + 1, 15, none⟩ (.slice A3 r.ps.length q3)) := hB3.setCell (p := ⟨w.heap.size + 1 + 1, 15, none⟩) (by simp; omega) _
 replace y1 := y1.far (p := ⟨w.heap.size + 1 + 1, 15, none⟩) (by simp; omega) (.slice A3 r.ps.length q3)
 replace y2 := y2.far (p := ⟨w.heap.size + 1 + 1, 15, none⟩) (by simp) (.slice A3 r.ps.length q3)
 replace y3 : Blk (w3.setCell ⟨w.heap.size + 1 + 1, 15, none⟩ (.slice A3 r.ps.length q3)) (w.heap.size + 1 + 1) 38 (r.part (.slice A1 r.rd.length q1) (.slice A2 r.wr.length q2) (.slice A3 r.ps.length q3) (.slice none 0 0)) := y3.set_ 15 (.slice A3 r.ps.length q3)
 have hs3 : w.heap.size + 1 + 1 + 1 ≤ (w2.setCell ⟨w.heap.size + 1 + 1, 14, none⟩ (.slice A2 r.wr.length q2)).heap.size := by have := hb1.size; have := HZY.out; simp; omega
 replace o1 := o1.set_far (p := ⟨w.heap.size + 1 + 1, 15, none⟩) (by simp only; omega) (.slice A3 r.ps.length q3)
 replace o2 := o2.set_far (p := ⟨w.heap.size + 1 + 1, 15, none⟩) (by simp only; omega) (.slice A3 r.ps.length q3)
 replace o3 := o3.set_far (p := ⟨w.heap.size + 1 + 1, 15, none⟩) (by simp only; omega) (.slice A3 r.ps.length q3)
 go_wp2_with fail
 obtain ⟨i0, hi0, hz0, hz01, hz02⟩ := info_parts pr_info
 have hlr : r.pr.length = h.d.n := i.pr.1
 have hle : r.pr.length ≤ h.d.n := by omega
 have hge : h.d.n ≤ r.pr.length := by omega
 have hdn := sm.d
 clear hlr
 have hs4 : w.heap.size + 1 + 1 + 1 ≤ (w3.setCell ⟨w.heap.size + 1 + 1, 15, none⟩ (.slice A3 r.ps.length q3)).heap.size := by have := hb1.size; have := hb2.size; have := HZY.out; simp; simp at *; omega
 have HS2 := Lib.hid hs2
 have HS3 := Lib.hid hs3
 have HZ2 := Lib.hid hz2
 have HZ3 := Lib.hid hz3
 clear z1 f1 n1 z2 f2 n2 z3 f3 n3 hs1 hs2 hs3 hz1 hz2 hz3 hb1 hb2 hb3 hW1 hW2 hB1 hB2 hB3 hY
 go_loopw [4] (fun i wr => PrRel r h w (w3.setCell ⟨w.heap.size + 1 + 1, 15, none⟩ (.slice A3 r.ps.length q3)) (.slice A1 r.rd.length q1) (.slice A2 r.wr.length q2) (.slice A3 r.ps.length q3) i wr) (fun i _ => h.d.n - (intOf i).toNat)
 case atStart => exact ⟨0, .slice none 0 0, by omega, rfl, y1, y2, y3, OwnL.nil _, fun _ _ _ => rfl, hW3, Nat.le_refl _⟩
 case round =>
  obtain ⟨k, v4, hk, rfl, e1, e2, e3, ho, hsame, hbw, hszw⟩ := hrel
  have hln : (r.pr.take k).length ≤ 1000000 := by simp; omega
  obtain ⟨A4, q4, rfl, hq4, hq4m⟩ := ho.form
  have l1 := e1.lt
  have l3 := e3.lt
  have t1 : wr.cell? ⟨w.heap.size, 16, none⟩ = some h.d.v := e1.cell 16
  have t3 : wr.cell? ⟨w.heap.size + 1 + 1, 16, none⟩ = some (.slice A4 (r.pr.take k).length q4) := e3.cell 16
  have g3 : wr.frozen? ⟨w.heap.size + 1 + 1, 16, none⟩ = false := e3.frozen 16
  by_cases hlt : k < h.d.n
  · obtain ⟨ad, a, hA, ha, hbk, hok, c0, c1, c2, c3⟩ := (i.pr.below WtRel.kept hbw).wt hlt
    rw [show h.d.v = .slice h.d.A h.d.n h.d.c from rfl, hA] at t1
    have hd1 : decide ((k : Int) < (h.d.n : Int)) = true := by simp; omega
    have hk0 : (0 : Int) ≤ (k : Int) := by omega
    have hk1 : (k : Int) < (h.d.n : Int) := by omega
    have HS := Lib.hid (show r.pr.take (k + 1) = r.pr.take k ++ [a] by rw [List.take_add_one, ha]; rfl)
    have hbk2 : (ad.add (k * 4)).block < wr.heap.size := Nat.lt_of_lt_of_le hbk hbw.size
    clear ha hA
    generalize r.pr.take k = ks at *
    have hX : Below wr.heap.size wr (wr.alloc (.cells a.cells.toArray 61)).drew := ((Below.refl _ _).alloc (Nat.le_refl _) _).drew
    have hown0 := ho.below hX
    have hrd0 := (reads_new' wr 61 a.cells 4 rfl).drew
    go_wp2
    go_region_law (refine step_append_any _ rfl (.tmp 40) (.tmp 46) _ rfl (w3.setCell ⟨w.heap.size + 1 + 1, 15, none⟩ (.slice A3 r.ps.length q3)).heap.size 61 i0 _ 4 48 Tryz.underlying30 hi0 hz0 hz01 hz02 rfl (by omega) (.slice A4 ks.length q4) _ (ks.flatMap Wt.cells) (by simp [Act.eval]) hown0 _ (some ⟨wr.heap.size, 0, none⟩) 1 1 a.cells (by simp [Act.eval]) hrd0 (wt_one a) (by unfold maxLen; omega) (by omega) (by simp; simp at hszw; omega) ?_; intro v5 w5 hown5 hg5 hat5; have e5 := (e3.alloc (.cells a.cells.toArray 61)).drew.grown hg5 (ho.ne (by omega)); have z5 := e5.cell 16; simp only [List.getElem?_toArray, List.getElem?_cons_succ, List.getElem?_cons_zero] at z5; have f5 := e5.frozen 16; obtain ⟨A5, q5, rfl, hq5, hq5m⟩ := own_form hown5)
    all_goals
        have hp5 := (OwnL.push a hown5).set_far (p := ⟨w.heap.size + 1 + 1, 16, none⟩) (by simp only; omega) (.slice A5 (ks.length + 1) q5)
        have hbw5 := ((hbw.trans (hX.mono hbw.size)).grown hg5 (by have := hX.size; have := hbw.size; omega) (fun q hq => by have := (hown0.lt q hq).1; omega)).setCell (p := ⟨w.heap.size + 1 + 1, 16, none⟩) (by simp only; omega) (.slice A5 (ks.length + 1) q5)
        have e15 := ((e1.alloc (.cells a.cells.toArray 61)).drew.grown hg5 (ho.ne (by omega))).far (p := ⟨w.heap.size + 1 + 1, 16, none⟩) (by simp only; omega) (.slice A5 (ks.length + 1) q5)
        have e25 := ((e2.alloc (.cells a.cells.toArray 61)).drew.grown hg5 (ho.ne (by omega))).far (p := ⟨w.heap.size + 1 + 1, 16, none⟩) (by simp only; omega) (.slice A5 (ks.length + 1) q5)
        have hsame5 : ∀ j, w.heap.size + 1 + 1 + 1 ≤ j → j < (w3.setCell ⟨w.heap.size + 1 + 1, 15, none⟩ (.slice A3 r.ps.length q3)).heap.size → (w5.setCell ⟨w.heap.size + 1 + 1, 16, none⟩ (.slice A5 (ks.length + 1) q5)).heap[j]? = (w3.setCell ⟨w.heap.size + 1 + 1, 15, none⟩ (.slice A3 r.ps.length q3)).heap[j]? := fun j hj hj2 =>
         (Below.heap_setCell _ _ _ _ (by simp only; omega)).trans ((hg5.block j (by show j < (wr.alloc _).heap.size; rw [World.size_alloc]; omega) (ho.ne hj2)).trans ((hX.block j (by omega)).trans (hsame j hj hj2)))
        have hsz5 : (w3.setCell ⟨w.heap.size + 1 + 1, 15, none⟩ (.slice A3 r.ps.length q3)).heap.size ≤ (w5.setCell ⟨w.heap.size + 1 + 1, 16, none⟩ (.slice A5 (ks.length + 1) q5)).heap.size := by have := hg5.size; have := hX.size; simp at *; omega
        have HSM := Lib.hid hsame5
        clear hsame hsame5
        go_wp2
        go_roundw
        case rel =>
         refine ⟨k + 1, _, by omega, by go_num, e15, e25, e5.set_ 16 _, ?_, HSM.out, hbw5, hsz5⟩
         rw [HS.out]
         exact hp5
        case measure => simp [intOf]; omega
  · have hd1 : decide ((k : Int) < (h.d.n : Int)) = false := by simp; omega
    rw [List.take_of_length_le (by omega)] at ho e3
    have HSM := Lib.hid hsame
    clear hsame
    have s17 : wr.cell? ⟨w.heap.size, 17, none⟩ = some (.int .i64 r.st.r.id) := e1.cell 17
    have s18 : wr.cell? ⟨w.heap.size, 18, none⟩ = some (.int .i64 r.st.r.ep) := e1.cell 18
    have s19 : wr.cell? ⟨w.heap.size, 19, none⟩ = some (.float .f64 r.st.r.lo) := e1.cell 19
    have s20 : wr.cell? ⟨w.heap.size, 20, none⟩ = some (.float .f64 r.st.r.hi) := e1.cell 20
    have s21 : wr.cell? ⟨w.heap.size, 21, none⟩ = some (.int .i64 r.st.f.w) := e1.cell 21
    have s22 : wr.cell? ⟨w.heap.size, 22, none⟩ = some (.int .i64 r.st.f.l) := e1.cell 22
    have s23 : wr.cell? ⟨w.heap.size, 23, none⟩ = some (.int .i64 r.st.f.n) := e1.cell 23
    have s24 : wr.cell? ⟨w.heap.size, 24, none⟩ = some (.int .i64 r.st.c.w) := e1.cell 24
    have s25 : wr.cell? ⟨w.heap.size, 25, none⟩ = some (.int .i64 r.st.c.l) := e1.cell 25
    have s26 : wr.cell? ⟨w.heap.size, 26, none⟩ = some (.int .i64 r.st.c.n) := e1.cell 26
    have s27 : wr.cell? ⟨w.heap.size, 27, none⟩ = some (h.e.v) := e1.cell 27
    have s28 : wr.cell? ⟨w.heap.size, 28, none⟩ = some (h.f.v) := e1.cell 28
    have hlr : r.pr.length = r.pr.length := rfl
    clear hlr t3 g3
    go_wp2_with fail
    have iw := i.below hbw
    refine (copyS_low r.st h.e.A h.f.A h.e.n h.f.n h.e.c h.f.c wr iw.hs iw.pn sm.h sm.p).mono ?_
    rintro e w5 ⟨C1, m1, d1, C2, m2, d2, rfl, p1, p2, p3, p4, p5, p6, hb5⟩
    have x1 := e1.below hb5 l1
    have x2 := e2.below hb5 e2.lt
    have x3 := e3.below hb5 l3
    have x4 := ho.below hb5
    have hb6 := hbw.trans (hb5.mono hbw.size)
    have x6 : Blk (w5.setCells (w.heap.size + 1 + 1) 17 [.int .i64 r.st.r.id, .int .i64 r.st.r.ep, .float .f64 r.st.r.lo, .float .f64 r.st.r.hi, .int .i64 r.st.f.w, .int .i64 r.st.f.l, .int .i64 r.st.f.n, .int .i64 r.st.c.w, .int .i64 r.st.c.l, .int .i64 r.st.c.n, .slice C1 m1 d1, .slice C2 m2 d2]) (w.heap.size + 1 + 1) 38 #[.int .i64 r.k, .int .i64 r.t.c, .int .i64 r.t.l, .int .i64 r.t.s, .int .i64 r.s.w, .int .i64 r.s.l, .int .i64 r.s.n, .int .i64 r.pv.w, .int .i64 r.pv.l, .int .i64 r.pv.n, .bool r.cm, .int .i64 r.n, .float .f64 r.pt, (.slice A1 r.rd.length q1), (.slice A2 r.wr.length q2), (.slice A3 r.ps.length q3), (.slice A4 r.pr.length q4), .int .i64 r.st.r.id, .int .i64 r.st.r.ep, .float .f64 r.st.r.lo, .float .f64 r.st.r.hi, .int .i64 r.st.f.w, .int .i64 r.st.f.l, .int .i64 r.st.f.n, .int .i64 r.st.c.w, .int .i64 r.st.c.l, .int .i64 r.st.c.n, .slice C1 m1 d1, .slice C2 m2 d2] :=
        by
         have hx := Blk.setCells [.int .i64 r.st.r.id, .int .i64 r.st.r.ep, .float .f64 r.st.r.lo, .float .f64 r.st.r.hi, .int .i64 r.st.f.w, .int .i64 r.st.f.l, .int .i64 r.st.f.n, .int .i64 r.st.c.w, .int .i64 r.st.c.l, .int .i64 r.st.c.n, .slice C1 m1 d1, .slice C2 m2 d2] 17 _ _ x3
         rw [show setA (r.part (.slice A1 r.rd.length q1) (.slice A2 r.wr.length q2) (.slice A3 r.ps.length q3) (.slice A4 r.pr.length q4)) 17 [.int .i64 r.st.r.id, .int .i64 r.st.r.ep, .float .f64 r.st.r.lo, .float .f64 r.st.r.hi, .int .i64 r.st.f.w, .int .i64 r.st.f.l, .int .i64 r.st.f.n, .int .i64 r.st.c.w, .int .i64 r.st.c.l, .int .i64 r.st.c.n, .slice C1 m1 d1, .slice C2 m2 d2] = #[.int .i64 r.k, .int .i64 r.t.c, .int .i64 r.t.l, .int .i64 r.t.s, .int .i64 r.s.w, .int .i64 r.s.l, .int .i64 r.s.n, .int .i64 r.pv.w, .int .i64 r.pv.l, .int .i64 r.pv.n, .bool r.cm, .int .i64 r.n, .float .f64 r.pt, (.slice A1 r.rd.length q1), (.slice A2 r.wr.length q2), (.slice A3 r.ps.length q3), (.slice A4 r.pr.length q4), .int .i64 r.st.r.id, .int .i64 r.st.r.ep, .float .f64 r.st.r.lo, .float .f64 r.st.r.hi, .int .i64 r.st.f.w, .int .i64 r.st.f.l, .int .i64 r.st.f.n, .int .i64 r.st.c.w, .int .i64 r.st.c.l, .int .i64 r.st.c.n, .slice C1 m1 d1, .slice C2 m2 d2] from by kernel_rfl] at hx
         exact hx
    have x7 : Blk (w5.setCells (w.heap.size + 1 + 1) 17 [.int .i64 r.st.r.id, .int .i64 r.st.r.ep, .float .f64 r.st.r.lo, .float .f64 r.st.r.hi, .int .i64 r.st.f.w, .int .i64 r.st.f.l, .int .i64 r.st.f.n, .int .i64 r.st.c.w, .int .i64 r.st.c.l, .int .i64 r.st.c.n, .slice C1 m1 d1, .slice C2 m2 d2]) (w.heap.size + 1) 38 zeroRc := (setCells_far (by omega) _ _ _).trans x2
    have hb7 : Below w.heap.size w (w5.setCells (w.heap.size + 1 + 1) 17 [.int .i64 r.st.r.id, .int .i64 r.st.r.ep, .float .f64 r.st.r.lo, .float .f64 r.st.r.hi, .int .i64 r.st.f.w, .int .i64 r.st.f.l, .int .i64 r.st.f.n, .int .i64 r.st.c.w, .int .i64 r.st.c.l, .int .i64 r.st.c.n, .slice C1 m1 d1, .slice C2 m2 d2]) := setCells_below (by omega) _ _ _ hb6
    have hf7 : ∀ j, w.heap.size + 1 + 1 + 1 ≤ j → (w5.setCells (w.heap.size + 1 + 1) 17 [.int .i64 r.st.r.id, .int .i64 r.st.r.ep, .float .f64 r.st.r.lo, .float .f64 r.st.r.hi, .int .i64 r.st.f.w, .int .i64 r.st.f.l, .int .i64 r.st.f.n, .int .i64 r.st.c.w, .int .i64 r.st.c.l, .int .i64 r.st.c.n, .slice C1 m1 d1, .slice C2 m2 d2]).heap[j]? = w5.heap[j]? := fun j hj => setCells_far (by omega) _ _ _
    have HF7 := Lib.hid hf7
    clear hf7
    have hsz : (r.part (.slice A1 r.rd.length q1) (.slice A2 r.wr.length q2) (.slice A3 r.ps.length q3) (.slice A4 r.pr.length q4)).size = 29 := by kernel_rfl
    have ht : w5.there (w.heap.size + 1 + 1) 17 12 := x3.there 17 12 (by rw [hsz]; omega)
    clear hsz
    have HSZ : RowKit.Hid ((w5.setCells (w.heap.size + 1 + 1) 17 [.int .i64 r.st.r.id, .int .i64 r.st.r.ep, .float .f64 r.st.r.lo, .float .f64 r.st.r.hi, .int .i64 r.st.f.w, .int .i64 r.st.f.l, .int .i64 r.st.f.n, .int .i64 r.st.c.w, .int .i64 r.st.c.l, .int .i64 r.st.c.n, .slice C1 m1 d1, .slice C2 m2 d2]).heap.size = w5.heap.size) := Lib.hid (setCells_size _ _ _)
    have go : ∀ W6 : World, W6 = (w5.setCells (w.heap.size + 1 + 1) 17 [.int .i64 r.st.r.id, .int .i64 r.st.r.ep, .float .f64 r.st.r.lo, .float .f64 r.st.r.hi, .int .i64 r.st.f.w, .int .i64 r.st.f.l, .int .i64 r.st.f.n, .int .i64 r.st.c.w, .int .i64 r.st.c.l, .int .i64 r.st.c.n, .slice C1 m1 d1, .slice C2 m2 d2]) → Blk W6 (w.heap.size + 1 + 1) 38 #[.int .i64 r.k, .int .i64 r.t.c, .int .i64 r.t.l, .int .i64 r.t.s, .int .i64 r.s.w, .int .i64 r.s.l, .int .i64 r.s.n, .int .i64 r.pv.w, .int .i64 r.pv.l, .int .i64 r.pv.n, .bool r.cm, .int .i64 r.n, .float .f64 r.pt, (.slice A1 r.rd.length q1), (.slice A2 r.wr.length q2), (.slice A3 r.ps.length q3), (.slice A4 r.pr.length q4), .int .i64 r.st.r.id, .int .i64 r.st.r.ep, .float .f64 r.st.r.lo, .float .f64 r.st.r.hi, .int .i64 r.st.f.w, .int .i64 r.st.f.l, .int .i64 r.st.f.n, .int .i64 r.st.c.w, .int .i64 r.st.c.l, .int .i64 r.st.c.n, .slice C1 m1 d1, .slice C2 m2 d2] ∧ Blk W6 (w.heap.size + 1) 38 zeroRc ∧ Below w.heap.size w W6 ∧ RowKit.Hid (∀ j, w.heap.size + 1 + 1 + 1 ≤ j → W6.heap[j]? = w5.heap[j]?) ∧ RowKit.Hid (W6.heap.size = w5.heap.size) := by
        intro W6 hW6
        subst hW6
        exact ⟨x6, x7, hb7, HF7, HSZ⟩
    clear x6 x7 hb7 HF7 HSZ
    go_wp2_with (first
        | (guard_target =~ wpList _ _ _ _ _ _; refine wpList_store_mid rfl 36 _ _ rfl (w.heap.size + 1 + 1) 17 #[.int .i64 r.st.r.id, .int .i64 r.st.r.ep, .float .f64 r.st.r.lo, .float .f64 r.st.r.hi, .int .i64 r.st.f.w, .int .i64 r.st.f.l, .int .i64 r.st.f.n, .int .i64 r.st.c.w, .int .i64 r.st.c.l, .int .i64 r.st.c.n, .slice C1 m1 d1, .slice C2 m2 d2] (by kernel_rfl) (by kernel_rfl) ht (by kernel_rfl) (by kernel_rfl) ?_
           obtain ⟨W6, hW6⟩ : ∃ W6 : World, W6 = w5.setCells (w.heap.size + 1 + 1) 17 (#[.int .i64 r.st.r.id, .int .i64 r.st.r.ep, .float .f64 r.st.r.lo, .float .f64 r.st.r.hi, .int .i64 r.st.f.w, .int .i64 r.st.f.l, .int .i64 r.st.f.n, .int .i64 r.st.c.w, .int .i64 r.st.c.l, .int .i64 r.st.c.n, .slice C1 m1 d1, .slice C2 m2 d2] : Array Value).toList := ⟨_, rfl⟩
           rw [← hW6]
           obtain ⟨x6, x7, hb7, HF7, HSZ⟩ := go W6 hW6
           clear go hW6)
        | (guard_target =~ wpList _ _ _ _ _ _; refine wpList_load_row rfl 38 _ rfl (w.heap.size + 1 + 1) (by kernel_rfl) _ _ (0, 0) _ x6 rfl rfl (by kernel_rfl) ?_)
        | (guard_target =~ wpList _ _ _ _ _ _; refine wpList_store_row rfl 38 _ _ rfl (w.heap.size + 1) #[.int .i64 r.k, .int .i64 r.t.c, .int .i64 r.t.l, .int .i64 r.t.s, .int .i64 r.s.w, .int .i64 r.s.l, .int .i64 r.s.n, .int .i64 r.pv.w, .int .i64 r.pv.l, .int .i64 r.pv.n, .bool r.cm, .int .i64 r.n, .float .f64 r.pt, (.slice A1 r.rd.length q1), (.slice A2 r.wr.length q2), (.slice A3 r.ps.length q3), (.slice A4 r.pr.length q4), .int .i64 r.st.r.id, .int .i64 r.st.r.ep, .float .f64 r.st.r.lo, .float .f64 r.st.r.hi, .int .i64 r.st.f.w, .int .i64 r.st.f.l, .int .i64 r.st.f.n, .int .i64 r.st.c.w, .int .i64 r.st.c.l, .int .i64 r.st.c.n, .slice C1 m1 d1, .slice C2 m2 d2] (by kernel_rfl) (by kernel_rfl) _ _ x7 (by kernel_rfl) (by kernel_rfl) (by kernel_rfl) ?_))
    refine post_cell rfl (by rfl) (x7.setRow _) rfl rfl (by kernel_rfl) ?_
    have hz7 : (W6.setRow (w.heap.size + 1) #[.int .i64 r.k, .int .i64 r.t.c, .int .i64 r.t.l, .int .i64 r.t.s, .int .i64 r.s.w, .int .i64 r.s.l, .int .i64 r.s.n, .int .i64 r.pv.w, .int .i64 r.pv.l, .int .i64 r.pv.n, .bool r.cm, .int .i64 r.n, .float .f64 r.pt, (.slice A1 r.rd.length q1), (.slice A2 r.wr.length q2), (.slice A3 r.ps.length q3), (.slice A4 r.pr.length q4), .int .i64 r.st.r.id, .int .i64 r.st.r.ep, .float .f64 r.st.r.lo, .float .f64 r.st.r.hi, .int .i64 r.st.f.w, .int .i64 r.st.f.l, .int .i64 r.st.f.n, .int .i64 r.st.c.w, .int .i64 r.st.c.l, .int .i64 r.st.c.n, .slice C1 m1 d1, .slice C2 m2 d2]).heap.size = w5.heap.size := by rw [size_setRow, HSZ.out]
    have hk7 : ∀ j, w.heap.size + 1 + 1 + 1 ≤ j → (W6.setRow (w.heap.size + 1) #[.int .i64 r.k, .int .i64 r.t.c, .int .i64 r.t.l, .int .i64 r.t.s, .int .i64 r.s.w, .int .i64 r.s.l, .int .i64 r.s.n, .int .i64 r.pv.w, .int .i64 r.pv.l, .int .i64 r.pv.n, .bool r.cm, .int .i64 r.n, .float .f64 r.pt, (.slice A1 r.rd.length q1), (.slice A2 r.wr.length q2), (.slice A3 r.ps.length q3), (.slice A4 r.pr.length q4), .int .i64 r.st.r.id, .int .i64 r.st.r.ep, .float .f64 r.st.r.lo, .float .f64 r.st.r.hi, .int .i64 r.st.f.w, .int .i64 r.st.f.l, .int .i64 r.st.f.n, .int .i64 r.st.c.w, .int .i64 r.st.c.l, .int .i64 r.st.c.n, .slice C1 m1 d1, .slice C2 m2 d2]).heap[j]? = w5.heap[j]? := fun j hj => (setRow_other _ _ _ _ (by omega)).trans (HF7.out j hj)
    have hb8 : Below w.heap.size w (W6.setRow (w.heap.size + 1) #[.int .i64 r.k, .int .i64 r.t.c, .int .i64 r.t.l, .int .i64 r.t.s, .int .i64 r.s.w, .int .i64 r.s.l, .int .i64 r.s.n, .int .i64 r.pv.w, .int .i64 r.pv.l, .int .i64 r.pv.n, .bool r.cm, .int .i64 r.n, .float .f64 r.pt, (.slice A1 r.rd.length q1), (.slice A2 r.wr.length q2), (.slice A3 r.ps.length q3), (.slice A4 r.pr.length q4), .int .i64 r.st.r.id, .int .i64 r.st.r.ep, .float .f64 r.st.r.lo, .float .f64 r.st.r.hi, .int .i64 r.st.f.w, .int .i64 r.st.f.l, .int .i64 r.st.f.n, .int .i64 r.st.c.w, .int .i64 r.st.c.l, .int .i64 r.st.c.n, .slice C1 m1 d1, .slice C2 m2 d2]) := below_setRow hb7 (by omega) _
    generalize (W6.setRow (w.heap.size + 1) #[.int .i64 r.k, .int .i64 r.t.c, .int .i64 r.t.l, .int .i64 r.t.s, .int .i64 r.s.w, .int .i64 r.s.l, .int .i64 r.s.n, .int .i64 r.pv.w, .int .i64 r.pv.l, .int .i64 r.pv.n, .bool r.cm, .int .i64 r.n, .float .f64 r.pt, (.slice A1 r.rd.length q1), (.slice A2 r.wr.length q2), (.slice A3 r.ps.length q3), (.slice A4 r.pr.length q4), .int .i64 r.st.r.id, .int .i64 r.st.r.ep, .float .f64 r.st.r.lo, .float .f64 r.st.r.hi, .int .i64 r.st.f.w, .int .i64 r.st.f.l, .int .i64 r.st.f.n, .int .i64 r.st.c.w, .int .i64 r.st.c.l, .int .i64 r.st.c.n, .slice C1 m1 d1, .slice C2 m2 d2]) = W7 at *
    have hzy := HZY.out
    have hzw : wr.heap.size ≤ w5.heap.size := hb5.size
    have hs4' := hs4
    have O1 := (keepR (w' := W7) ((keepR (w' := wr) o1 (fun j hj hj2 => HSM.out j (by have h0 := hj; simp at h0; omega) hj2)).below hb5) (fun j hj _ => hk7 j (by have h0 := hj; simp at h0; omega)))
    have e1 := O1.sl (ok := fun k : ByteArray => k.size ≤ 140737488351232) (Nat.succ_pos 0) (fun a => rfl) (fun a ha => by obtain ⟨_, _, hok⟩ := i.rd.mem ha; exact hok)
    have hB2 : w.heap.size + 1 + 1 + 1 ≤ (w1.setCell ⟨w.heap.size + 1 + 1, 13, none⟩ (.slice A1 r.rd.length q1)).heap.size := by have := HS2.out; omega
    have O2 := (keepR (w' := W7) ((keepR (w' := wr) o2 (fun j hj hj2 => HSM.out j (by have h0 := hj; simp at h0; have h1 := HS2.out; simp at h1; omega) hj2)).below hb5) (fun j hj _ => hk7 j (by have h0 := hj; simp at h0; have h1 := HS2.out; simp at h1; omega)))
    have e2 := O2.sl (ok := Wt.ok) (Nat.succ_pos 3) (fun a => rfl) (fun a ha => by obtain ⟨_, _, hok⟩ := i.wr.mem ha; exact hok)
    have hB3 : w.heap.size + 1 + 1 + 1 ≤ (w2.setCell ⟨w.heap.size + 1 + 1, 14, none⟩ (.slice A2 r.wr.length q2)).heap.size := by have := HS3.out; omega
    have O3 := (keepR (w' := W7) ((keepR (w' := wr) o3 (fun j hj hj2 => HSM.out j (by have h0 := hj; simp at h0; have h1 := HS3.out; simp at h1; omega) hj2)).below hb5) (fun j hj _ => hk7 j (by have h0 := hj; simp at h0; have h1 := HS3.out; simp at h1; omega)))
    have e3 := O3.sl (ok := i64ok) (Nat.succ_pos 0) (fun a => rfl) (fun a ha => by obtain ⟨_, _, hok⟩ := i.ps.mem ha; exact hok)
    have O4 := (keepR (w' := W7) x4 (fun j hj _ => hk7 j (by omega)))
    have e4 := O4.sl (ok := Wt.ok) (Nat.succ_pos 3) (fun a => rfl) (fun a ha => by obtain ⟨_, _, hok⟩ := i.pr.mem ha; exact hok)
    have hr5 : HdRel HsRel 2 (only (rng wr.heap.size w5.heap.size) w5) w5.heap.size (.slice C1 m1 d1) r.st.h := ⟨C1, m1, d1, rfl, p1, p2, p3⟩
    have hr6 : HdRel PnRel 8 (only (rng wr.heap.size w5.heap.size) w5) w5.heap.size (.slice C2 m2 d2) r.st.p := ⟨C2, m2, d2, rfl, p4, p5, p6⟩
    have e5 := (hr5.stay (w' := W7) HsRel.kept (fun j hj => hk7 j (by rw [rng_iff] at hj; omega))).out HsRel.kept HsRel.mono (by omega)
    have e6 := (hr6.stay (w' := W7) PnRel.kept (fun j hj => hk7 j (by rw [rng_iff] at hj; omega))).out PnRel.kept PnRel.mono (by omega)
    have L4 := Lib.hid (fun k hk => ho.lt k hk)
    have hz12 : w1.heap.size ≤ w2.heap.size := by have := HZ2.out; simp at this; exact this
    have hz23 : w2.heap.size ≤ w3.heap.size := by have := HZ3.out; simp at this; exact this
    have hz3r : w3.heap.size ≤ wr.heap.size := by simpa using hszw
    have M1 : ∀ k, (.slice A1 r.rd.length q1 : Value).ownBlock = some k → k < w1.heap.size := fun k hk => (L1.out k hk).2
    have M2 : ∀ k, (.slice A2 r.wr.length q2 : Value).ownBlock = some k → w1.heap.size ≤ k ∧ k < w2.heap.size := fun k hk => ⟨by have := (L2.out k hk).1; simp at this; exact this, (L2.out k hk).2⟩
    have M3 : ∀ k, (.slice A3 r.ps.length q3 : Value).ownBlock = some k → w2.heap.size ≤ k ∧ k < w3.heap.size := fun k hk => ⟨by have := (L3.out k hk).1; simp at this; exact this, (L3.out k hk).2⟩
    have M4 : ∀ k, (.slice A4 r.pr.length q4 : Value).ownBlock = some k → w3.heap.size ≤ k ∧ k < wr.heap.size := fun k hk => ⟨by have := (L4.out k hk).1; simp at this; exact this, (L4.out k hk).2⟩
    have K12 := hz12
    have hst : ∀ (v : Value) (w'' : World), (∀ k, v.ownBlock = some k → k < wr.heap.size) → W7.grownBy w'' v.ownBlock → Sl HsRel 2 w'' w''.heap.size C1 m1 r.st.h ∧ Sl PnRel 8 w'' w''.heap.size C2 m2 r.st.p := by
        intro v w'' hv hg
        have hk : ∀ k, rng wr.heap.size w5.heap.size k = true → w''.heap[k]? = w5.heap[k]? := fun k hk => by
         rw [rng_iff] at hk
         exact (hg.block k (by omega) (fun e => by have := hv k e.symm; omega)).trans (hk7 k (by omega))
        have g5 := (hr5.stay (w' := w'') HsRel.kept hk).out HsRel.kept HsRel.mono (by have := hg.size; omega)
        have g6 := (hr6.stay (w' := w'') PnRel.kept hk).out PnRel.kept PnRel.mono (by have := hg.size; omega)
        exact ⟨g5.hd.1, g6.hd.1⟩
    have kA : ∀ (w'' : World) (v : Value), W7.grownBy w'' v.ownBlock → (∀ k, v.ownBlock = some k → (.slice A1 r.rd.length q1 : Value).ownBlock ≠ some k) → Sl KyRel 1 w'' w''.heap.size A1 r.rd.length r.rd := fun w'' v hg hn => (OwnL.sl (ok := fun k : ByteArray => k.size ≤ 140737488351232) (Nat.succ_pos 0) (fun a => rfl) (O1.beside hg (dis_of hn)) (fun a ha => by obtain ⟨_, _, hok⟩ := i.rd.mem ha; exact hok)).hd.1
    have kB : ∀ (w'' : World) (v : Value), W7.grownBy w'' v.ownBlock → (∀ k, v.ownBlock = some k → (.slice A2 r.wr.length q2 : Value).ownBlock ≠ some k) → Sl WtRel 4 w'' w''.heap.size A2 r.wr.length r.wr := fun w'' v hg hn => (OwnL.sl (ok := Wt.ok) (Nat.succ_pos 3) (fun a => rfl) (O2.beside hg (dis_of hn)) (fun a ha => by obtain ⟨_, _, hok⟩ := i.wr.mem ha; exact hok)).hd.1
    have kC : ∀ (w'' : World) (v : Value), W7.grownBy w'' v.ownBlock → (∀ k, v.ownBlock = some k → (.slice A3 r.ps.length q3 : Value).ownBlock ≠ some k) → Sl NmRel 1 w'' w''.heap.size A3 r.ps.length r.ps := fun w'' v hg hn => (OwnL.sl (ok := i64ok) (Nat.succ_pos 0) (fun a => rfl) (O3.beside hg (dis_of hn)) (fun a ha => by obtain ⟨_, _, hok⟩ := i.ps.mem ha; exact hok)).hd.1
    have kD : ∀ (w'' : World) (v : Value), W7.grownBy w'' v.ownBlock → (∀ k, v.ownBlock = some k → (.slice A4 r.pr.length q4 : Value).ownBlock ≠ some k) → Sl WtRel 4 w'' w''.heap.size A4 r.pr.length r.pr := fun w'' v hg hn => (OwnL.sl (ok := Wt.ok) (Nat.succ_pos 3) (fun a => rfl) (O4.beside hg (dis_of hn)) (fun a ha => by obtain ⟨_, _, hok⟩ := i.pr.mem ha; exact hok)).hd.1
    have b1 := Nat.le_trans hq1 hm1
    have b2 := Nat.le_trans hq2 hm2
    have b3 := Nat.le_trans hq3 hm3
    have b4 := Nat.le_trans e4.hd.2.1 e4.hd.2.2
    have b5 := Nat.le_trans p1 p2
    have b6 := Nat.le_trans p4 p5
    have b0 : (0 : Nat) ≤ maxLen := Nat.zero_le _
    refine ⟨⟨⟨A1, r.rd.length, q1⟩, ⟨A2, r.wr.length, q2⟩, ⟨A3, r.ps.length, q3⟩, ⟨A4, r.pr.length, q4⟩, ⟨C1, m1, d1⟩, ⟨C2, m2, d2⟩⟩, rfl, ⟨⟨hq1, hm1⟩, ⟨hq2, hm2⟩, ⟨hq3, hm3⟩, ⟨e4.hd.2.1, e4.hd.2.2⟩, ⟨p1, p2⟩, ⟨p4, p5⟩⟩,
        ⟨e1.hd.1, e2.hd.1, e3.hd.1, e4.hd.1, e5.hd.1, e6.hd.1, b1, b2, b3, b4, b5, b6⟩, hb8, owns_down O1 (by simp; omega), owns_down O2 (by have h1 := HS2.out; simp at h1 ⊢; omega), owns_down O3 (by have h1 := HS3.out; simp at h1 ⊢; omega), owns_down O4 (by have h1 := hs4; simp at h1 ⊢; omega), ?_, ?_, ?_, ?_⟩
    · intro w'' hg
      have hs := hst (.slice A1 r.rd.length q1) w'' (fun k hk => by have := M1 k hk; omega) hg
      exact ⟨Sl.nil, kB w'' _ hg (fun k hk e => by have := M1 k hk; have := M2 k e; omega), kC w'' _ hg (fun k hk e => by have := M1 k hk; have := M3 k e; omega), kD w'' _ hg (fun k hk e => by have := M1 k hk; have := M4 k e; omega), hs.1, hs.2, b0, b2, b3, b4, b5, b6⟩
    · intro w'' hg
      have hs := hst (.slice A2 r.wr.length q2) w'' (fun k hk => by have := M2 k hk; omega) hg
      exact ⟨kA w'' _ hg (fun k hk e => by have := M2 k hk; have := M1 k e; omega), Sl.nil, kC w'' _ hg (fun k hk e => by have := M2 k hk; have := M3 k e; omega), kD w'' _ hg (fun k hk e => by have := M2 k hk; have := M4 k e; omega), hs.1, hs.2, b1, b0, b3, b4, b5, b6⟩
    · intro w'' hg
      have hs := hst (.slice A3 r.ps.length q3) w'' (fun k hk => by have := M3 k hk; omega) hg
      exact ⟨kA w'' _ hg (fun k hk e => by have := M3 k hk; have := M1 k e; omega), kB w'' _ hg (fun k hk e => by have := M3 k hk; have := M2 k e; omega), Sl.nil, kD w'' _ hg (fun k hk e => by have := M3 k hk; have := M4 k e; omega), hs.1, hs.2, b1, b2, b0, b4, b5, b6⟩
    · intro w'' hg
      have hs := hst (.slice A4 r.pr.length q4) w'' (fun k hk => by have := M4 k hk; omega) hg
      exact ⟨kA w'' _ hg (fun k hk e => by have := M4 k hk; have := M1 k e; omega), kB w'' _ hg (fun k hk e => by have := M4 k hk; have := M2 k e; omega), kC w'' _ hg (fun k hk e => by have := M4 k hk; have := M3 k e; omega), Sl.nil, hs.1, hs.2, b1, b2, b3, b0, b5, b6⟩
end Go.Proofs.YthdmanadhbpogaaGreat
