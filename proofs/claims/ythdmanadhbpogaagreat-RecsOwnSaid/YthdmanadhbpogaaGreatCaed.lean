/- The walk of RecsOwn: words; a field turned. -/
import Derived.Test.YthdmanadhbpogaaGreatCadi
import Derived.Test.YthdmanadhbpogaaGreatCaeb
import Derived.Test.YthdmanadhbpogaaGreatCaec
namespace Go.Proofs.YthdmanadhbpogaaGreat
set_option maxHeartbeats 8000000
set_option maxRecDepth 100000
set_option linter.unusedVariables false
open Go.RowKit Fl
attribute [local go_sem] run_store_float
theorem encode_bad (r : Rc) (h : Hds) (w : World) (ok : r.ok) (i : RcIn w r h) (sm : RcSm r h) (hm : recMay r = 4) :
 Calls Tryz.prog 19 #[.agg (r.vals h)] w (RowE w [] 4) := by
 have hM := fun w' (hb : Below w.heap.size w w') => recMay_any r h w' ok (i.below hb) sm
 have hX : Below w.heap.size w (w.alloc (.cells (r.vals h) 38)) := by go_grown
 have B0 : Blk (w.alloc (.cells (r.vals h) 38)) w.heap.size 38 (r.vals h) := Blk.new _ _ _
 rw [hm] at hM
 clear hm
 go_enter Tryz.func19, Tryz.ntmps19
 go_wp2_with (first
  | (refine wpList_load_row rfl 38 _ rfl w.heap.size rfl _ _ (0, 0) _ B0 rfl rfl (by kernel_rfl) ?_)
  | ((with_reducible refine (hM _ hX).mono ?_); rintro e w1 ⟨rfl, hb1⟩))
 go_ret2
 exact RowE.nil 4 (hX.trans (hb1.mono hX.size))
theorem m1_ok : i64ok (-1) := by unfold i64ok; omega
theorem grown_of {w W : World} {v : Value} {B : Nat} (hB : B = w.heap.size) (hb : Below B w W) {W' : World} (hg : W.grownBy W' v.ownBlock) {p : Addr} (hp : B ≤ p.block) (u : Value) : w.grownBy (W'.setCell p u) v.ownBlock := by
 subst hB
 refine ⟨hg.os.trans hb.os, hg.tape.trans hb.tape, hg.output.trans hb.output, by have := hg.size; have := hb.size; simp; omega, fun k hk hne => ?_⟩
 exact (Below.heap_setCell _ _ _ _ (by omega)).trans ((hg.block k (by have := hb.size; omega) hne).trans (hb.block k hk))
theorem far_set {α : Type} {f : α → List Value} {E size base : Nat} {w : World} {v : Value} {l : List α} (h : OwnL f E size base w v l) {b i : Nat} (hn : v.ownBlock ≠ some b) (u : Value) : OwnL f E size base (w.setCell ⟨b, i, none⟩ u) v l :=
 OwnL.beside (v := .slice (some ⟨b, 0, none⟩) 0 0) h (grown_set w b i u) (fun k hk e => by
  have e2 : b = k := by simpa [Value.ownBlock] using hk
  rw [← e2] at e; exact hn e)
theorem rec_lens {w : World} {r : Rc} {h : Hds} (i : RcIn w r h) (hw : weighRec 20000 r ≤ 20000) : h.a.n ≤ 20000 ∧ h.b.n ≤ 20000 ∧ h.c.n ≤ 20000 ∧ h.d.n ≤ 20000 := by
 obtain ⟨hg, hS⟩ := weighRec_gain (by omega) r hw
 have k1 := sum_nn wtH wtH_nn r.st.h
 have k2 := sum_nn wtP wtP_nn r.st.p
 have k3 := sum_nn wtT wtT_nn r.rd
 have k4 := sum_nn wtW wtW_nn r.wr
 have k5 := sum_nn wtW wtW_nn r.pr
 have l3 := len_sum wtT (fun a => by unfold wtT; omega) r.rd
 have l4 := len_sum wtW (fun a => by unfold wtW; omega) r.wr
 have l5 := len_sum wtW (fun a => by unfold wtW; omega) r.pr
 exact ⟨by rw [← i.rd.1]; omega, by rw [← i.wr.1]; omega, by rw [← i.ps.1]; omega, by rw [← i.pr.1]; omega⟩
theorem turn_0 (r : Rc) (h : Hds) (m : Int) (w : World) (ok : r.ok) (i : RcIn w r h) (cp : h.caps) (hw : weighRec 20000 r ≤ 20000) (hm : recMay r = 0) (hq : m.tmod 11 = 0 ∨ m.tmod 11 = -0) :
 Calls Tryz.prog 7 #[.agg (r.vals h), .int .i64 m] w fun e w' => e = .returned (.bool true) ∧ Below w.heap.size w w' := by
 have hX : Below w.heap.size w (w.alloc (.cells (r.vals h) 38)) := by go_grown
 have B0 : Blk (w.alloc (.cells (r.vals h) 38)) w.heap.size 38 (r.vals h) := Blk.new _ _ _
 obtain ⟨sm, hlen⟩ := rec_small ok i hw
 have hln := rec_lens i hw
 have hk : kindB r.k = true := by
  cases hq : kindB r.k
  · unfold recMay at hm; rw [hq] at hm; cases hm
  · rfl
 have hbad := own_bad 0 r hk
 have hF := few_any r h
 have hM := fun w' hi => recMay_any r h w' ok hi sm
 rw [decide_eq_true hw] at hF
 rw [hm] at hM
 have okB : (badR 0 r).ok := ⟨ok.k, ⟨ok.t.1, ok.t.2.1, m1_ok⟩, ok.s, ok.pv, ok.n, ok.pt, ok.rg, ok.fl, ok.cl⟩
 clear hw hm hk
 rcases hq with hq | hq
 all_goals
  go_enter Tryz.func7, Tryz.ntmps7
  go_wp2_with fail
  refine (first_any _).mono ?_
  rintro e w1 ⟨rfl, hb1⟩
  have B1 := B0.below hb1 B0.lt
  have hX1 := hX.trans (hb1.mono hX.size)
  clear B0 hb1 hX
  go_wp2_with (guard_target =~ wpList _ _ _ _ _ _; refine wpList_load_row rfl 38 (.tmp 2) rfl w.heap.size (by kernel_rfl) _ _ (0, 0) _ B1 rfl rfl (by kernel_rfl) ?_)
  refine (hF w1 (i.below hX1)).mono ?_
  rintro e w2 ⟨rfl, hb2⟩
  have B2 := B1.below hb2 B1.lt
  have hX2 := hX1.trans (hb2.mono hX1.size)
  clear B1 hb2 hX1 hF
  go_wp2_with (guard_target =~ wpList _ _ _ _ _ _; refine wpList_load_row_g (by kernel_rfl) 38 (.tmp 2) rfl w.heap.size (by kernel_rfl) _ _ (0, 0) _ B2 rfl rfl (by kernel_rfl) ?_)
  refine (hM w2 (i.below hX2)).mono ?_
  rintro e w3 ⟨rfl, hb3⟩
  have B3 := B2.below hb3 B2.lt
  have hX3 := hX2.trans (hb3.mono hX2.size)
  clear B2 hb3 hX2 hM
  go_wp2_with (guard_target =~ wpList _ _ _ _ _ _; refine wpList_load_row rfl 38 (.tmp 2) rfl w.heap.size (by kernel_rfl) _ _ (0, 0) _ B3 rfl rfl (by kernel_rfl) ?_)
  refine (copyRecO_any r h w3 (i.below hX3) sm).mono ?_
  rintro e w4 ⟨g, rfl, cg, ig, hb4, oa, ob, oc, od, ra, rb, rc, rd⟩
  have B4 := B3.below hb4 B3.lt
  have hX4 := hX3.trans (hb4.mono hX3.size)
  have hbx : w3.heap.size ≤ w4.heap.size := hb4.size
  have ea : g.a.n = h.a.n := by rw [← ig.rd.1]; exact i.rd.1
  have eb : g.b.n = h.b.n := by rw [← ig.wr.1]; exact i.wr.1
  have ec : g.c.n = h.c.n := by rw [← ig.ps.1]; exact i.ps.1
  have ed : g.d.n = h.d.n := by rw [← ig.pr.1]; exact i.pr.1
  have HE := Lib.hid ea
  have HEb := Lib.hid eb
  have HEc := Lib.hid ec
  have HEd := Lib.hid ed
  clear B3 hb4 hX3 ea eb ec ed
  go_wp2_with (first
   | (guard_target =~ wpList _ _ _ _ _ _; refine wpList_store_at rfl 38 _ _ rfl w4.heap.size (r.vals g) (by kernel_rfl) (by kernel_rfl) rfl _ _ (by kernel_rfl) (by kernel_rfl) (by kernel_rfl) ?_
      have hA5 : Below w4.heap.size w4 (w4.alloc (.cells (r.vals g) 38)) := by go_grown
      have B5 : Blk (w4.alloc (.cells (r.vals g) 38)) w.heap.size 38 (r.vals h) := B4.alloc _
      have C5 : Blk (w4.alloc (.cells (r.vals g) 38)) w4.heap.size 38 (r.vals g) := Blk.new _ _ _
      obtain ⟨w5, hw5⟩ : ∃ w5 : World, w5 = w4.alloc (.cells (r.vals g) 38) := ⟨_, rfl⟩
      have hz5 : w5.heap.size = w4.heap.size + 1 := by rw [hw5]; simp
      rw [← hw5] at hA5 B5 C5 ⊢
      have hX5 := hX4.trans (hA5.mono hX4.size)
      have hl5 := C5.lt
      have hbl : w.heap.size < w4.heap.size := B4.lt
      have HZ5 := Lib.hid hz5
      clear hw5 B4 hz5
      have z5 : w5.cell? ⟨w4.heap.size, 3, none⟩ = some (.int .i64 r.t.s) := C5.cell 3
      have f5 : w5.frozen? ⟨w4.heap.size, 3, none⟩ = false := C5.frozen 3
      have C6 : Blk (w5.setCell ⟨w4.heap.size, 3, none⟩ (.int .i64 (-1))) w4.heap.size 38 ((badR 0 r).vals g) := C5.set_ 3 (.int .i64 (-1))
      have B6 : Blk (w5.setCell ⟨w4.heap.size, 3, none⟩ (.int .i64 (-1))) w.heap.size 38 (r.vals h) := B5.far (p := ⟨w4.heap.size, 3, none⟩) (by simp only; omega) _
      have hX6 : Below w.heap.size w (w5.setCell ⟨w4.heap.size, 3, none⟩ (.int .i64 (-1))) := hX5.setCell (p := ⟨w4.heap.size, 3, none⟩) (by simp only; omega) _
      have ig6 := ig.below (hA5.setCell (p := ⟨w4.heap.size, 3, none⟩) (Nat.le_refl _) (.int .i64 (-1)))
      have I6 : RcIn (w5.setCell ⟨w4.heap.size, 3, none⟩ (.int .i64 (-1))) (badR 0 r) g := ⟨ig6.rd, ig6.wr, ig6.ps, ig6.pr, ig6.hs, ig6.pn, ig6.na, ig6.nb, ig6.nc, ig6.nd, ig6.ne, ig6.nf⟩
      clear B5 C5 hX5 hA5 ig6)
   | (guard_target =~ wpList _ _ _ _ _ _; refine wpList_load_row rfl 38 (.tmp 5) rfl w4.heap.size (by kernel_rfl) _ _ (0, 0) _ C6 rfl rfl (by kernel_rfl) ?_))
  have smB : RcSm (badR 0 r) g := ⟨by have := HE.out; omega, by have := HEb.out; omega, by have := HEc.out; omega, by have := HEd.out; omega, sm.h, sm.p⟩
  refine (encode_bad (badR 0 r) g _ okB I6 smB hbad).mono ?_
  rintro e w7 ⟨A7, c7, rfl, q7, m7, o7, hb7⟩
  have B7 := B6.below hb7 B6.lt
  have C7 := C6.below hb7 C6.lt
  have hX7 := hX6.trans (hb7.mono hX6.size)
  have I7 := I6.below hb7
  clear B6 C6 hX6 hb7 I6 o7
  go_wp2_with (guard_target =~ wpList _ _ _ _ _ _; refine wpList_load_row rfl 38 (.tmp 2) rfl w.heap.size (by kernel_rfl) _ _ (0, 0) _ B7 rfl rfl (by kernel_rfl) ?_)
  refine (encode_any r h _ ok (i.below hX7) cp sm (by omega)).mono ?_
  rintro e w8 ⟨A8, c8, rfl, q8, m8, o8, hb8⟩
  have B8 := B7.below hb8 B7.lt
  have C8 := C7.below hb8 C7.lt
  have hX8 := hX7.trans (hb8.mono hX7.size)
  have I8 := I7.below hb8
  have R8 : Reads w8 w8.heap.size 1 A8 (encOut r).length (bytesV (encOut r)) := Reads.of_own o8
  clear B7 C7 hX7 hb8 I7 o8
  go_wp2_with (guard_target =~ wpList _ _ _ _ _ _; refine wpList_load_row rfl 38 (.tmp 2) rfl w.heap.size (by kernel_rfl) _ _ (0, 0) _ B8 rfl rfl (by kernel_rfl) ?_)
  refine (xEncode r h _ ok (i.below hX8) sm (by omega)).mono ?_
  rintro e w9 ⟨A9, c9, rfl, q9, m9, o9, hb9⟩
  have C9 := C8.below hb9 C8.lt
  have hX9 := hX8.trans (hb9.mono hX8.size)
  have I9 := I8.below hb9
  have R9 := (R8.below hb9).more hb9.size
  have S9 : Reads w9 w9.heap.size 1 A9 (encOut r).length (bytesV (encOut r)) := Reads.of_own o9
  clear B8 C8 hX8 hb9 I8 o9 R8
  go_wp2_with fail
  refine (first_any _).mono ?_
  rintro e x1 ⟨rfl, hc1⟩
  have C10 := C9.below hc1 C9.lt
  have hX10 := hX9.trans (hc1.mono hX9.size)
  have I10 := I9.below hc1
  have R10 := (R9.below hc1).more hc1.size
  have S10 := (S9.below hc1).more hc1.size
  clear C9 hX9 hc1 I9 R9 S9
  have hMB := recMay_any (badR 0 r) g x1 okB I10 smB
  rw [hbad] at hMB
  go_wp2_with (guard_target =~ wpList _ _ _ _ _ _; refine wpList_load_row_g (by kernel_rfl) 38 (.tmp 5) rfl w4.heap.size (by kernel_rfl) _ _ (0, 0) _ C10 rfl rfl (by kernel_rfl) ?_)
  refine hMB.mono ?_
  rintro e x2 ⟨rfl, hc2⟩
  have hX11 := hX10.trans (hc2.mono hX10.size)
  have R11 := (R10.below hc2).more hc2.size
  have S11 := (S10.below hc2).more hc2.size
  clear hMB hX10 hc2 R10 S10 C10 I10
  have hee : (encE r == encE r) = true := by simp
  have hEq := sbytes x2 (c := c8) (c' := c9) R11 S11
  rw [show (encOut r == encOut r) = true from by simp] at hEq
  go_wp2_with fail
  refine hEq.mono ?_
  rintro e x3 ⟨rfl, rfl⟩
  go_wp2
  go_ret
  exact ⟨rfl, hX11⟩
theorem turn_1 (r : Rc) (h : Hds) (m : Int) (w : World) (ok : r.ok) (i : RcIn w r h) (cp : h.caps) (hw : weighRec 20000 r ≤ 20000) (hm : recMay r = 0) (hq : m.tmod 11 = 1 ∨ m.tmod 11 = -1) :
 Calls Tryz.prog 7 #[.agg (r.vals h), .int .i64 m] w fun e w' => e = .returned (.bool true) ∧ Below w.heap.size w w' := by
 have hX : Below w.heap.size w (w.alloc (.cells (r.vals h) 38)) := by go_grown
 have B0 : Blk (w.alloc (.cells (r.vals h) 38)) w.heap.size 38 (r.vals h) := Blk.new _ _ _
 obtain ⟨sm, hlen⟩ := rec_small ok i hw
 have hln := rec_lens i hw
 have hk : kindB r.k = true := by
  cases hq : kindB r.k
  · unfold recMay at hm; rw [hq] at hm; cases hm
  · rfl
 have hbad := own_bad 1 r hk
 have hF := few_any r h
 have hM := fun w' hi => recMay_any r h w' ok hi sm
 rw [decide_eq_true hw] at hF
 rw [hm] at hM
 have okB : (badR 1 r).ok := ⟨ok.k, ok.t, ⟨ok.s.1, ok.s.2.1, m1_ok⟩, ok.pv, ok.n, ok.pt, ok.rg, ok.fl, ok.cl⟩
 clear hw hm hk
 rcases hq with hq | hq
 all_goals
  go_enter Tryz.func7, Tryz.ntmps7
  go_wp2_with fail
  refine (first_any _).mono ?_
  rintro e w1 ⟨rfl, hb1⟩
  have B1 := B0.below hb1 B0.lt
  have hX1 := hX.trans (hb1.mono hX.size)
  clear B0 hb1 hX
  go_wp2_with (guard_target =~ wpList _ _ _ _ _ _; refine wpList_load_row rfl 38 (.tmp 2) rfl w.heap.size (by kernel_rfl) _ _ (0, 0) _ B1 rfl rfl (by kernel_rfl) ?_)
  refine (hF w1 (i.below hX1)).mono ?_
  rintro e w2 ⟨rfl, hb2⟩
  have B2 := B1.below hb2 B1.lt
  have hX2 := hX1.trans (hb2.mono hX1.size)
  clear B1 hb2 hX1 hF
  go_wp2_with (guard_target =~ wpList _ _ _ _ _ _; refine wpList_load_row_g (by kernel_rfl) 38 (.tmp 2) rfl w.heap.size (by kernel_rfl) _ _ (0, 0) _ B2 rfl rfl (by kernel_rfl) ?_)
  refine (hM w2 (i.below hX2)).mono ?_
  rintro e w3 ⟨rfl, hb3⟩
  have B3 := B2.below hb3 B2.lt
  have hX3 := hX2.trans (hb3.mono hX2.size)
  clear B2 hb3 hX2 hM
  go_wp2_with (guard_target =~ wpList _ _ _ _ _ _; refine wpList_load_row rfl 38 (.tmp 2) rfl w.heap.size (by kernel_rfl) _ _ (0, 0) _ B3 rfl rfl (by kernel_rfl) ?_)
  refine (copyRecO_any r h w3 (i.below hX3) sm).mono ?_
  rintro e w4 ⟨g, rfl, cg, ig, hb4, oa, ob, oc, od, ra, rb, rc, rd⟩
  have B4 := B3.below hb4 B3.lt
  have hX4 := hX3.trans (hb4.mono hX3.size)
  have hbx : w3.heap.size ≤ w4.heap.size := hb4.size
  have ea : g.a.n = h.a.n := by rw [← ig.rd.1]; exact i.rd.1
  have eb : g.b.n = h.b.n := by rw [← ig.wr.1]; exact i.wr.1
  have ec : g.c.n = h.c.n := by rw [← ig.ps.1]; exact i.ps.1
  have ed : g.d.n = h.d.n := by rw [← ig.pr.1]; exact i.pr.1
  have HE := Lib.hid ea
  have HEb := Lib.hid eb
  have HEc := Lib.hid ec
  have HEd := Lib.hid ed
  clear B3 hb4 hX3 ea eb ec ed
  go_wp2_with (first
   | (guard_target =~ wpList _ _ _ _ _ _; refine wpList_store_at rfl 38 _ _ rfl w4.heap.size (r.vals g) (by kernel_rfl) (by kernel_rfl) rfl _ _ (by kernel_rfl) (by kernel_rfl) (by kernel_rfl) ?_
      have hA5 : Below w4.heap.size w4 (w4.alloc (.cells (r.vals g) 38)) := by go_grown
      have B5 : Blk (w4.alloc (.cells (r.vals g) 38)) w.heap.size 38 (r.vals h) := B4.alloc _
      have C5 : Blk (w4.alloc (.cells (r.vals g) 38)) w4.heap.size 38 (r.vals g) := Blk.new _ _ _
      obtain ⟨w5, hw5⟩ : ∃ w5 : World, w5 = w4.alloc (.cells (r.vals g) 38) := ⟨_, rfl⟩
      have hz5 : w5.heap.size = w4.heap.size + 1 := by rw [hw5]; simp
      rw [← hw5] at hA5 B5 C5 ⊢
      have hX5 := hX4.trans (hA5.mono hX4.size)
      have hl5 := C5.lt
      have hbl : w.heap.size < w4.heap.size := B4.lt
      have HZ5 := Lib.hid hz5
      clear hw5 B4 hz5
      have z5 : w5.cell? ⟨w4.heap.size, 6, none⟩ = some (.int .i64 r.s.n) := C5.cell 6
      have f5 : w5.frozen? ⟨w4.heap.size, 6, none⟩ = false := C5.frozen 6
      have C6 : Blk (w5.setCell ⟨w4.heap.size, 6, none⟩ (.int .i64 (-1))) w4.heap.size 38 ((badR 1 r).vals g) := C5.set_ 6 (.int .i64 (-1))
      have B6 : Blk (w5.setCell ⟨w4.heap.size, 6, none⟩ (.int .i64 (-1))) w.heap.size 38 (r.vals h) := B5.far (p := ⟨w4.heap.size, 6, none⟩) (by simp only; omega) _
      have hX6 : Below w.heap.size w (w5.setCell ⟨w4.heap.size, 6, none⟩ (.int .i64 (-1))) := hX5.setCell (p := ⟨w4.heap.size, 6, none⟩) (by simp only; omega) _
      have ig6 := ig.below (hA5.setCell (p := ⟨w4.heap.size, 6, none⟩) (Nat.le_refl _) (.int .i64 (-1)))
      have I6 : RcIn (w5.setCell ⟨w4.heap.size, 6, none⟩ (.int .i64 (-1))) (badR 1 r) g := ⟨ig6.rd, ig6.wr, ig6.ps, ig6.pr, ig6.hs, ig6.pn, ig6.na, ig6.nb, ig6.nc, ig6.nd, ig6.ne, ig6.nf⟩
      clear B5 C5 hX5 hA5 ig6)
   | (guard_target =~ wpList _ _ _ _ _ _; refine wpList_load_row rfl 38 (.tmp 5) rfl w4.heap.size (by kernel_rfl) _ _ (0, 0) _ C6 rfl rfl (by kernel_rfl) ?_))
  have smB : RcSm (badR 1 r) g := ⟨by have := HE.out; omega, by have := HEb.out; omega, by have := HEc.out; omega, by have := HEd.out; omega, sm.h, sm.p⟩
  refine (encode_bad (badR 1 r) g _ okB I6 smB hbad).mono ?_
  rintro e w7 ⟨A7, c7, rfl, q7, m7, o7, hb7⟩
  have B7 := B6.below hb7 B6.lt
  have C7 := C6.below hb7 C6.lt
  have hX7 := hX6.trans (hb7.mono hX6.size)
  have I7 := I6.below hb7
  clear B6 C6 hX6 hb7 I6 o7
  go_wp2_with (guard_target =~ wpList _ _ _ _ _ _; refine wpList_load_row rfl 38 (.tmp 2) rfl w.heap.size (by kernel_rfl) _ _ (0, 0) _ B7 rfl rfl (by kernel_rfl) ?_)
  refine (encode_any r h _ ok (i.below hX7) cp sm (by omega)).mono ?_
  rintro e w8 ⟨A8, c8, rfl, q8, m8, o8, hb8⟩
  have B8 := B7.below hb8 B7.lt
  have C8 := C7.below hb8 C7.lt
  have hX8 := hX7.trans (hb8.mono hX7.size)
  have I8 := I7.below hb8
  have R8 : Reads w8 w8.heap.size 1 A8 (encOut r).length (bytesV (encOut r)) := Reads.of_own o8
  clear B7 C7 hX7 hb8 I7 o8
  go_wp2_with (guard_target =~ wpList _ _ _ _ _ _; refine wpList_load_row rfl 38 (.tmp 2) rfl w.heap.size (by kernel_rfl) _ _ (0, 0) _ B8 rfl rfl (by kernel_rfl) ?_)
  refine (xEncode r h _ ok (i.below hX8) sm (by omega)).mono ?_
  rintro e w9 ⟨A9, c9, rfl, q9, m9, o9, hb9⟩
  have C9 := C8.below hb9 C8.lt
  have hX9 := hX8.trans (hb9.mono hX8.size)
  have I9 := I8.below hb9
  have R9 := (R8.below hb9).more hb9.size
  have S9 : Reads w9 w9.heap.size 1 A9 (encOut r).length (bytesV (encOut r)) := Reads.of_own o9
  clear B8 C8 hX8 hb9 I8 o9 R8
  go_wp2_with fail
  refine (first_any _).mono ?_
  rintro e x1 ⟨rfl, hc1⟩
  have C10 := C9.below hc1 C9.lt
  have hX10 := hX9.trans (hc1.mono hX9.size)
  have I10 := I9.below hc1
  have R10 := (R9.below hc1).more hc1.size
  have S10 := (S9.below hc1).more hc1.size
  clear C9 hX9 hc1 I9 R9 S9
  have hMB := recMay_any (badR 1 r) g x1 okB I10 smB
  rw [hbad] at hMB
  go_wp2_with (guard_target =~ wpList _ _ _ _ _ _; refine wpList_load_row_g (by kernel_rfl) 38 (.tmp 5) rfl w4.heap.size (by kernel_rfl) _ _ (0, 0) _ C10 rfl rfl (by kernel_rfl) ?_)
  refine hMB.mono ?_
  rintro e x2 ⟨rfl, hc2⟩
  have hX11 := hX10.trans (hc2.mono hX10.size)
  have R11 := (R10.below hc2).more hc2.size
  have S11 := (S10.below hc2).more hc2.size
  clear hMB hX10 hc2 R10 S10 C10 I10
  have hee : (encE r == encE r) = true := by simp
  have hEq := sbytes x2 (c := c8) (c' := c9) R11 S11
  rw [show (encOut r == encOut r) = true from by simp] at hEq
  go_wp2_with fail
  refine hEq.mono ?_
  rintro e x3 ⟨rfl, rfl⟩
  go_wp2
  go_ret
  exact ⟨rfl, hX11⟩
theorem turn_2 (r : Rc) (h : Hds) (m : Int) (w : World) (ok : r.ok) (i : RcIn w r h) (cp : h.caps) (hw : weighRec 20000 r ≤ 20000) (hm : recMay r = 0) (hq : m.tmod 11 = 2 ∨ m.tmod 11 = -2) :
 Calls Tryz.prog 7 #[.agg (r.vals h), .int .i64 m] w fun e w' => e = .returned (.bool true) ∧ Below w.heap.size w w' := by
 have hX : Below w.heap.size w (w.alloc (.cells (r.vals h) 38)) := by go_grown
 have B0 : Blk (w.alloc (.cells (r.vals h) 38)) w.heap.size 38 (r.vals h) := Blk.new _ _ _
 obtain ⟨sm, hlen⟩ := rec_small ok i hw
 have hln := rec_lens i hw
 have hk : kindB r.k = true := by
  cases hq : kindB r.k
  · unfold recMay at hm; rw [hq] at hm; cases hm
  · rfl
 have hbad := own_bad 2 r hk
 have hF := few_any r h
 have hM := fun w' hi => recMay_any r h w' ok hi sm
 rw [decide_eq_true hw] at hF
 rw [hm] at hM
 have okB : (badR 2 r).ok := ⟨ok.k, ok.t, ok.s, ⟨m1_ok, ok.pv.2.1, ok.pv.2.2⟩, ok.n, ok.pt, ok.rg, ok.fl, ok.cl⟩
 clear hw hm hk
 rcases hq with hq | hq
 all_goals
  go_enter Tryz.func7, Tryz.ntmps7
  go_wp2_with fail
  refine (first_any _).mono ?_
  rintro e w1 ⟨rfl, hb1⟩
  have B1 := B0.below hb1 B0.lt
  have hX1 := hX.trans (hb1.mono hX.size)
  clear B0 hb1 hX
  go_wp2_with (guard_target =~ wpList _ _ _ _ _ _; refine wpList_load_row rfl 38 (.tmp 2) rfl w.heap.size (by kernel_rfl) _ _ (0, 0) _ B1 rfl rfl (by kernel_rfl) ?_)
  refine (hF w1 (i.below hX1)).mono ?_
  rintro e w2 ⟨rfl, hb2⟩
  have B2 := B1.below hb2 B1.lt
  have hX2 := hX1.trans (hb2.mono hX1.size)
  clear B1 hb2 hX1 hF
  go_wp2_with (guard_target =~ wpList _ _ _ _ _ _; refine wpList_load_row_g (by kernel_rfl) 38 (.tmp 2) rfl w.heap.size (by kernel_rfl) _ _ (0, 0) _ B2 rfl rfl (by kernel_rfl) ?_)
  refine (hM w2 (i.below hX2)).mono ?_
  rintro e w3 ⟨rfl, hb3⟩
  have B3 := B2.below hb3 B2.lt
  have hX3 := hX2.trans (hb3.mono hX2.size)
  clear B2 hb3 hX2 hM
  go_wp2_with (guard_target =~ wpList _ _ _ _ _ _; refine wpList_load_row rfl 38 (.tmp 2) rfl w.heap.size (by kernel_rfl) _ _ (0, 0) _ B3 rfl rfl (by kernel_rfl) ?_)
  refine (copyRecO_any r h w3 (i.below hX3) sm).mono ?_
  rintro e w4 ⟨g, rfl, cg, ig, hb4, oa, ob, oc, od, ra, rb, rc, rd⟩
  have B4 := B3.below hb4 B3.lt
  have hX4 := hX3.trans (hb4.mono hX3.size)
  have hbx : w3.heap.size ≤ w4.heap.size := hb4.size
  have ea : g.a.n = h.a.n := by rw [← ig.rd.1]; exact i.rd.1
  have eb : g.b.n = h.b.n := by rw [← ig.wr.1]; exact i.wr.1
  have ec : g.c.n = h.c.n := by rw [← ig.ps.1]; exact i.ps.1
  have ed : g.d.n = h.d.n := by rw [← ig.pr.1]; exact i.pr.1
  have HE := Lib.hid ea
  have HEb := Lib.hid eb
  have HEc := Lib.hid ec
  have HEd := Lib.hid ed
  clear B3 hb4 hX3 ea eb ec ed
  go_wp2_with (first
   | (guard_target =~ wpList _ _ _ _ _ _; refine wpList_store_at rfl 38 _ _ rfl w4.heap.size (r.vals g) (by kernel_rfl) (by kernel_rfl) rfl _ _ (by kernel_rfl) (by kernel_rfl) (by kernel_rfl) ?_
      have hA5 : Below w4.heap.size w4 (w4.alloc (.cells (r.vals g) 38)) := by go_grown
      have B5 : Blk (w4.alloc (.cells (r.vals g) 38)) w.heap.size 38 (r.vals h) := B4.alloc _
      have C5 : Blk (w4.alloc (.cells (r.vals g) 38)) w4.heap.size 38 (r.vals g) := Blk.new _ _ _
      obtain ⟨w5, hw5⟩ : ∃ w5 : World, w5 = w4.alloc (.cells (r.vals g) 38) := ⟨_, rfl⟩
      have hz5 : w5.heap.size = w4.heap.size + 1 := by rw [hw5]; simp
      rw [← hw5] at hA5 B5 C5 ⊢
      have hX5 := hX4.trans (hA5.mono hX4.size)
      have hl5 := C5.lt
      have hbl : w.heap.size < w4.heap.size := B4.lt
      have HZ5 := Lib.hid hz5
      clear hw5 B4 hz5
      have z5 : w5.cell? ⟨w4.heap.size, 7, none⟩ = some (.int .i64 r.pv.w) := C5.cell 7
      have f5 : w5.frozen? ⟨w4.heap.size, 7, none⟩ = false := C5.frozen 7
      have C6 : Blk (w5.setCell ⟨w4.heap.size, 7, none⟩ (.int .i64 (-1))) w4.heap.size 38 ((badR 2 r).vals g) := C5.set_ 7 (.int .i64 (-1))
      have B6 : Blk (w5.setCell ⟨w4.heap.size, 7, none⟩ (.int .i64 (-1))) w.heap.size 38 (r.vals h) := B5.far (p := ⟨w4.heap.size, 7, none⟩) (by simp only; omega) _
      have hX6 : Below w.heap.size w (w5.setCell ⟨w4.heap.size, 7, none⟩ (.int .i64 (-1))) := hX5.setCell (p := ⟨w4.heap.size, 7, none⟩) (by simp only; omega) _
      have ig6 := ig.below (hA5.setCell (p := ⟨w4.heap.size, 7, none⟩) (Nat.le_refl _) (.int .i64 (-1)))
      have I6 : RcIn (w5.setCell ⟨w4.heap.size, 7, none⟩ (.int .i64 (-1))) (badR 2 r) g := ⟨ig6.rd, ig6.wr, ig6.ps, ig6.pr, ig6.hs, ig6.pn, ig6.na, ig6.nb, ig6.nc, ig6.nd, ig6.ne, ig6.nf⟩
      clear B5 C5 hX5 hA5 ig6)
   | (guard_target =~ wpList _ _ _ _ _ _; refine wpList_load_row rfl 38 (.tmp 5) rfl w4.heap.size (by kernel_rfl) _ _ (0, 0) _ C6 rfl rfl (by kernel_rfl) ?_))
  have smB : RcSm (badR 2 r) g := ⟨by have := HE.out; omega, by have := HEb.out; omega, by have := HEc.out; omega, by have := HEd.out; omega, sm.h, sm.p⟩
  refine (encode_bad (badR 2 r) g _ okB I6 smB hbad).mono ?_
  rintro e w7 ⟨A7, c7, rfl, q7, m7, o7, hb7⟩
  have B7 := B6.below hb7 B6.lt
  have C7 := C6.below hb7 C6.lt
  have hX7 := hX6.trans (hb7.mono hX6.size)
  have I7 := I6.below hb7
  clear B6 C6 hX6 hb7 I6 o7
  go_wp2_with (guard_target =~ wpList _ _ _ _ _ _; refine wpList_load_row rfl 38 (.tmp 2) rfl w.heap.size (by kernel_rfl) _ _ (0, 0) _ B7 rfl rfl (by kernel_rfl) ?_)
  refine (encode_any r h _ ok (i.below hX7) cp sm (by omega)).mono ?_
  rintro e w8 ⟨A8, c8, rfl, q8, m8, o8, hb8⟩
  have B8 := B7.below hb8 B7.lt
  have C8 := C7.below hb8 C7.lt
  have hX8 := hX7.trans (hb8.mono hX7.size)
  have I8 := I7.below hb8
  have R8 : Reads w8 w8.heap.size 1 A8 (encOut r).length (bytesV (encOut r)) := Reads.of_own o8
  clear B7 C7 hX7 hb8 I7 o8
  go_wp2_with (guard_target =~ wpList _ _ _ _ _ _; refine wpList_load_row rfl 38 (.tmp 2) rfl w.heap.size (by kernel_rfl) _ _ (0, 0) _ B8 rfl rfl (by kernel_rfl) ?_)
  refine (xEncode r h _ ok (i.below hX8) sm (by omega)).mono ?_
  rintro e w9 ⟨A9, c9, rfl, q9, m9, o9, hb9⟩
  have C9 := C8.below hb9 C8.lt
  have hX9 := hX8.trans (hb9.mono hX8.size)
  have I9 := I8.below hb9
  have R9 := (R8.below hb9).more hb9.size
  have S9 : Reads w9 w9.heap.size 1 A9 (encOut r).length (bytesV (encOut r)) := Reads.of_own o9
  clear B8 C8 hX8 hb9 I8 o9 R8
  go_wp2_with fail
  refine (first_any _).mono ?_
  rintro e x1 ⟨rfl, hc1⟩
  have C10 := C9.below hc1 C9.lt
  have hX10 := hX9.trans (hc1.mono hX9.size)
  have I10 := I9.below hc1
  have R10 := (R9.below hc1).more hc1.size
  have S10 := (S9.below hc1).more hc1.size
  clear C9 hX9 hc1 I9 R9 S9
  have hMB := recMay_any (badR 2 r) g x1 okB I10 smB
  rw [hbad] at hMB
  go_wp2_with (guard_target =~ wpList _ _ _ _ _ _; refine wpList_load_row_g (by kernel_rfl) 38 (.tmp 5) rfl w4.heap.size (by kernel_rfl) _ _ (0, 0) _ C10 rfl rfl (by kernel_rfl) ?_)
  refine hMB.mono ?_
  rintro e x2 ⟨rfl, hc2⟩
  have hX11 := hX10.trans (hc2.mono hX10.size)
  have R11 := (R10.below hc2).more hc2.size
  have S11 := (S10.below hc2).more hc2.size
  clear hMB hX10 hc2 R10 S10 C10 I10
  have hee : (encE r == encE r) = true := by simp
  have hEq := sbytes x2 (c := c8) (c' := c9) R11 S11
  rw [show (encOut r == encOut r) = true from by simp] at hEq
  go_wp2_with fail
  refine hEq.mono ?_
  rintro e x3 ⟨rfl, rfl⟩
  go_wp2
  go_ret
  exact ⟨rfl, hX11⟩
theorem turn_3 (r : Rc) (h : Hds) (m : Int) (w : World) (ok : r.ok) (i : RcIn w r h) (cp : h.caps) (hw : weighRec 20000 r ≤ 20000) (hm : recMay r = 0) (hq : m.tmod 11 = 3 ∨ m.tmod 11 = -3) :
 Calls Tryz.prog 7 #[.agg (r.vals h), .int .i64 m] w fun e w' => e = .returned (.bool true) ∧ Below w.heap.size w w' := by
 have hX : Below w.heap.size w (w.alloc (.cells (r.vals h) 38)) := by go_grown
 have B0 : Blk (w.alloc (.cells (r.vals h) 38)) w.heap.size 38 (r.vals h) := Blk.new _ _ _
 obtain ⟨sm, hlen⟩ := rec_small ok i hw
 have hln := rec_lens i hw
 have hk : kindB r.k = true := by
  cases hq : kindB r.k
  · unfold recMay at hm; rw [hq] at hm; cases hm
  · rfl
 have hbad := own_bad 3 r hk
 have hF := few_any r h
 have hM := fun w' hi => recMay_any r h w' ok hi sm
 rw [decide_eq_true hw] at hF
 rw [hm] at hM
 have okB : (badR 3 r).ok := ⟨ok.k, ok.t, ok.s, ok.pv, m1_ok, ok.pt, ok.rg, ok.fl, ok.cl⟩
 clear hw hm hk
 rcases hq with hq | hq
 all_goals
  go_enter Tryz.func7, Tryz.ntmps7
  go_wp2_with fail
  refine (first_any _).mono ?_
  rintro e w1 ⟨rfl, hb1⟩
  have B1 := B0.below hb1 B0.lt
  have hX1 := hX.trans (hb1.mono hX.size)
  clear B0 hb1 hX
  go_wp2_with (guard_target =~ wpList _ _ _ _ _ _; refine wpList_load_row rfl 38 (.tmp 2) rfl w.heap.size (by kernel_rfl) _ _ (0, 0) _ B1 rfl rfl (by kernel_rfl) ?_)
  refine (hF w1 (i.below hX1)).mono ?_
  rintro e w2 ⟨rfl, hb2⟩
  have B2 := B1.below hb2 B1.lt
  have hX2 := hX1.trans (hb2.mono hX1.size)
  clear B1 hb2 hX1 hF
  go_wp2_with (guard_target =~ wpList _ _ _ _ _ _; refine wpList_load_row_g (by kernel_rfl) 38 (.tmp 2) rfl w.heap.size (by kernel_rfl) _ _ (0, 0) _ B2 rfl rfl (by kernel_rfl) ?_)
  refine (hM w2 (i.below hX2)).mono ?_
  rintro e w3 ⟨rfl, hb3⟩
  have B3 := B2.below hb3 B2.lt
  have hX3 := hX2.trans (hb3.mono hX2.size)
  clear B2 hb3 hX2 hM
  go_wp2_with (guard_target =~ wpList _ _ _ _ _ _; refine wpList_load_row rfl 38 (.tmp 2) rfl w.heap.size (by kernel_rfl) _ _ (0, 0) _ B3 rfl rfl (by kernel_rfl) ?_)
  refine (copyRecO_any r h w3 (i.below hX3) sm).mono ?_
  rintro e w4 ⟨g, rfl, cg, ig, hb4, oa, ob, oc, od, ra, rb, rc, rd⟩
  have B4 := B3.below hb4 B3.lt
  have hX4 := hX3.trans (hb4.mono hX3.size)
  have hbx : w3.heap.size ≤ w4.heap.size := hb4.size
  have ea : g.a.n = h.a.n := by rw [← ig.rd.1]; exact i.rd.1
  have eb : g.b.n = h.b.n := by rw [← ig.wr.1]; exact i.wr.1
  have ec : g.c.n = h.c.n := by rw [← ig.ps.1]; exact i.ps.1
  have ed : g.d.n = h.d.n := by rw [← ig.pr.1]; exact i.pr.1
  have HE := Lib.hid ea
  have HEb := Lib.hid eb
  have HEc := Lib.hid ec
  have HEd := Lib.hid ed
  clear B3 hb4 hX3 ea eb ec ed
  go_wp2_with (first
   | (guard_target =~ wpList _ _ _ _ _ _; refine wpList_store_at rfl 38 _ _ rfl w4.heap.size (r.vals g) (by kernel_rfl) (by kernel_rfl) rfl _ _ (by kernel_rfl) (by kernel_rfl) (by kernel_rfl) ?_
      have hA5 : Below w4.heap.size w4 (w4.alloc (.cells (r.vals g) 38)) := by go_grown
      have B5 : Blk (w4.alloc (.cells (r.vals g) 38)) w.heap.size 38 (r.vals h) := B4.alloc _
      have C5 : Blk (w4.alloc (.cells (r.vals g) 38)) w4.heap.size 38 (r.vals g) := Blk.new _ _ _
      obtain ⟨w5, hw5⟩ : ∃ w5 : World, w5 = w4.alloc (.cells (r.vals g) 38) := ⟨_, rfl⟩
      have hz5 : w5.heap.size = w4.heap.size + 1 := by rw [hw5]; simp
      rw [← hw5] at hA5 B5 C5 ⊢
      have hX5 := hX4.trans (hA5.mono hX4.size)
      have hl5 := C5.lt
      have hbl : w.heap.size < w4.heap.size := B4.lt
      have HZ5 := Lib.hid hz5
      clear hw5 B4 hz5
      have z5 : w5.cell? ⟨w4.heap.size, 11, none⟩ = some (.int .i64 r.n) := C5.cell 11
      have f5 : w5.frozen? ⟨w4.heap.size, 11, none⟩ = false := C5.frozen 11
      have C6 : Blk (w5.setCell ⟨w4.heap.size, 11, none⟩ (.int .i64 (-1))) w4.heap.size 38 ((badR 3 r).vals g) := C5.set_ 11 (.int .i64 (-1))
      have B6 : Blk (w5.setCell ⟨w4.heap.size, 11, none⟩ (.int .i64 (-1))) w.heap.size 38 (r.vals h) := B5.far (p := ⟨w4.heap.size, 11, none⟩) (by simp only; omega) _
      have hX6 : Below w.heap.size w (w5.setCell ⟨w4.heap.size, 11, none⟩ (.int .i64 (-1))) := hX5.setCell (p := ⟨w4.heap.size, 11, none⟩) (by simp only; omega) _
      have ig6 := ig.below (hA5.setCell (p := ⟨w4.heap.size, 11, none⟩) (Nat.le_refl _) (.int .i64 (-1)))
      have I6 : RcIn (w5.setCell ⟨w4.heap.size, 11, none⟩ (.int .i64 (-1))) (badR 3 r) g := ⟨ig6.rd, ig6.wr, ig6.ps, ig6.pr, ig6.hs, ig6.pn, ig6.na, ig6.nb, ig6.nc, ig6.nd, ig6.ne, ig6.nf⟩
      clear B5 C5 hX5 hA5 ig6)
   | (guard_target =~ wpList _ _ _ _ _ _; refine wpList_load_row rfl 38 (.tmp 5) rfl w4.heap.size (by kernel_rfl) _ _ (0, 0) _ C6 rfl rfl (by kernel_rfl) ?_))
  have smB : RcSm (badR 3 r) g := ⟨by have := HE.out; omega, by have := HEb.out; omega, by have := HEc.out; omega, by have := HEd.out; omega, sm.h, sm.p⟩
  refine (encode_bad (badR 3 r) g _ okB I6 smB hbad).mono ?_
  rintro e w7 ⟨A7, c7, rfl, q7, m7, o7, hb7⟩
  have B7 := B6.below hb7 B6.lt
  have C7 := C6.below hb7 C6.lt
  have hX7 := hX6.trans (hb7.mono hX6.size)
  have I7 := I6.below hb7
  clear B6 C6 hX6 hb7 I6 o7
  go_wp2_with (guard_target =~ wpList _ _ _ _ _ _; refine wpList_load_row rfl 38 (.tmp 2) rfl w.heap.size (by kernel_rfl) _ _ (0, 0) _ B7 rfl rfl (by kernel_rfl) ?_)
  refine (encode_any r h _ ok (i.below hX7) cp sm (by omega)).mono ?_
  rintro e w8 ⟨A8, c8, rfl, q8, m8, o8, hb8⟩
  have B8 := B7.below hb8 B7.lt
  have C8 := C7.below hb8 C7.lt
  have hX8 := hX7.trans (hb8.mono hX7.size)
  have I8 := I7.below hb8
  have R8 : Reads w8 w8.heap.size 1 A8 (encOut r).length (bytesV (encOut r)) := Reads.of_own o8
  clear B7 C7 hX7 hb8 I7 o8
  go_wp2_with (guard_target =~ wpList _ _ _ _ _ _; refine wpList_load_row rfl 38 (.tmp 2) rfl w.heap.size (by kernel_rfl) _ _ (0, 0) _ B8 rfl rfl (by kernel_rfl) ?_)
  refine (xEncode r h _ ok (i.below hX8) sm (by omega)).mono ?_
  rintro e w9 ⟨A9, c9, rfl, q9, m9, o9, hb9⟩
  have C9 := C8.below hb9 C8.lt
  have hX9 := hX8.trans (hb9.mono hX8.size)
  have I9 := I8.below hb9
  have R9 := (R8.below hb9).more hb9.size
  have S9 : Reads w9 w9.heap.size 1 A9 (encOut r).length (bytesV (encOut r)) := Reads.of_own o9
  clear B8 C8 hX8 hb9 I8 o9 R8
  go_wp2_with fail
  refine (first_any _).mono ?_
  rintro e x1 ⟨rfl, hc1⟩
  have C10 := C9.below hc1 C9.lt
  have hX10 := hX9.trans (hc1.mono hX9.size)
  have I10 := I9.below hc1
  have R10 := (R9.below hc1).more hc1.size
  have S10 := (S9.below hc1).more hc1.size
  clear C9 hX9 hc1 I9 R9 S9
  have hMB := recMay_any (badR 3 r) g x1 okB I10 smB
  rw [hbad] at hMB
  go_wp2_with (guard_target =~ wpList _ _ _ _ _ _; refine wpList_load_row_g (by kernel_rfl) 38 (.tmp 5) rfl w4.heap.size (by kernel_rfl) _ _ (0, 0) _ C10 rfl rfl (by kernel_rfl) ?_)
  refine hMB.mono ?_
  rintro e x2 ⟨rfl, hc2⟩
  have hX11 := hX10.trans (hc2.mono hX10.size)
  have R11 := (R10.below hc2).more hc2.size
  have S11 := (S10.below hc2).more hc2.size
  clear hMB hX10 hc2 R10 S10 C10 I10
  have hee : (encE r == encE r) = true := by simp
  have hEq := sbytes x2 (c := c8) (c' := c9) R11 S11
  rw [show (encOut r == encOut r) = true from by simp] at hEq
  go_wp2_with fail
  refine hEq.mono ?_
  rintro e x3 ⟨rfl, rfl⟩
  go_wp2
  go_ret
  exact ⟨rfl, hX11⟩
theorem turn_4 (r : Rc) (h : Hds) (m : Int) (w : World) (ok : r.ok) (i : RcIn w r h) (cp : h.caps) (hw : weighRec 20000 r ≤ 20000) (hm : recMay r = 0) (hq : m.tmod 11 = 4 ∨ m.tmod 11 = -4) :
 Calls Tryz.prog 7 #[.agg (r.vals h), .int .i64 m] w fun e w' => e = .returned (.bool true) ∧ Below w.heap.size w w' := by
 have hX : Below w.heap.size w (w.alloc (.cells (r.vals h) 38)) := by go_grown
 have B0 : Blk (w.alloc (.cells (r.vals h) 38)) w.heap.size 38 (r.vals h) := Blk.new _ _ _
 obtain ⟨sm, hlen⟩ := rec_small ok i hw
 have hln := rec_lens i hw
 have hk : kindB r.k = true := by
  cases hq : kindB r.k
  · unfold recMay at hm; rw [hq] at hm; cases hm
  · rfl
 have hbad := own_bad 4 r hk
 have hF := few_any r h
 have hM := fun w' hi => recMay_any r h w' ok hi sm
 rw [decide_eq_true hw] at hF
 rw [hm] at hM
 have okB : (badR 4 r).ok := ⟨ok.k, ok.t, ok.s, ok.pv, ok.n, by show 13830554455654793216 < 18446744073709551616; omega, ok.rg, ok.fl, ok.cl⟩
 clear hw hm hk
 rcases hq with hq | hq
 all_goals
  go_enter Tryz.func7, Tryz.ntmps7
  go_wp2_with fail
  refine (first_any _).mono ?_
  rintro e w1 ⟨rfl, hb1⟩
  have B1 := B0.below hb1 B0.lt
  have hX1 := hX.trans (hb1.mono hX.size)
  clear B0 hb1 hX
  go_wp2_with (guard_target =~ wpList _ _ _ _ _ _; refine wpList_load_row rfl 38 (.tmp 2) rfl w.heap.size (by kernel_rfl) _ _ (0, 0) _ B1 rfl rfl (by kernel_rfl) ?_)
  refine (hF w1 (i.below hX1)).mono ?_
  rintro e w2 ⟨rfl, hb2⟩
  have B2 := B1.below hb2 B1.lt
  have hX2 := hX1.trans (hb2.mono hX1.size)
  clear B1 hb2 hX1 hF
  go_wp2_with (guard_target =~ wpList _ _ _ _ _ _; refine wpList_load_row_g (by kernel_rfl) 38 (.tmp 2) rfl w.heap.size (by kernel_rfl) _ _ (0, 0) _ B2 rfl rfl (by kernel_rfl) ?_)
  refine (hM w2 (i.below hX2)).mono ?_
  rintro e w3 ⟨rfl, hb3⟩
  have B3 := B2.below hb3 B2.lt
  have hX3 := hX2.trans (hb3.mono hX2.size)
  clear B2 hb3 hX2 hM
  go_wp2_with (guard_target =~ wpList _ _ _ _ _ _; refine wpList_load_row rfl 38 (.tmp 2) rfl w.heap.size (by kernel_rfl) _ _ (0, 0) _ B3 rfl rfl (by kernel_rfl) ?_)
  refine (copyRecO_any r h w3 (i.below hX3) sm).mono ?_
  rintro e w4 ⟨g, rfl, cg, ig, hb4, oa, ob, oc, od, ra, rb, rc, rd⟩
  have B4 := B3.below hb4 B3.lt
  have hX4 := hX3.trans (hb4.mono hX3.size)
  have hbx : w3.heap.size ≤ w4.heap.size := hb4.size
  have ea : g.a.n = h.a.n := by rw [← ig.rd.1]; exact i.rd.1
  have eb : g.b.n = h.b.n := by rw [← ig.wr.1]; exact i.wr.1
  have ec : g.c.n = h.c.n := by rw [← ig.ps.1]; exact i.ps.1
  have ed : g.d.n = h.d.n := by rw [← ig.pr.1]; exact i.pr.1
  have HE := Lib.hid ea
  have HEb := Lib.hid eb
  have HEc := Lib.hid ec
  have HEd := Lib.hid ed
  clear B3 hb4 hX3 ea eb ec ed
  go_wp2_with (first
   | (guard_target =~ wpList _ _ _ _ _ _; refine wpList_store_at rfl 38 _ _ rfl w4.heap.size (r.vals g) (by kernel_rfl) (by kernel_rfl) rfl _ _ (by kernel_rfl) (by kernel_rfl) (by kernel_rfl) ?_
      have hA5 : Below w4.heap.size w4 (w4.alloc (.cells (r.vals g) 38)) := by go_grown
      have B5 : Blk (w4.alloc (.cells (r.vals g) 38)) w.heap.size 38 (r.vals h) := B4.alloc _
      have C5 : Blk (w4.alloc (.cells (r.vals g) 38)) w4.heap.size 38 (r.vals g) := Blk.new _ _ _
      obtain ⟨w5, hw5⟩ : ∃ w5 : World, w5 = w4.alloc (.cells (r.vals g) 38) := ⟨_, rfl⟩
      have hz5 : w5.heap.size = w4.heap.size + 1 := by rw [hw5]; simp
      rw [← hw5] at hA5 B5 C5 ⊢
      have hX5 := hX4.trans (hA5.mono hX4.size)
      have hl5 := C5.lt
      have hbl : w.heap.size < w4.heap.size := B4.lt
      have HZ5 := Lib.hid hz5
      clear hw5 B4 hz5
      have z5 : w5.cell? ⟨w4.heap.size, 12, none⟩ = some (.float .f64 r.pt) := C5.cell 12
      have f5 : w5.frozen? ⟨w4.heap.size, 12, none⟩ = false := C5.frozen 12
      have C6 : Blk (w5.setCell ⟨w4.heap.size, 12, none⟩ (.float .f64 13830554455654793216)) w4.heap.size 38 ((badR 4 r).vals g) := C5.set_ 12 (.float .f64 13830554455654793216)
      have B6 : Blk (w5.setCell ⟨w4.heap.size, 12, none⟩ (.float .f64 13830554455654793216)) w.heap.size 38 (r.vals h) := B5.far (p := ⟨w4.heap.size, 12, none⟩) (by simp only; omega) _
      have hX6 : Below w.heap.size w (w5.setCell ⟨w4.heap.size, 12, none⟩ (.float .f64 13830554455654793216)) := hX5.setCell (p := ⟨w4.heap.size, 12, none⟩) (by simp only; omega) _
      have ig6 := ig.below (hA5.setCell (p := ⟨w4.heap.size, 12, none⟩) (Nat.le_refl _) (.float .f64 13830554455654793216))
      have I6 : RcIn (w5.setCell ⟨w4.heap.size, 12, none⟩ (.float .f64 13830554455654793216)) (badR 4 r) g := ⟨ig6.rd, ig6.wr, ig6.ps, ig6.pr, ig6.hs, ig6.pn, ig6.na, ig6.nb, ig6.nc, ig6.nd, ig6.ne, ig6.nf⟩
      clear B5 C5 hX5 hA5 ig6)
   | (guard_target =~ wpList _ _ _ _ _ _; refine wpList_load_row rfl 38 (.tmp 5) rfl w4.heap.size (by kernel_rfl) _ _ (0, 0) _ C6 rfl rfl (by kernel_rfl) ?_))
  have smB : RcSm (badR 4 r) g := ⟨by have := HE.out; omega, by have := HEb.out; omega, by have := HEc.out; omega, by have := HEd.out; omega, sm.h, sm.p⟩
  refine (encode_bad (badR 4 r) g _ okB I6 smB hbad).mono ?_
  rintro e w7 ⟨A7, c7, rfl, q7, m7, o7, hb7⟩
  have B7 := B6.below hb7 B6.lt
  have C7 := C6.below hb7 C6.lt
  have hX7 := hX6.trans (hb7.mono hX6.size)
  have I7 := I6.below hb7
  clear B6 C6 hX6 hb7 I6 o7
  go_wp2_with (guard_target =~ wpList _ _ _ _ _ _; refine wpList_load_row rfl 38 (.tmp 2) rfl w.heap.size (by kernel_rfl) _ _ (0, 0) _ B7 rfl rfl (by kernel_rfl) ?_)
  refine (encode_any r h _ ok (i.below hX7) cp sm (by omega)).mono ?_
  rintro e w8 ⟨A8, c8, rfl, q8, m8, o8, hb8⟩
  have B8 := B7.below hb8 B7.lt
  have C8 := C7.below hb8 C7.lt
  have hX8 := hX7.trans (hb8.mono hX7.size)
  have I8 := I7.below hb8
  have R8 : Reads w8 w8.heap.size 1 A8 (encOut r).length (bytesV (encOut r)) := Reads.of_own o8
  clear B7 C7 hX7 hb8 I7 o8
  go_wp2_with (guard_target =~ wpList _ _ _ _ _ _; refine wpList_load_row rfl 38 (.tmp 2) rfl w.heap.size (by kernel_rfl) _ _ (0, 0) _ B8 rfl rfl (by kernel_rfl) ?_)
  refine (xEncode r h _ ok (i.below hX8) sm (by omega)).mono ?_
  rintro e w9 ⟨A9, c9, rfl, q9, m9, o9, hb9⟩
  have C9 := C8.below hb9 C8.lt
  have hX9 := hX8.trans (hb9.mono hX8.size)
  have I9 := I8.below hb9
  have R9 := (R8.below hb9).more hb9.size
  have S9 : Reads w9 w9.heap.size 1 A9 (encOut r).length (bytesV (encOut r)) := Reads.of_own o9
  clear B8 C8 hX8 hb9 I8 o9 R8
  go_wp2_with fail
  refine (first_any _).mono ?_
  rintro e x1 ⟨rfl, hc1⟩
  have C10 := C9.below hc1 C9.lt
  have hX10 := hX9.trans (hc1.mono hX9.size)
  have I10 := I9.below hc1
  have R10 := (R9.below hc1).more hc1.size
  have S10 := (S9.below hc1).more hc1.size
  clear C9 hX9 hc1 I9 R9 S9
  have hMB := recMay_any (badR 4 r) g x1 okB I10 smB
  rw [hbad] at hMB
  go_wp2_with (guard_target =~ wpList _ _ _ _ _ _; refine wpList_load_row_g (by kernel_rfl) 38 (.tmp 5) rfl w4.heap.size (by kernel_rfl) _ _ (0, 0) _ C10 rfl rfl (by kernel_rfl) ?_)
  refine hMB.mono ?_
  rintro e x2 ⟨rfl, hc2⟩
  have hX11 := hX10.trans (hc2.mono hX10.size)
  have R11 := (R10.below hc2).more hc2.size
  have S11 := (S10.below hc2).more hc2.size
  clear hMB hX10 hc2 R10 S10 C10 I10
  have hee : (encE r == encE r) = true := by simp
  have hEq := sbytes x2 (c := c8) (c' := c9) R11 S11
  rw [show (encOut r == encOut r) = true from by simp] at hEq
  go_wp2_with fail
  refine hEq.mono ?_
  rintro e x3 ⟨rfl, rfl⟩
  go_wp2
  go_ret
  exact ⟨rfl, hX11⟩
theorem turn_9 (r : Rc) (h : Hds) (m : Int) (w : World) (ok : r.ok) (i : RcIn w r h) (cp : h.caps) (hw : weighRec 20000 r ≤ 20000) (hm : recMay r = 0) (hq : m.tmod 11 = 9 ∨ m.tmod 11 = -9) :
 Calls Tryz.prog 7 #[.agg (r.vals h), .int .i64 m] w fun e w' => e = .returned (.bool true) ∧ Below w.heap.size w w' := by
 have hX : Below w.heap.size w (w.alloc (.cells (r.vals h) 38)) := by go_grown
 have B0 : Blk (w.alloc (.cells (r.vals h) 38)) w.heap.size 38 (r.vals h) := Blk.new _ _ _
 obtain ⟨sm, hlen⟩ := rec_small ok i hw
 have hln := rec_lens i hw
 have hk : kindB r.k = true := by
  cases hq : kindB r.k
  · unfold recMay at hm; rw [hq] at hm; cases hm
  · rfl
 have hbad := own_bad 9 r hk
 have hF := few_any r h
 have hM := fun w' hi => recMay_any r h w' ok hi sm
 rw [decide_eq_true hw] at hF
 rw [hm] at hM
 have okB : (badR 9 r).ok := ⟨ok.k, ok.t, ok.s, ok.pv, ok.n, ok.pt, ⟨m1_ok, ok.rg.2.1, ok.rg.2.2.1, ok.rg.2.2.2⟩, ok.fl, ok.cl⟩
 clear hw hm hk
 rcases hq with hq | hq
 all_goals
  go_enter Tryz.func7, Tryz.ntmps7
  go_wp2_with fail
  refine (first_any _).mono ?_
  rintro e w1 ⟨rfl, hb1⟩
  have B1 := B0.below hb1 B0.lt
  have hX1 := hX.trans (hb1.mono hX.size)
  clear B0 hb1 hX
  go_wp2_with (guard_target =~ wpList _ _ _ _ _ _; refine wpList_load_row rfl 38 (.tmp 2) rfl w.heap.size (by kernel_rfl) _ _ (0, 0) _ B1 rfl rfl (by kernel_rfl) ?_)
  refine (hF w1 (i.below hX1)).mono ?_
  rintro e w2 ⟨rfl, hb2⟩
  have B2 := B1.below hb2 B1.lt
  have hX2 := hX1.trans (hb2.mono hX1.size)
  clear B1 hb2 hX1 hF
  go_wp2_with (guard_target =~ wpList _ _ _ _ _ _; refine wpList_load_row_g (by kernel_rfl) 38 (.tmp 2) rfl w.heap.size (by kernel_rfl) _ _ (0, 0) _ B2 rfl rfl (by kernel_rfl) ?_)
  refine (hM w2 (i.below hX2)).mono ?_
  rintro e w3 ⟨rfl, hb3⟩
  have B3 := B2.below hb3 B2.lt
  have hX3 := hX2.trans (hb3.mono hX2.size)
  clear B2 hb3 hX2 hM
  go_wp2_with (guard_target =~ wpList _ _ _ _ _ _; refine wpList_load_row rfl 38 (.tmp 2) rfl w.heap.size (by kernel_rfl) _ _ (0, 0) _ B3 rfl rfl (by kernel_rfl) ?_)
  refine (copyRecO_any r h w3 (i.below hX3) sm).mono ?_
  rintro e w4 ⟨g, rfl, cg, ig, hb4, oa, ob, oc, od, ra, rb, rc, rd⟩
  have B4 := B3.below hb4 B3.lt
  have hX4 := hX3.trans (hb4.mono hX3.size)
  have hbx : w3.heap.size ≤ w4.heap.size := hb4.size
  have ea : g.a.n = h.a.n := by rw [← ig.rd.1]; exact i.rd.1
  have eb : g.b.n = h.b.n := by rw [← ig.wr.1]; exact i.wr.1
  have ec : g.c.n = h.c.n := by rw [← ig.ps.1]; exact i.ps.1
  have ed : g.d.n = h.d.n := by rw [← ig.pr.1]; exact i.pr.1
  have HE := Lib.hid ea
  have HEb := Lib.hid eb
  have HEc := Lib.hid ec
  have HEd := Lib.hid ed
  clear B3 hb4 hX3 ea eb ec ed
  go_wp2_with (first
   | (guard_target =~ wpList _ _ _ _ _ _; refine wpList_store_at rfl 38 _ _ rfl w4.heap.size (r.vals g) (by kernel_rfl) (by kernel_rfl) rfl _ _ (by kernel_rfl) (by kernel_rfl) (by kernel_rfl) ?_
      have hA5 : Below w4.heap.size w4 (w4.alloc (.cells (r.vals g) 38)) := by go_grown
      have B5 : Blk (w4.alloc (.cells (r.vals g) 38)) w.heap.size 38 (r.vals h) := B4.alloc _
      have C5 : Blk (w4.alloc (.cells (r.vals g) 38)) w4.heap.size 38 (r.vals g) := Blk.new _ _ _
      obtain ⟨w5, hw5⟩ : ∃ w5 : World, w5 = w4.alloc (.cells (r.vals g) 38) := ⟨_, rfl⟩
      have hz5 : w5.heap.size = w4.heap.size + 1 := by rw [hw5]; simp
      rw [← hw5] at hA5 B5 C5 ⊢
      have hX5 := hX4.trans (hA5.mono hX4.size)
      have hl5 := C5.lt
      have hbl : w.heap.size < w4.heap.size := B4.lt
      have HZ5 := Lib.hid hz5
      clear hw5 B4 hz5
      have z5 : w5.cell? ⟨w4.heap.size, 17, none⟩ = some (.int .i64 r.st.r.id) := C5.cell 17
      have f5 : w5.frozen? ⟨w4.heap.size, 17, none⟩ = false := C5.frozen 17
      have C6 : Blk (w5.setCell ⟨w4.heap.size, 17, none⟩ (.int .i64 (-1))) w4.heap.size 38 ((badR 9 r).vals g) := C5.set_ 17 (.int .i64 (-1))
      have B6 : Blk (w5.setCell ⟨w4.heap.size, 17, none⟩ (.int .i64 (-1))) w.heap.size 38 (r.vals h) := B5.far (p := ⟨w4.heap.size, 17, none⟩) (by simp only; omega) _
      have hX6 : Below w.heap.size w (w5.setCell ⟨w4.heap.size, 17, none⟩ (.int .i64 (-1))) := hX5.setCell (p := ⟨w4.heap.size, 17, none⟩) (by simp only; omega) _
      have ig6 := ig.below (hA5.setCell (p := ⟨w4.heap.size, 17, none⟩) (Nat.le_refl _) (.int .i64 (-1)))
      have I6 : RcIn (w5.setCell ⟨w4.heap.size, 17, none⟩ (.int .i64 (-1))) (badR 9 r) g := ⟨ig6.rd, ig6.wr, ig6.ps, ig6.pr, ig6.hs, ig6.pn, ig6.na, ig6.nb, ig6.nc, ig6.nd, ig6.ne, ig6.nf⟩
      clear B5 C5 hX5 hA5 ig6)
   | (guard_target =~ wpList _ _ _ _ _ _; refine wpList_load_row rfl 38 (.tmp 5) rfl w4.heap.size (by kernel_rfl) _ _ (0, 0) _ C6 rfl rfl (by kernel_rfl) ?_))
  have smB : RcSm (badR 9 r) g := ⟨by have := HE.out; omega, by have := HEb.out; omega, by have := HEc.out; omega, by have := HEd.out; omega, sm.h, sm.p⟩
  refine (encode_bad (badR 9 r) g _ okB I6 smB hbad).mono ?_
  rintro e w7 ⟨A7, c7, rfl, q7, m7, o7, hb7⟩
  have B7 := B6.below hb7 B6.lt
  have C7 := C6.below hb7 C6.lt
  have hX7 := hX6.trans (hb7.mono hX6.size)
  have I7 := I6.below hb7
  clear B6 C6 hX6 hb7 I6 o7
  go_wp2_with (guard_target =~ wpList _ _ _ _ _ _; refine wpList_load_row rfl 38 (.tmp 2) rfl w.heap.size (by kernel_rfl) _ _ (0, 0) _ B7 rfl rfl (by kernel_rfl) ?_)
  refine (encode_any r h _ ok (i.below hX7) cp sm (by omega)).mono ?_
  rintro e w8 ⟨A8, c8, rfl, q8, m8, o8, hb8⟩
  have B8 := B7.below hb8 B7.lt
  have C8 := C7.below hb8 C7.lt
  have hX8 := hX7.trans (hb8.mono hX7.size)
  have I8 := I7.below hb8
  have R8 : Reads w8 w8.heap.size 1 A8 (encOut r).length (bytesV (encOut r)) := Reads.of_own o8
  clear B7 C7 hX7 hb8 I7 o8
  go_wp2_with (guard_target =~ wpList _ _ _ _ _ _; refine wpList_load_row rfl 38 (.tmp 2) rfl w.heap.size (by kernel_rfl) _ _ (0, 0) _ B8 rfl rfl (by kernel_rfl) ?_)
  refine (xEncode r h _ ok (i.below hX8) sm (by omega)).mono ?_
  rintro e w9 ⟨A9, c9, rfl, q9, m9, o9, hb9⟩
  have C9 := C8.below hb9 C8.lt
  have hX9 := hX8.trans (hb9.mono hX8.size)
  have I9 := I8.below hb9
  have R9 := (R8.below hb9).more hb9.size
  have S9 : Reads w9 w9.heap.size 1 A9 (encOut r).length (bytesV (encOut r)) := Reads.of_own o9
  clear B8 C8 hX8 hb9 I8 o9 R8
  go_wp2_with fail
  refine (first_any _).mono ?_
  rintro e x1 ⟨rfl, hc1⟩
  have C10 := C9.below hc1 C9.lt
  have hX10 := hX9.trans (hc1.mono hX9.size)
  have I10 := I9.below hc1
  have R10 := (R9.below hc1).more hc1.size
  have S10 := (S9.below hc1).more hc1.size
  clear C9 hX9 hc1 I9 R9 S9
  have hMB := recMay_any (badR 9 r) g x1 okB I10 smB
  rw [hbad] at hMB
  go_wp2_with (guard_target =~ wpList _ _ _ _ _ _; refine wpList_load_row_g (by kernel_rfl) 38 (.tmp 5) rfl w4.heap.size (by kernel_rfl) _ _ (0, 0) _ C10 rfl rfl (by kernel_rfl) ?_)
  refine hMB.mono ?_
  rintro e x2 ⟨rfl, hc2⟩
  have hX11 := hX10.trans (hc2.mono hX10.size)
  have R11 := (R10.below hc2).more hc2.size
  have S11 := (S10.below hc2).more hc2.size
  clear hMB hX10 hc2 R10 S10 C10 I10
  have hee : (encE r == encE r) = true := by simp
  have hEq := sbytes x2 (c := c8) (c' := c9) R11 S11
  rw [show (encOut r == encOut r) = true from by simp] at hEq
  go_wp2_with fail
  refine hEq.mono ?_
  rintro e x3 ⟨rfl, rfl⟩
  go_wp2
  go_ret
  exact ⟨rfl, hX11⟩
theorem turn_10 (r : Rc) (h : Hds) (m : Int) (w : World) (ok : r.ok) (i : RcIn w r h) (cp : h.caps) (hw : weighRec 20000 r ≤ 20000) (hm : recMay r = 0) (hq : m.tmod 11 = 10 ∨ m.tmod 11 = -10) :
 Calls Tryz.prog 7 #[.agg (r.vals h), .int .i64 m] w fun e w' => e = .returned (.bool true) ∧ Below w.heap.size w w' := by
 have hX : Below w.heap.size w (w.alloc (.cells (r.vals h) 38)) := by go_grown
 have B0 : Blk (w.alloc (.cells (r.vals h) 38)) w.heap.size 38 (r.vals h) := Blk.new _ _ _
 obtain ⟨sm, hlen⟩ := rec_small ok i hw
 have hln := rec_lens i hw
 have hk : kindB r.k = true := by
  cases hq : kindB r.k
  · unfold recMay at hm; rw [hq] at hm; cases hm
  · rfl
 have hbad := own_bad 10 r hk
 have hF := few_any r h
 have hM := fun w' hi => recMay_any r h w' ok hi sm
 rw [decide_eq_true hw] at hF
 rw [hm] at hM
 have okB : (badR 10 r).ok := ⟨ok.k, ok.t, ok.s, ok.pv, ok.n, ok.pt, ok.rg, ⟨m1_ok, ok.fl.2.1, ok.fl.2.2⟩, ok.cl⟩
 clear hw hm hk
 rcases hq with hq | hq
 all_goals
  go_enter Tryz.func7, Tryz.ntmps7
  go_wp2_with fail
  refine (first_any _).mono ?_
  rintro e w1 ⟨rfl, hb1⟩
  have B1 := B0.below hb1 B0.lt
  have hX1 := hX.trans (hb1.mono hX.size)
  clear B0 hb1 hX
  go_wp2_with (guard_target =~ wpList _ _ _ _ _ _; refine wpList_load_row rfl 38 (.tmp 2) rfl w.heap.size (by kernel_rfl) _ _ (0, 0) _ B1 rfl rfl (by kernel_rfl) ?_)
  refine (hF w1 (i.below hX1)).mono ?_
  rintro e w2 ⟨rfl, hb2⟩
  have B2 := B1.below hb2 B1.lt
  have hX2 := hX1.trans (hb2.mono hX1.size)
  clear B1 hb2 hX1 hF
  go_wp2_with (guard_target =~ wpList _ _ _ _ _ _; refine wpList_load_row_g (by kernel_rfl) 38 (.tmp 2) rfl w.heap.size (by kernel_rfl) _ _ (0, 0) _ B2 rfl rfl (by kernel_rfl) ?_)
  refine (hM w2 (i.below hX2)).mono ?_
  rintro e w3 ⟨rfl, hb3⟩
  have B3 := B2.below hb3 B2.lt
  have hX3 := hX2.trans (hb3.mono hX2.size)
  clear B2 hb3 hX2 hM
  go_wp2_with (guard_target =~ wpList _ _ _ _ _ _; refine wpList_load_row rfl 38 (.tmp 2) rfl w.heap.size (by kernel_rfl) _ _ (0, 0) _ B3 rfl rfl (by kernel_rfl) ?_)
  refine (copyRecO_any r h w3 (i.below hX3) sm).mono ?_
  rintro e w4 ⟨g, rfl, cg, ig, hb4, oa, ob, oc, od, ra, rb, rc, rd⟩
  have B4 := B3.below hb4 B3.lt
  have hX4 := hX3.trans (hb4.mono hX3.size)
  have hbx : w3.heap.size ≤ w4.heap.size := hb4.size
  have ea : g.a.n = h.a.n := by rw [← ig.rd.1]; exact i.rd.1
  have eb : g.b.n = h.b.n := by rw [← ig.wr.1]; exact i.wr.1
  have ec : g.c.n = h.c.n := by rw [← ig.ps.1]; exact i.ps.1
  have ed : g.d.n = h.d.n := by rw [← ig.pr.1]; exact i.pr.1
  have HE := Lib.hid ea
  have HEb := Lib.hid eb
  have HEc := Lib.hid ec
  have HEd := Lib.hid ed
  clear B3 hb4 hX3 ea eb ec ed
  go_wp2_with (first
   | (guard_target =~ wpList _ _ _ _ _ _; refine wpList_store_at rfl 38 _ _ rfl w4.heap.size (r.vals g) (by kernel_rfl) (by kernel_rfl) rfl _ _ (by kernel_rfl) (by kernel_rfl) (by kernel_rfl) ?_
      have hA5 : Below w4.heap.size w4 (w4.alloc (.cells (r.vals g) 38)) := by go_grown
      have B5 : Blk (w4.alloc (.cells (r.vals g) 38)) w.heap.size 38 (r.vals h) := B4.alloc _
      have C5 : Blk (w4.alloc (.cells (r.vals g) 38)) w4.heap.size 38 (r.vals g) := Blk.new _ _ _
      obtain ⟨w5, hw5⟩ : ∃ w5 : World, w5 = w4.alloc (.cells (r.vals g) 38) := ⟨_, rfl⟩
      have hz5 : w5.heap.size = w4.heap.size + 1 := by rw [hw5]; simp
      rw [← hw5] at hA5 B5 C5 ⊢
      have hX5 := hX4.trans (hA5.mono hX4.size)
      have hl5 := C5.lt
      have hbl : w.heap.size < w4.heap.size := B4.lt
      have HZ5 := Lib.hid hz5
      clear hw5 B4 hz5
      have z5 : w5.cell? ⟨w4.heap.size, 21, none⟩ = some (.int .i64 r.st.f.w) := C5.cell 21
      have f5 : w5.frozen? ⟨w4.heap.size, 21, none⟩ = false := C5.frozen 21
      have C6 : Blk (w5.setCell ⟨w4.heap.size, 21, none⟩ (.int .i64 (-1))) w4.heap.size 38 ((badR 10 r).vals g) := C5.set_ 21 (.int .i64 (-1))
      have B6 : Blk (w5.setCell ⟨w4.heap.size, 21, none⟩ (.int .i64 (-1))) w.heap.size 38 (r.vals h) := B5.far (p := ⟨w4.heap.size, 21, none⟩) (by simp only; omega) _
      have hX6 : Below w.heap.size w (w5.setCell ⟨w4.heap.size, 21, none⟩ (.int .i64 (-1))) := hX5.setCell (p := ⟨w4.heap.size, 21, none⟩) (by simp only; omega) _
      have ig6 := ig.below (hA5.setCell (p := ⟨w4.heap.size, 21, none⟩) (Nat.le_refl _) (.int .i64 (-1)))
      have I6 : RcIn (w5.setCell ⟨w4.heap.size, 21, none⟩ (.int .i64 (-1))) (badR 10 r) g := ⟨ig6.rd, ig6.wr, ig6.ps, ig6.pr, ig6.hs, ig6.pn, ig6.na, ig6.nb, ig6.nc, ig6.nd, ig6.ne, ig6.nf⟩
      clear B5 C5 hX5 hA5 ig6)
   | (guard_target =~ wpList _ _ _ _ _ _; refine wpList_load_row rfl 38 (.tmp 5) rfl w4.heap.size (by kernel_rfl) _ _ (0, 0) _ C6 rfl rfl (by kernel_rfl) ?_))
  have smB : RcSm (badR 10 r) g := ⟨by have := HE.out; omega, by have := HEb.out; omega, by have := HEc.out; omega, by have := HEd.out; omega, sm.h, sm.p⟩
  refine (encode_bad (badR 10 r) g _ okB I6 smB hbad).mono ?_
  rintro e w7 ⟨A7, c7, rfl, q7, m7, o7, hb7⟩
  have B7 := B6.below hb7 B6.lt
  have C7 := C6.below hb7 C6.lt
  have hX7 := hX6.trans (hb7.mono hX6.size)
  have I7 := I6.below hb7
  clear B6 C6 hX6 hb7 I6 o7
  go_wp2_with (guard_target =~ wpList _ _ _ _ _ _; refine wpList_load_row rfl 38 (.tmp 2) rfl w.heap.size (by kernel_rfl) _ _ (0, 0) _ B7 rfl rfl (by kernel_rfl) ?_)
  refine (encode_any r h _ ok (i.below hX7) cp sm (by omega)).mono ?_
  rintro e w8 ⟨A8, c8, rfl, q8, m8, o8, hb8⟩
  have B8 := B7.below hb8 B7.lt
  have C8 := C7.below hb8 C7.lt
  have hX8 := hX7.trans (hb8.mono hX7.size)
  have I8 := I7.below hb8
  have R8 : Reads w8 w8.heap.size 1 A8 (encOut r).length (bytesV (encOut r)) := Reads.of_own o8
  clear B7 C7 hX7 hb8 I7 o8
  go_wp2_with (guard_target =~ wpList _ _ _ _ _ _; refine wpList_load_row rfl 38 (.tmp 2) rfl w.heap.size (by kernel_rfl) _ _ (0, 0) _ B8 rfl rfl (by kernel_rfl) ?_)
  refine (xEncode r h _ ok (i.below hX8) sm (by omega)).mono ?_
  rintro e w9 ⟨A9, c9, rfl, q9, m9, o9, hb9⟩
  have C9 := C8.below hb9 C8.lt
  have hX9 := hX8.trans (hb9.mono hX8.size)
  have I9 := I8.below hb9
  have R9 := (R8.below hb9).more hb9.size
  have S9 : Reads w9 w9.heap.size 1 A9 (encOut r).length (bytesV (encOut r)) := Reads.of_own o9
  clear B8 C8 hX8 hb9 I8 o9 R8
  go_wp2_with fail
  refine (first_any _).mono ?_
  rintro e x1 ⟨rfl, hc1⟩
  have C10 := C9.below hc1 C9.lt
  have hX10 := hX9.trans (hc1.mono hX9.size)
  have I10 := I9.below hc1
  have R10 := (R9.below hc1).more hc1.size
  have S10 := (S9.below hc1).more hc1.size
  clear C9 hX9 hc1 I9 R9 S9
  have hMB := recMay_any (badR 10 r) g x1 okB I10 smB
  rw [hbad] at hMB
  go_wp2_with (guard_target =~ wpList _ _ _ _ _ _; refine wpList_load_row_g (by kernel_rfl) 38 (.tmp 5) rfl w4.heap.size (by kernel_rfl) _ _ (0, 0) _ C10 rfl rfl (by kernel_rfl) ?_)
  refine hMB.mono ?_
  rintro e x2 ⟨rfl, hc2⟩
  have hX11 := hX10.trans (hc2.mono hX10.size)
  have R11 := (R10.below hc2).more hc2.size
  have S11 := (S10.below hc2).more hc2.size
  clear hMB hX10 hc2 R10 S10 C10 I10
  have hee : (encE r == encE r) = true := by simp
  have hEq := sbytes x2 (c := c8) (c' := c9) R11 S11
  rw [show (encOut r == encOut r) = true from by simp] at hEq
  go_wp2_with fail
  refine hEq.mono ?_
  rintro e x3 ⟨rfl, rfl⟩
  go_wp2
  go_ret
  exact ⟨rfl, hX11⟩
end Go.Proofs.YthdmanadhbpogaaGreat
