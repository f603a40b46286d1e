/- The walk of RecsOwn: a list with one element more. -/
import Derived.Test.YthdmanadhbpogaaGreatCaed
namespace Go.Proofs.YthdmanadhbpogaaGreat
set_option maxHeartbeats 8000000
set_option maxRecDepth 100000
set_option linter.unusedVariables false
open Go.RowKit Fl
attribute [local go_sem] run_store_float
theorem wt0_ok : (⟨⟨#[]⟩, ⟨0, 0, ⟨#[]⟩⟩⟩ : Wt).ok := ⟨Nat.zero_le _, (by unfold i64ok; omega : i64ok 0), Nat.succ_pos _, Nat.zero_le _⟩
theorem turn_5 (r : Rc) (h : Hds) (m : Int) (w : World) (ok : r.ok) (i : RcIn w r h) (cp : h.caps) (hw : weighRec 20000 r ≤ 20000) (hm : recMay r = 0) (hq : m.tmod 11 = 5 ∨ m.tmod 11 = -5) :
 Calls Tryz.prog 7 #[.agg (r.vals h), .int .i64 m] w fun e w' => e = .returned (.bool true) ∧ Below w.heap.size w w' := by
 have hX : Below w.heap.size w (w.alloc (.cells (r.vals h) 38)) := by go_grown
 have B0 : Blk (w.alloc (.cells (r.vals h) 38)) w.heap.size 38 (r.vals h) := Blk.new _ _ _
 obtain ⟨i0, hi0, hz0, hz1, hz2⟩ := info_parts ky_info
 obtain ⟨sm, hlen⟩ := rec_small ok i hw
 have hln := rec_lens i hw
 have hk : kindB r.k = true := by
  cases hq : kindB r.k
  · unfold recMay at hm; rw [hq] at hm; cases hm
  · rfl
 have hbad := own_bad 5 r hk
 have hF := few_any r h
 have hM := fun w' hi => recMay_any r h w' ok hi sm
 rw [decide_eq_true hw] at hF
 rw [hm] at hM
 have okB : (badR 5 r).ok := ⟨ok.k, ok.t, ok.s, ok.pv, ok.n, ok.pt, ok.rg, ok.fl, ok.cl⟩
 clear hw hm hk
 rcases hq with hq | hq
 all_goals
  go_enter Tryz.func7, Tryz.ntmps7
  go_wp2_with fail
  refine (first_any _).mono ?_
  rintro e w1 ⟨rfl, hb1⟩
  have B1 := B0.below hb1 B0.lt
  have hX1 := hX.trans (hb1.mono hX.size)
  clear B0 hb1 hX
  go_wp2_with (guard_target =~ wpList _ _ _ _ _ _; refine wpList_load_row rfl 38 (.tmp 2) rfl w.heap.size (by kernel_rfl) _ _ (0, 0) _ B1 rfl rfl (by kernel_rfl) ?_)
  refine (hF w1 (i.below hX1)).mono ?_
  rintro e w2 ⟨rfl, hb2⟩
  have B2 := B1.below hb2 B1.lt
  have hX2 := hX1.trans (hb2.mono hX1.size)
  clear B1 hb2 hX1 hF
  go_wp2_with (guard_target =~ wpList _ _ _ _ _ _; refine wpList_load_row_g (by kernel_rfl) 38 (.tmp 2) rfl w.heap.size (by kernel_rfl) _ _ (0, 0) _ B2 rfl rfl (by kernel_rfl) ?_)
  refine (hM w2 (i.below hX2)).mono ?_
  rintro e w3 ⟨rfl, hb3⟩
  have B3 := B2.below hb3 B2.lt
  have hX3 := hX2.trans (hb3.mono hX2.size)
  clear B2 hb3 hX2 hM
  go_wp2_with (guard_target =~ wpList _ _ _ _ _ _; refine wpList_load_row rfl 38 (.tmp 2) rfl w.heap.size (by kernel_rfl) _ _ (0, 0) _ B3 rfl rfl (by kernel_rfl) ?_)
  refine (copyRecO_any r h w3 (i.below hX3) sm).mono ?_
  rintro e w4 ⟨g, rfl, cg, ig, hb4, oa, ob, oc, od, ra, rb, rc, rd⟩
  have B4 := B3.below hb4 B3.lt
  have hbl3 : w.heap.size < w3.heap.size := B3.lt
  have hX4 := hX3.trans (hb4.mono hX3.size)
  have hbx : w3.heap.size ≤ w4.heap.size := hb4.size
  have ea : g.a.n = h.a.n := by rw [← ig.rd.1]; exact i.rd.1
  have eb : g.b.n = h.b.n := by rw [← ig.wr.1]; exact i.wr.1
  have ec : g.c.n = h.c.n := by rw [← ig.ps.1]; exact i.ps.1
  have ed : g.d.n = h.d.n := by rw [← ig.pr.1]; exact i.pr.1
  have HE := Lib.hid ea
  have HEb := Lib.hid eb
  have HEc := Lib.hid ec
  have HEd := Lib.hid ed
  clear B3 hb4 hX3 ea eb ec ed
  go_wp2_with (first
   | (guard_target =~ wpList _ _ _ _ _ _; refine wpList_store_at rfl 38 _ _ rfl w4.heap.size (r.vals g) (by kernel_rfl) (by kernel_rfl) rfl _ _ (by kernel_rfl) (by kernel_rfl) (by kernel_rfl) ?_
      have hA5 : Below w4.heap.size w4 (w4.alloc (.cells (r.vals g) 38)) := by go_grown
      have B5 : Blk (w4.alloc (.cells (r.vals g) 38)) w.heap.size 38 (r.vals h) := B4.alloc _
      have C5 : Blk (w4.alloc (.cells (r.vals g) 38)) w4.heap.size 38 (r.vals g) := Blk.new _ _ _
      obtain ⟨w5, hw5⟩ : ∃ w5 : World, w5 = w4.alloc (.cells (r.vals g) 38) := ⟨_, rfl⟩
      have hz5 : w5.heap.size = w4.heap.size + 1 := by rw [hw5]; simp
      rw [← hw5] at hA5 B5 C5 ⊢
      have hX5 := hX4.trans (hA5.mono hX4.size)
      have hl5 := C5.lt
      have hbl : w.heap.size < w4.heap.size := B4.lt
      have HZ5 := Lib.hid hz5
      clear hw5 B4 hz5
      have z5 : w5.cell? ⟨w4.heap.size, 13, none⟩ = some g.a.v := C5.cell 13
      have hX6a : Below w5.heap.size w5 (w5.alloc (.cells (keyCells (⟨#[]⟩ : ByteArray)).toArray 9)) := (Below.refl _ _).alloc (Nat.le_refl _) _
      have hown6 := (oa.below hA5).below hX6a
      have hrd6 := reads_new' w5 9 (keyCells (⟨#[]⟩ : ByteArray)) 1 rfl
      have hlq : r.rd.length ≤ 20000 := by have h1 := hln.1; rw [← i.rd.1] at h1; exact h1
      have hbs : w3.heap.size ≤ ((w5.alloc (.cells (keyCells (⟨#[]⟩ : ByteArray)).toArray 9))).heap.size := by have := HZ5.out; rw [World.size_alloc]; omega)
   | (at_builtin
      refine wpList_append_any _ rfl (.tmp 54) (.tmp 55) _ rfl w3.heap.size 9 i0 _ 1 16 Tryz.underlying27 hi0 hz0 hz1 hz2 rfl (by omega) g.a.v _ (r.rd.flatMap keyCells) (by rfl) hown6 _ (some ⟨w5.heap.size, 0, none⟩) 1 1 (keyCells (⟨#[]⟩ : ByteArray)) (by rfl) hrd6 (ky_one _) (by unfold maxLen; omega) (by omega) hbs ?_
      intro vq wq hownq hgq hatq
      obtain ⟨Aq, qq, rfl, hqq, hmq⟩ := own_form hownq
      have hne : some w4.heap.size ≠ g.a.v.ownBlock := fun e => by have := (oa.lt _ e.symm).2; omega
      have hne2 : some w.heap.size ≠ g.a.v.ownBlock := fun e => by have := (oa.lt _ e.symm).1; omega
      have Cq : Blk wq w4.heap.size 38 (r.vals g) := (C5.alloc _).grown hgq hne
      have Bq : Blk wq w.heap.size 38 (r.vals h) := (B5.alloc _).grown hgq hne2
      have zq : wq.cell? ⟨w4.heap.size, 13, none⟩ = some g.a.v := Cq.cell 13
      have fq : wq.frozen? ⟨w4.heap.size, 13, none⟩ = false := Cq.frozen 13
      have Pq := OwnL.push (⟨#[]⟩ : ByteArray) hownq
      have hvq : ((.slice Aq (r.rd.length + 1) qq) : Value).ownBlock ≠ some w4.heap.size := by
       intro e
       rcases hatq with h1 | h1
       · rw [h1] at e; exact hne e.symm
       · rw [h1] at e
         have e2 := Option.some.inj e
         rw [World.size_alloc] at e2
         have := HZ5.out
         omega
      have P8 := far_set (b := w4.heap.size) (i := 13) Pq hvq (.slice Aq (r.rd.length + 1) qq)
      have hW : Below w4.heap.size w4 (w5.alloc (.cells (keyCells (⟨#[]⟩ : ByteArray)).toArray 9)) := hA5.trans (hX6a.mono hA5.size)
      have R8 := ra _ (grown_of rfl hW hgq (p := ⟨w4.heap.size, 13, none⟩) (Nat.le_refl _) (.slice Aq (r.rd.length + 1) qq))
      have C6 : Blk (wq.setCell ⟨w4.heap.size, 13, none⟩ (.slice Aq (r.rd.length + 1) qq)) w4.heap.size 38 ((badR 5 r).vals { g with a := ⟨Aq, r.rd.length + 1, qq⟩ }) := Cq.set_ 13 (.slice Aq (r.rd.length + 1) qq)
      have B6 : Blk (wq.setCell ⟨w4.heap.size, 13, none⟩ (.slice Aq (r.rd.length + 1) qq)) w.heap.size 38 (r.vals h) := Bq.far (p := ⟨w4.heap.size, 13, none⟩) (by simp only; omega) _
      have hX6 : Below w.heap.size w (wq.setCell ⟨w4.heap.size, 13, none⟩ (.slice Aq (r.rd.length + 1) qq)) := ((hX5.trans (hX6a.mono hX5.size)).grown hgq (hX5.trans (hX6a.mono hX5.size)).size (fun q hq => by have := (oa.lt q hq).1; omega)).setCell (p := ⟨w4.heap.size, 13, none⟩) (by simp only; omega) _
      have S8 : Sl KyRel 1 (wq.setCell ⟨w4.heap.size, 13, none⟩ (.slice Aq (r.rd.length + 1) qq)) (wq.setCell ⟨w4.heap.size, 13, none⟩ (.slice Aq (r.rd.length + 1) qq)).heap.size Aq (r.rd.length + 1) (r.rd ++ [(⟨#[]⟩ : ByteArray)]) := (OwnL.sl (ok := fun k : ByteArray => k.size ≤ 140737488351232) (Nat.succ_pos 0) (fun a => rfl) P8 (fun a ha => by
       rcases List.mem_append.1 ha with ha | ha
       · obtain ⟨_, _, hok⟩ := i.rd.mem ha; exact hok
       · obtain rfl := List.mem_singleton.1 ha
         exact (by show 0 ≤ _; omega))).hd.1
      have I6 : RcIn (wq.setCell ⟨w4.heap.size, 13, none⟩ (.slice Aq (r.rd.length + 1) qq)) (badR 5 r) { g with a := ⟨Aq, r.rd.length + 1, qq⟩ } := ⟨S8, R8.wr, R8.ps, R8.pr, R8.hs, R8.pn, Nat.le_trans hqq hmq, R8.nb, R8.nc, R8.nd, R8.ne, R8.nf⟩
      clear B5 C5 hX5 hA5 hown6 hrd6 Pq P8 R8 S8 hW hownq hgq hatq hX6a Cq Bq hne hne2 hvq)
   | (guard_target =~ wpList _ _ _ _ _ _; refine wpList_load_row rfl 38 (.tmp 5) rfl w4.heap.size (by kernel_rfl) _ _ (0, 0) _ C6 rfl rfl (by kernel_rfl) ?_))
  have smB : RcSm (badR 5 r) { g with a := ⟨Aq, r.rd.length + 1, qq⟩ } := ⟨(by show r.rd.length + 1 ≤ 1000000; omega), (by show g.b.n ≤ 1000000; have := HEb.out; omega), (by show g.c.n ≤ 1000000; have := HEc.out; omega), (by show g.d.n ≤ 1000000; have := HEd.out; omega), sm.h, sm.p⟩
  refine (encode_bad (badR 5 r) { g with a := ⟨Aq, r.rd.length + 1, qq⟩ } _ okB I6 smB hbad).mono ?_
  rintro e w7 ⟨A7, c7, rfl, q7, m7, o7, hb7⟩
  have B7 := B6.below hb7 B6.lt
  have C7 := C6.below hb7 C6.lt
  have hX7 := hX6.trans (hb7.mono hX6.size)
  have I7 := I6.below hb7
  clear B6 C6 hX6 hb7 I6 o7
  go_wp2_with (guard_target =~ wpList _ _ _ _ _ _; refine wpList_load_row rfl 38 (.tmp 2) rfl w.heap.size (by kernel_rfl) _ _ (0, 0) _ B7 rfl rfl (by kernel_rfl) ?_)
  refine (encode_any r h _ ok (i.below hX7) cp sm (by omega)).mono ?_
  rintro e w8 ⟨A8, c8, rfl, q8, m8, o8, hb8⟩
  have B8 := B7.below hb8 B7.lt
  have C8 := C7.below hb8 C7.lt
  have hX8 := hX7.trans (hb8.mono hX7.size)
  have I8 := I7.below hb8
  have R8 : Reads w8 w8.heap.size 1 A8 (encOut r).length (bytesV (encOut r)) := Reads.of_own o8
  clear B7 C7 hX7 hb8 I7 o8
  go_wp2_with (guard_target =~ wpList _ _ _ _ _ _; refine wpList_load_row rfl 38 (.tmp 2) rfl w.heap.size (by kernel_rfl) _ _ (0, 0) _ B8 rfl rfl (by kernel_rfl) ?_)
  refine (xEncode r h _ ok (i.below hX8) sm (by omega)).mono ?_
  rintro e w9 ⟨A9, c9, rfl, q9, m9, o9, hb9⟩
  have C9 := C8.below hb9 C8.lt
  have hX9 := hX8.trans (hb9.mono hX8.size)
  have I9 := I8.below hb9
  have R9 := (R8.below hb9).more hb9.size
  have S9 : Reads w9 w9.heap.size 1 A9 (encOut r).length (bytesV (encOut r)) := Reads.of_own o9
  clear B8 C8 hX8 hb9 I8 o9 R8
  go_wp2_with fail
  refine (first_any _).mono ?_
  rintro e x1 ⟨rfl, hc1⟩
  have C10 := C9.below hc1 C9.lt
  have hX10 := hX9.trans (hc1.mono hX9.size)
  have I10 := I9.below hc1
  have R10 := (R9.below hc1).more hc1.size
  have S10 := (S9.below hc1).more hc1.size
  clear C9 hX9 hc1 I9 R9 S9
  have hMB := recMay_any (badR 5 r) { g with a := ⟨Aq, r.rd.length + 1, qq⟩ } x1 okB I10 smB
  rw [hbad] at hMB
  go_wp2_with (guard_target =~ wpList _ _ _ _ _ _; refine wpList_load_row_g (by kernel_rfl) 38 (.tmp 5) rfl w4.heap.size (by kernel_rfl) _ _ (0, 0) _ C10 rfl rfl (by kernel_rfl) ?_)
  refine hMB.mono ?_
  rintro e x2 ⟨rfl, hc2⟩
  have hX11 := hX10.trans (hc2.mono hX10.size)
  have R11 := (R10.below hc2).more hc2.size
  have S11 := (S10.below hc2).more hc2.size
  clear hMB hX10 hc2 R10 S10 C10 I10
  have hee : (encE r == encE r) = true := by simp
  have hEq := sbytes x2 (c := c8) (c' := c9) R11 S11
  rw [show (encOut r == encOut r) = true from by simp] at hEq
  go_wp2_with fail
  refine hEq.mono ?_
  rintro e x3 ⟨rfl, rfl⟩
  go_wp2
  go_ret
  exact ⟨rfl, hX11⟩
theorem turn_6 (r : Rc) (h : Hds) (m : Int) (w : World) (ok : r.ok) (i : RcIn w r h) (cp : h.caps) (hw : weighRec 20000 r ≤ 20000) (hm : recMay r = 0) (hq : m.tmod 11 = 6 ∨ m.tmod 11 = -6) :
 Calls Tryz.prog 7 #[.agg (r.vals h), .int .i64 m] w fun e w' => e = .returned (.bool true) ∧ Below w.heap.size w w' := by
 have hX : Below w.heap.size w (w.alloc (.cells (r.vals h) 38)) := by go_grown
 have B0 : Blk (w.alloc (.cells (r.vals h) 38)) w.heap.size 38 (r.vals h) := Blk.new _ _ _
 obtain ⟨i0, hi0, hz0, hz1, hz2⟩ := info_parts wt_info
 obtain ⟨sm, hlen⟩ := rec_small ok i hw
 have hln := rec_lens i hw
 have hk : kindB r.k = true := by
  cases hq : kindB r.k
  · unfold recMay at hm; rw [hq] at hm; cases hm
  · rfl
 have hbad := own_bad 6 r hk
 have hF := few_any r h
 have hM := fun w' hi => recMay_any r h w' ok hi sm
 rw [decide_eq_true hw] at hF
 rw [hm] at hM
 have okB : (badR 6 r).ok := ⟨ok.k, ok.t, ok.s, ok.pv, ok.n, ok.pt, ok.rg, ok.fl, ok.cl⟩
 clear hw hm hk
 rcases hq with hq | hq
 all_goals
  go_enter Tryz.func7, Tryz.ntmps7
  go_wp2_with fail
  refine (first_any _).mono ?_
  rintro e w1 ⟨rfl, hb1⟩
  have B1 := B0.below hb1 B0.lt
  have hX1 := hX.trans (hb1.mono hX.size)
  clear B0 hb1 hX
  go_wp2_with (guard_target =~ wpList _ _ _ _ _ _; refine wpList_load_row rfl 38 (.tmp 2) rfl w.heap.size (by kernel_rfl) _ _ (0, 0) _ B1 rfl rfl (by kernel_rfl) ?_)
  refine (hF w1 (i.below hX1)).mono ?_
  rintro e w2 ⟨rfl, hb2⟩
  have B2 := B1.below hb2 B1.lt
  have hX2 := hX1.trans (hb2.mono hX1.size)
  clear B1 hb2 hX1 hF
  go_wp2_with (guard_target =~ wpList _ _ _ _ _ _; refine wpList_load_row_g (by kernel_rfl) 38 (.tmp 2) rfl w.heap.size (by kernel_rfl) _ _ (0, 0) _ B2 rfl rfl (by kernel_rfl) ?_)
  refine (hM w2 (i.below hX2)).mono ?_
  rintro e w3 ⟨rfl, hb3⟩
  have B3 := B2.below hb3 B2.lt
  have hX3 := hX2.trans (hb3.mono hX2.size)
  clear B2 hb3 hX2 hM
  go_wp2_with (guard_target =~ wpList _ _ _ _ _ _; refine wpList_load_row rfl 38 (.tmp 2) rfl w.heap.size (by kernel_rfl) _ _ (0, 0) _ B3 rfl rfl (by kernel_rfl) ?_)
  refine (copyRecO_any r h w3 (i.below hX3) sm).mono ?_
  rintro e w4 ⟨g, rfl, cg, ig, hb4, oa, ob, oc, od, ra, rb, rc, rd⟩
  have B4 := B3.below hb4 B3.lt
  have hbl3 : w.heap.size < w3.heap.size := B3.lt
  have hX4 := hX3.trans (hb4.mono hX3.size)
  have hbx : w3.heap.size ≤ w4.heap.size := hb4.size
  have ea : g.a.n = h.a.n := by rw [← ig.rd.1]; exact i.rd.1
  have eb : g.b.n = h.b.n := by rw [← ig.wr.1]; exact i.wr.1
  have ec : g.c.n = h.c.n := by rw [← ig.ps.1]; exact i.ps.1
  have ed : g.d.n = h.d.n := by rw [← ig.pr.1]; exact i.pr.1
  have HE := Lib.hid ea
  have HEb := Lib.hid eb
  have HEc := Lib.hid ec
  have HEd := Lib.hid ed
  clear B3 hb4 hX3 ea eb ec ed
  go_wp2_with (first
   | (guard_target =~ wpList _ _ _ _ _ _; refine wpList_store_at rfl 38 _ _ rfl w4.heap.size (r.vals g) (by kernel_rfl) (by kernel_rfl) rfl _ _ (by kernel_rfl) (by kernel_rfl) (by kernel_rfl) ?_
      have hA5 : Below w4.heap.size w4 (w4.alloc (.cells (r.vals g) 38)) := by go_grown
      have B5 : Blk (w4.alloc (.cells (r.vals g) 38)) w.heap.size 38 (r.vals h) := B4.alloc _
      have C5 : Blk (w4.alloc (.cells (r.vals g) 38)) w4.heap.size 38 (r.vals g) := Blk.new _ _ _
      obtain ⟨w5, hw5⟩ : ∃ w5 : World, w5 = w4.alloc (.cells (r.vals g) 38) := ⟨_, rfl⟩
      have hz5 : w5.heap.size = w4.heap.size + 1 := by rw [hw5]; simp
      rw [← hw5] at hA5 B5 C5 ⊢
      have hX5 := hX4.trans (hA5.mono hX4.size)
      have hl5 := C5.lt
      have hbl : w.heap.size < w4.heap.size := B4.lt
      have HZ5 := Lib.hid hz5
      clear hw5 B4 hz5
      have z5 : w5.cell? ⟨w4.heap.size, 14, none⟩ = some g.b.v := C5.cell 14
      have hX6a : Below w5.heap.size w5 (w5.alloc (.cells (Wt.cells (⟨⟨#[]⟩, ⟨0, 0, ⟨#[]⟩⟩⟩ : Wt)).toArray 60)) := (Below.refl _ _).alloc (Nat.le_refl _) _
      have hown6 := (ob.below hA5).below hX6a
      have hrd6 := reads_new' w5 60 (Wt.cells (⟨⟨#[]⟩, ⟨0, 0, ⟨#[]⟩⟩⟩ : Wt)) 4 rfl
      have hlq : r.wr.length ≤ 20000 := by have h1 := hln.2.1; rw [← i.wr.1] at h1; exact h1
      have hbs : w3.heap.size ≤ ((w5.alloc (.cells (Wt.cells (⟨⟨#[]⟩, ⟨0, 0, ⟨#[]⟩⟩⟩ : Wt)).toArray 60))).heap.size := by have := HZ5.out; rw [World.size_alloc]; omega)
   | (at_builtin
      refine wpList_append_any _ rfl (.tmp 61) (.tmp 63) _ rfl w3.heap.size 60 i0 _ 4 48 Tryz.underlying28 hi0 hz0 hz1 hz2 rfl (by omega) g.b.v _ (r.wr.flatMap Wt.cells) (by rfl) hown6 _ (some ⟨w5.heap.size, 0, none⟩) 1 1 (Wt.cells (⟨⟨#[]⟩, ⟨0, 0, ⟨#[]⟩⟩⟩ : Wt)) (by rfl) hrd6 (wt_one _) (by unfold maxLen; omega) (by omega) hbs ?_
      intro vq wq hownq hgq hatq
      obtain ⟨Aq, qq, rfl, hqq, hmq⟩ := own_form hownq
      have hne : some w4.heap.size ≠ g.b.v.ownBlock := fun e => by have := (ob.lt _ e.symm).2; omega
      have hne2 : some w.heap.size ≠ g.b.v.ownBlock := fun e => by have := (ob.lt _ e.symm).1; omega
      have Cq : Blk wq w4.heap.size 38 (r.vals g) := (C5.alloc _).grown hgq hne
      have Bq : Blk wq w.heap.size 38 (r.vals h) := (B5.alloc _).grown hgq hne2
      have zq : wq.cell? ⟨w4.heap.size, 14, none⟩ = some g.b.v := Cq.cell 14
      have fq : wq.frozen? ⟨w4.heap.size, 14, none⟩ = false := Cq.frozen 14
      have Pq := OwnL.push (⟨⟨#[]⟩, ⟨0, 0, ⟨#[]⟩⟩⟩ : Wt) hownq
      have hvq : ((.slice Aq (r.wr.length + 1) qq) : Value).ownBlock ≠ some w4.heap.size := by
       intro e
       rcases hatq with h1 | h1
       · rw [h1] at e; exact hne e.symm
       · rw [h1] at e
         have e2 := Option.some.inj e
         rw [World.size_alloc] at e2
         have := HZ5.out
         omega
      have P8 := far_set (b := w4.heap.size) (i := 14) Pq hvq (.slice Aq (r.wr.length + 1) qq)
      have hW : Below w4.heap.size w4 (w5.alloc (.cells (Wt.cells (⟨⟨#[]⟩, ⟨0, 0, ⟨#[]⟩⟩⟩ : Wt)).toArray 60)) := hA5.trans (hX6a.mono hA5.size)
      have R8 := rb _ (grown_of rfl hW hgq (p := ⟨w4.heap.size, 14, none⟩) (Nat.le_refl _) (.slice Aq (r.wr.length + 1) qq))
      have C6 : Blk (wq.setCell ⟨w4.heap.size, 14, none⟩ (.slice Aq (r.wr.length + 1) qq)) w4.heap.size 38 ((badR 6 r).vals { g with b := ⟨Aq, r.wr.length + 1, qq⟩ }) := Cq.set_ 14 (.slice Aq (r.wr.length + 1) qq)
      have B6 : Blk (wq.setCell ⟨w4.heap.size, 14, none⟩ (.slice Aq (r.wr.length + 1) qq)) w.heap.size 38 (r.vals h) := Bq.far (p := ⟨w4.heap.size, 14, none⟩) (by simp only; omega) _
      have hX6 : Below w.heap.size w (wq.setCell ⟨w4.heap.size, 14, none⟩ (.slice Aq (r.wr.length + 1) qq)) := ((hX5.trans (hX6a.mono hX5.size)).grown hgq (hX5.trans (hX6a.mono hX5.size)).size (fun q hq => by have := (ob.lt q hq).1; omega)).setCell (p := ⟨w4.heap.size, 14, none⟩) (by simp only; omega) _
      have S8 : Sl WtRel 4 (wq.setCell ⟨w4.heap.size, 14, none⟩ (.slice Aq (r.wr.length + 1) qq)) (wq.setCell ⟨w4.heap.size, 14, none⟩ (.slice Aq (r.wr.length + 1) qq)).heap.size Aq (r.wr.length + 1) (r.wr ++ [(⟨⟨#[]⟩, ⟨0, 0, ⟨#[]⟩⟩⟩ : Wt)]) := (OwnL.sl (ok := Wt.ok) (Nat.succ_pos 3) (fun a => rfl) P8 (fun a ha => by
       rcases List.mem_append.1 ha with ha | ha
       · obtain ⟨_, _, hok⟩ := i.wr.mem ha; exact hok
       · obtain rfl := List.mem_singleton.1 ha
         exact wt0_ok)).hd.1
      have I6 : RcIn (wq.setCell ⟨w4.heap.size, 14, none⟩ (.slice Aq (r.wr.length + 1) qq)) (badR 6 r) { g with b := ⟨Aq, r.wr.length + 1, qq⟩ } := ⟨R8.rd, S8, R8.ps, R8.pr, R8.hs, R8.pn, R8.na, Nat.le_trans hqq hmq, R8.nc, R8.nd, R8.ne, R8.nf⟩
      clear B5 C5 hX5 hA5 hown6 hrd6 Pq P8 R8 S8 hW hownq hgq hatq hX6a Cq Bq hne hne2 hvq)
   | (guard_target =~ wpList _ _ _ _ _ _; refine wpList_load_row rfl 38 (.tmp 5) rfl w4.heap.size (by kernel_rfl) _ _ (0, 0) _ C6 rfl rfl (by kernel_rfl) ?_))
  have smB : RcSm (badR 6 r) { g with b := ⟨Aq, r.wr.length + 1, qq⟩ } := ⟨(by show g.a.n ≤ 1000000; have := HE.out; omega), (by show r.wr.length + 1 ≤ 1000000; omega), (by show g.c.n ≤ 1000000; have := HEc.out; omega), (by show g.d.n ≤ 1000000; have := HEd.out; omega), sm.h, sm.p⟩
  refine (encode_bad (badR 6 r) { g with b := ⟨Aq, r.wr.length + 1, qq⟩ } _ okB I6 smB hbad).mono ?_
  rintro e w7 ⟨A7, c7, rfl, q7, m7, o7, hb7⟩
  have B7 := B6.below hb7 B6.lt
  have C7 := C6.below hb7 C6.lt
  have hX7 := hX6.trans (hb7.mono hX6.size)
  have I7 := I6.below hb7
  clear B6 C6 hX6 hb7 I6 o7
  go_wp2_with (guard_target =~ wpList _ _ _ _ _ _; refine wpList_load_row rfl 38 (.tmp 2) rfl w.heap.size (by kernel_rfl) _ _ (0, 0) _ B7 rfl rfl (by kernel_rfl) ?_)
  refine (encode_any r h _ ok (i.below hX7) cp sm (by omega)).mono ?_
  rintro e w8 ⟨A8, c8, rfl, q8, m8, o8, hb8⟩
  have B8 := B7.below hb8 B7.lt
  have C8 := C7.below hb8 C7.lt
  have hX8 := hX7.trans (hb8.mono hX7.size)
  have I8 := I7.below hb8
  have R8 : Reads w8 w8.heap.size 1 A8 (encOut r).length (bytesV (encOut r)) := Reads.of_own o8
  clear B7 C7 hX7 hb8 I7 o8
  go_wp2_with (guard_target =~ wpList _ _ _ _ _ _; refine wpList_load_row rfl 38 (.tmp 2) rfl w.heap.size (by kernel_rfl) _ _ (0, 0) _ B8 rfl rfl (by kernel_rfl) ?_)
  refine (xEncode r h _ ok (i.below hX8) sm (by omega)).mono ?_
  rintro e w9 ⟨A9, c9, rfl, q9, m9, o9, hb9⟩
  have C9 := C8.below hb9 C8.lt
  have hX9 := hX8.trans (hb9.mono hX8.size)
  have I9 := I8.below hb9
  have R9 := (R8.below hb9).more hb9.size
  have S9 : Reads w9 w9.heap.size 1 A9 (encOut r).length (bytesV (encOut r)) := Reads.of_own o9
  clear B8 C8 hX8 hb9 I8 o9 R8
  go_wp2_with fail
  refine (first_any _).mono ?_
  rintro e x1 ⟨rfl, hc1⟩
  have C10 := C9.below hc1 C9.lt
  have hX10 := hX9.trans (hc1.mono hX9.size)
  have I10 := I9.below hc1
  have R10 := (R9.below hc1).more hc1.size
  have S10 := (S9.below hc1).more hc1.size
  clear C9 hX9 hc1 I9 R9 S9
  have hMB := recMay_any (badR 6 r) { g with b := ⟨Aq, r.wr.length + 1, qq⟩ } x1 okB I10 smB
  rw [hbad] at hMB
  go_wp2_with (guard_target =~ wpList _ _ _ _ _ _; refine wpList_load_row_g (by kernel_rfl) 38 (.tmp 5) rfl w4.heap.size (by kernel_rfl) _ _ (0, 0) _ C10 rfl rfl (by kernel_rfl) ?_)
  refine hMB.mono ?_
  rintro e x2 ⟨rfl, hc2⟩
  have hX11 := hX10.trans (hc2.mono hX10.size)
  have R11 := (R10.below hc2).more hc2.size
  have S11 := (S10.below hc2).more hc2.size
  clear hMB hX10 hc2 R10 S10 C10 I10
  have hee : (encE r == encE r) = true := by simp
  have hEq := sbytes x2 (c := c8) (c' := c9) R11 S11
  rw [show (encOut r == encOut r) = true from by simp] at hEq
  go_wp2_with fail
  refine hEq.mono ?_
  rintro e x3 ⟨rfl, rfl⟩
  go_wp2
  go_ret
  exact ⟨rfl, hX11⟩
theorem turn_7 (r : Rc) (h : Hds) (m : Int) (w : World) (ok : r.ok) (i : RcIn w r h) (cp : h.caps) (hw : weighRec 20000 r ≤ 20000) (hm : recMay r = 0) (hq : m.tmod 11 = 7 ∨ m.tmod 11 = -7) :
 Calls Tryz.prog 7 #[.agg (r.vals h), .int .i64 m] w fun e w' => e = .returned (.bool true) ∧ Below w.heap.size w w' := by
 have hX : Below w.heap.size w (w.alloc (.cells (r.vals h) 38)) := by go_grown
 have B0 : Blk (w.alloc (.cells (r.vals h) 38)) w.heap.size 38 (r.vals h) := Blk.new _ _ _
 obtain ⟨i0, hi0, hz0, hz1, hz2⟩ := info_parts nm_info
 obtain ⟨sm, hlen⟩ := rec_small ok i hw
 have hln := rec_lens i hw
 have hk : kindB r.k = true := by
  cases hq : kindB r.k
  · unfold recMay at hm; rw [hq] at hm; cases hm
  · rfl
 have hbad := own_bad 7 r hk
 have hF := few_any r h
 have hM := fun w' hi => recMay_any r h w' ok hi sm
 rw [decide_eq_true hw] at hF
 rw [hm] at hM
 have okB : (badR 7 r).ok := ⟨ok.k, ok.t, ok.s, ok.pv, ok.n, ok.pt, ok.rg, ok.fl, ok.cl⟩
 clear hw hm hk
 rcases hq with hq | hq
 all_goals
  go_enter Tryz.func7, Tryz.ntmps7
  go_wp2_with fail
  refine (first_any _).mono ?_
  rintro e w1 ⟨rfl, hb1⟩
  have B1 := B0.below hb1 B0.lt
  have hX1 := hX.trans (hb1.mono hX.size)
  clear B0 hb1 hX
  go_wp2_with (guard_target =~ wpList _ _ _ _ _ _; refine wpList_load_row rfl 38 (.tmp 2) rfl w.heap.size (by kernel_rfl) _ _ (0, 0) _ B1 rfl rfl (by kernel_rfl) ?_)
  refine (hF w1 (i.below hX1)).mono ?_
  rintro e w2 ⟨rfl, hb2⟩
  have B2 := B1.below hb2 B1.lt
  have hX2 := hX1.trans (hb2.mono hX1.size)
  clear B1 hb2 hX1 hF
  go_wp2_with (guard_target =~ wpList _ _ _ _ _ _; refine wpList_load_row_g (by kernel_rfl) 38 (.tmp 2) rfl w.heap.size (by kernel_rfl) _ _ (0, 0) _ B2 rfl rfl (by kernel_rfl) ?_)
  refine (hM w2 (i.below hX2)).mono ?_
  rintro e w3 ⟨rfl, hb3⟩
  have B3 := B2.below hb3 B2.lt
  have hX3 := hX2.trans (hb3.mono hX2.size)
  clear B2 hb3 hX2 hM
  go_wp2_with (guard_target =~ wpList _ _ _ _ _ _; refine wpList_load_row rfl 38 (.tmp 2) rfl w.heap.size (by kernel_rfl) _ _ (0, 0) _ B3 rfl rfl (by kernel_rfl) ?_)
  refine (copyRecO_any r h w3 (i.below hX3) sm).mono ?_
  rintro e w4 ⟨g, rfl, cg, ig, hb4, oa, ob, oc, od, ra, rb, rc, rd⟩
  have B4 := B3.below hb4 B3.lt
  have hbl3 : w.heap.size < w3.heap.size := B3.lt
  have hX4 := hX3.trans (hb4.mono hX3.size)
  have hbx : w3.heap.size ≤ w4.heap.size := hb4.size
  have ea : g.a.n = h.a.n := by rw [← ig.rd.1]; exact i.rd.1
  have eb : g.b.n = h.b.n := by rw [← ig.wr.1]; exact i.wr.1
  have ec : g.c.n = h.c.n := by rw [← ig.ps.1]; exact i.ps.1
  have ed : g.d.n = h.d.n := by rw [← ig.pr.1]; exact i.pr.1
  have HE := Lib.hid ea
  have HEb := Lib.hid eb
  have HEc := Lib.hid ec
  have HEd := Lib.hid ed
  clear B3 hb4 hX3 ea eb ec ed
  go_wp2_with (first
   | (guard_target =~ wpList _ _ _ _ _ _; refine wpList_store_at rfl 38 _ _ rfl w4.heap.size (r.vals g) (by kernel_rfl) (by kernel_rfl) rfl _ _ (by kernel_rfl) (by kernel_rfl) (by kernel_rfl) ?_
      have hA5 : Below w4.heap.size w4 (w4.alloc (.cells (r.vals g) 38)) := by go_grown
      have B5 : Blk (w4.alloc (.cells (r.vals g) 38)) w.heap.size 38 (r.vals h) := B4.alloc _
      have C5 : Blk (w4.alloc (.cells (r.vals g) 38)) w4.heap.size 38 (r.vals g) := Blk.new _ _ _
      obtain ⟨w5, hw5⟩ : ∃ w5 : World, w5 = w4.alloc (.cells (r.vals g) 38) := ⟨_, rfl⟩
      have hz5 : w5.heap.size = w4.heap.size + 1 := by rw [hw5]; simp
      rw [← hw5] at hA5 B5 C5 ⊢
      have hX5 := hX4.trans (hA5.mono hX4.size)
      have hl5 := C5.lt
      have hbl : w.heap.size < w4.heap.size := B4.lt
      have HZ5 := Lib.hid hz5
      clear hw5 B4 hz5
      have z5 : w5.cell? ⟨w4.heap.size, 15, none⟩ = some g.c.v := C5.cell 15
      have hX6a : Below w5.heap.size w5 (w5.alloc (.cells (nmCells (0 : Int)).toArray 3)) := (Below.refl _ _).alloc (Nat.le_refl _) _
      have hown6 := (oc.below hA5).below hX6a
      have hrd6 := reads_new' w5 3 (nmCells (0 : Int)) 1 rfl
      have hlq : r.ps.length ≤ 20000 := by have h1 := hln.2.2.1; rw [← i.ps.1] at h1; exact h1
      have hbs : w3.heap.size ≤ ((w5.alloc (.cells (nmCells (0 : Int)).toArray 3))).heap.size := by have := HZ5.out; rw [World.size_alloc]; omega)
   | (at_builtin
      refine wpList_append_any _ rfl (.tmp 69) (.tmp 70) _ rfl w3.heap.size 3 i0 _ 1 8 Tryz.underlying29 hi0 hz0 hz1 hz2 rfl (by omega) g.c.v _ (r.ps.flatMap nmCells) (by rfl) hown6 _ (some ⟨w5.heap.size, 0, none⟩) 1 1 (nmCells (0 : Int)) (by rfl) hrd6 (nm_one _) (by unfold maxLen; omega) (by omega) hbs ?_
      intro vq wq hownq hgq hatq
      obtain ⟨Aq, qq, rfl, hqq, hmq⟩ := own_form hownq
      have hne : some w4.heap.size ≠ g.c.v.ownBlock := fun e => by have := (oc.lt _ e.symm).2; omega
      have hne2 : some w.heap.size ≠ g.c.v.ownBlock := fun e => by have := (oc.lt _ e.symm).1; omega
      have Cq : Blk wq w4.heap.size 38 (r.vals g) := (C5.alloc _).grown hgq hne
      have Bq : Blk wq w.heap.size 38 (r.vals h) := (B5.alloc _).grown hgq hne2
      have zq : wq.cell? ⟨w4.heap.size, 15, none⟩ = some g.c.v := Cq.cell 15
      have fq : wq.frozen? ⟨w4.heap.size, 15, none⟩ = false := Cq.frozen 15
      have Pq := OwnL.push (0 : Int) hownq
      have hvq : ((.slice Aq (r.ps.length + 1) qq) : Value).ownBlock ≠ some w4.heap.size := by
       intro e
       rcases hatq with h1 | h1
       · rw [h1] at e; exact hne e.symm
       · rw [h1] at e
         have e2 := Option.some.inj e
         rw [World.size_alloc] at e2
         have := HZ5.out
         omega
      have P8 := far_set (b := w4.heap.size) (i := 15) Pq hvq (.slice Aq (r.ps.length + 1) qq)
      have hW : Below w4.heap.size w4 (w5.alloc (.cells (nmCells (0 : Int)).toArray 3)) := hA5.trans (hX6a.mono hA5.size)
      have R8 := rc _ (grown_of rfl hW hgq (p := ⟨w4.heap.size, 15, none⟩) (Nat.le_refl _) (.slice Aq (r.ps.length + 1) qq))
      have C6 : Blk (wq.setCell ⟨w4.heap.size, 15, none⟩ (.slice Aq (r.ps.length + 1) qq)) w4.heap.size 38 ((badR 7 r).vals { g with c := ⟨Aq, r.ps.length + 1, qq⟩ }) := Cq.set_ 15 (.slice Aq (r.ps.length + 1) qq)
      have B6 : Blk (wq.setCell ⟨w4.heap.size, 15, none⟩ (.slice Aq (r.ps.length + 1) qq)) w.heap.size 38 (r.vals h) := Bq.far (p := ⟨w4.heap.size, 15, none⟩) (by simp only; omega) _
      have hX6 : Below w.heap.size w (wq.setCell ⟨w4.heap.size, 15, none⟩ (.slice Aq (r.ps.length + 1) qq)) := ((hX5.trans (hX6a.mono hX5.size)).grown hgq (hX5.trans (hX6a.mono hX5.size)).size (fun q hq => by have := (oc.lt q hq).1; omega)).setCell (p := ⟨w4.heap.size, 15, none⟩) (by simp only; omega) _
      have S8 : Sl NmRel 1 (wq.setCell ⟨w4.heap.size, 15, none⟩ (.slice Aq (r.ps.length + 1) qq)) (wq.setCell ⟨w4.heap.size, 15, none⟩ (.slice Aq (r.ps.length + 1) qq)).heap.size Aq (r.ps.length + 1) (r.ps ++ [(0 : Int)]) := (OwnL.sl (ok := i64ok) (Nat.succ_pos 0) (fun a => rfl) P8 (fun a ha => by
       rcases List.mem_append.1 ha with ha | ha
       · obtain ⟨_, _, hok⟩ := i.ps.mem ha; exact hok
       · obtain rfl := List.mem_singleton.1 ha
         exact (by unfold i64ok; omega))).hd.1
      have I6 : RcIn (wq.setCell ⟨w4.heap.size, 15, none⟩ (.slice Aq (r.ps.length + 1) qq)) (badR 7 r) { g with c := ⟨Aq, r.ps.length + 1, qq⟩ } := ⟨R8.rd, R8.wr, S8, R8.pr, R8.hs, R8.pn, R8.na, R8.nb, Nat.le_trans hqq hmq, R8.nd, R8.ne, R8.nf⟩
      clear B5 C5 hX5 hA5 hown6 hrd6 Pq P8 R8 S8 hW hownq hgq hatq hX6a Cq Bq hne hne2 hvq)
   | (guard_target =~ wpList _ _ _ _ _ _; refine wpList_load_row rfl 38 (.tmp 5) rfl w4.heap.size (by kernel_rfl) _ _ (0, 0) _ C6 rfl rfl (by kernel_rfl) ?_))
  have smB : RcSm (badR 7 r) { g with c := ⟨Aq, r.ps.length + 1, qq⟩ } := ⟨(by show g.a.n ≤ 1000000; have := HE.out; omega), (by show g.b.n ≤ 1000000; have := HEb.out; omega), (by show r.ps.length + 1 ≤ 1000000; omega), (by show g.d.n ≤ 1000000; have := HEd.out; omega), sm.h, sm.p⟩
  refine (encode_bad (badR 7 r) { g with c := ⟨Aq, r.ps.length + 1, qq⟩ } _ okB I6 smB hbad).mono ?_
  rintro e w7 ⟨A7, c7, rfl, q7, m7, o7, hb7⟩
  have B7 := B6.below hb7 B6.lt
  have C7 := C6.below hb7 C6.lt
  have hX7 := hX6.trans (hb7.mono hX6.size)
  have I7 := I6.below hb7
  clear B6 C6 hX6 hb7 I6 o7
  go_wp2_with (guard_target =~ wpList _ _ _ _ _ _; refine wpList_load_row rfl 38 (.tmp 2) rfl w.heap.size (by kernel_rfl) _ _ (0, 0) _ B7 rfl rfl (by kernel_rfl) ?_)
  refine (encode_any r h _ ok (i.below hX7) cp sm (by omega)).mono ?_
  rintro e w8 ⟨A8, c8, rfl, q8, m8, o8, hb8⟩
  have B8 := B7.below hb8 B7.lt
  have C8 := C7.below hb8 C7.lt
  have hX8 := hX7.trans (hb8.mono hX7.size)
  have I8 := I7.below hb8
  have R8 : Reads w8 w8.heap.size 1 A8 (encOut r).length (bytesV (encOut r)) := Reads.of_own o8
  clear B7 C7 hX7 hb8 I7 o8
  go_wp2_with (guard_target =~ wpList _ _ _ _ _ _; refine wpList_load_row rfl 38 (.tmp 2) rfl w.heap.size (by kernel_rfl) _ _ (0, 0) _ B8 rfl rfl (by kernel_rfl) ?_)
  refine (xEncode r h _ ok (i.below hX8) sm (by omega)).mono ?_
  rintro e w9 ⟨A9, c9, rfl, q9, m9, o9, hb9⟩
  have C9 := C8.below hb9 C8.lt
  have hX9 := hX8.trans (hb9.mono hX8.size)
  have I9 := I8.below hb9
  have R9 := (R8.below hb9).more hb9.size
  have S9 : Reads w9 w9.heap.size 1 A9 (encOut r).length (bytesV (encOut r)) := Reads.of_own o9
  clear B8 C8 hX8 hb9 I8 o9 R8
  go_wp2_with fail
  refine (first_any _).mono ?_
  rintro e x1 ⟨rfl, hc1⟩
  have C10 := C9.below hc1 C9.lt
  have hX10 := hX9.trans (hc1.mono hX9.size)
  have I10 := I9.below hc1
  have R10 := (R9.below hc1).more hc1.size
  have S10 := (S9.below hc1).more hc1.size
  clear C9 hX9 hc1 I9 R9 S9
  have hMB := recMay_any (badR 7 r) { g with c := ⟨Aq, r.ps.length + 1, qq⟩ } x1 okB I10 smB
  rw [hbad] at hMB
  go_wp2_with (guard_target =~ wpList _ _ _ _ _ _; refine wpList_load_row_g (by kernel_rfl) 38 (.tmp 5) rfl w4.heap.size (by kernel_rfl) _ _ (0, 0) _ C10 rfl rfl (by kernel_rfl) ?_)
  refine hMB.mono ?_
  rintro e x2 ⟨rfl, hc2⟩
  have hX11 := hX10.trans (hc2.mono hX10.size)
  have R11 := (R10.below hc2).more hc2.size
  have S11 := (S10.below hc2).more hc2.size
  clear hMB hX10 hc2 R10 S10 C10 I10
  have hee : (encE r == encE r) = true := by simp
  have hEq := sbytes x2 (c := c8) (c' := c9) R11 S11
  rw [show (encOut r == encOut r) = true from by simp] at hEq
  go_wp2_with fail
  refine hEq.mono ?_
  rintro e x3 ⟨rfl, rfl⟩
  go_wp2
  go_ret
  exact ⟨rfl, hX11⟩
theorem turn_8 (r : Rc) (h : Hds) (m : Int) (w : World) (ok : r.ok) (i : RcIn w r h) (cp : h.caps) (hw : weighRec 20000 r ≤ 20000) (hm : recMay r = 0) (hq : m.tmod 11 = 8 ∨ m.tmod 11 = -8) :
 Calls Tryz.prog 7 #[.agg (r.vals h), .int .i64 m] w fun e w' => e = .returned (.bool true) ∧ Below w.heap.size w w' := by
 have hX : Below w.heap.size w (w.alloc (.cells (r.vals h) 38)) := by go_grown
 have B0 : Blk (w.alloc (.cells (r.vals h) 38)) w.heap.size 38 (r.vals h) := Blk.new _ _ _
 obtain ⟨i0, hi0, hz0, hz1, hz2⟩ := info_parts pr_info
 obtain ⟨sm, hlen⟩ := rec_small ok i hw
 have hln := rec_lens i hw
 have hk : kindB r.k = true := by
  cases hq : kindB r.k
  · unfold recMay at hm; rw [hq] at hm; cases hm
  · rfl
 have hbad := own_bad 8 r hk
 have hF := few_any r h
 have hM := fun w' hi => recMay_any r h w' ok hi sm
 rw [decide_eq_true hw] at hF
 rw [hm] at hM
 have okB : (badR 8 r).ok := ⟨ok.k, ok.t, ok.s, ok.pv, ok.n, ok.pt, ok.rg, ok.fl, ok.cl⟩
 clear hw hm hk
 rcases hq with hq | hq
 all_goals
  go_enter Tryz.func7, Tryz.ntmps7
  go_wp2_with fail
  refine (first_any _).mono ?_
  rintro e w1 ⟨rfl, hb1⟩
  have B1 := B0.below hb1 B0.lt
  have hX1 := hX.trans (hb1.mono hX.size)
  clear B0 hb1 hX
  go_wp2_with (guard_target =~ wpList _ _ _ _ _ _; refine wpList_load_row rfl 38 (.tmp 2) rfl w.heap.size (by kernel_rfl) _ _ (0, 0) _ B1 rfl rfl (by kernel_rfl) ?_)
  refine (hF w1 (i.below hX1)).mono ?_
  rintro e w2 ⟨rfl, hb2⟩
  have B2 := B1.below hb2 B1.lt
  have hX2 := hX1.trans (hb2.mono hX1.size)
  clear B1 hb2 hX1 hF
  go_wp2_with (guard_target =~ wpList _ _ _ _ _ _; refine wpList_load_row_g (by kernel_rfl) 38 (.tmp 2) rfl w.heap.size (by kernel_rfl) _ _ (0, 0) _ B2 rfl rfl (by kernel_rfl) ?_)
  refine (hM w2 (i.below hX2)).mono ?_
  rintro e w3 ⟨rfl, hb3⟩
  have B3 := B2.below hb3 B2.lt
  have hX3 := hX2.trans (hb3.mono hX2.size)
  clear B2 hb3 hX2 hM
  go_wp2_with (guard_target =~ wpList _ _ _ _ _ _; refine wpList_load_row rfl 38 (.tmp 2) rfl w.heap.size (by kernel_rfl) _ _ (0, 0) _ B3 rfl rfl (by kernel_rfl) ?_)
  refine (copyRecO_any r h w3 (i.below hX3) sm).mono ?_
  rintro e w4 ⟨g, rfl, cg, ig, hb4, oa, ob, oc, od, ra, rb, rc, rd⟩
  have B4 := B3.below hb4 B3.lt
  have hbl3 : w.heap.size < w3.heap.size := B3.lt
  have hX4 := hX3.trans (hb4.mono hX3.size)
  have hbx : w3.heap.size ≤ w4.heap.size := hb4.size
  have ea : g.a.n = h.a.n := by rw [← ig.rd.1]; exact i.rd.1
  have eb : g.b.n = h.b.n := by rw [← ig.wr.1]; exact i.wr.1
  have ec : g.c.n = h.c.n := by rw [← ig.ps.1]; exact i.ps.1
  have ed : g.d.n = h.d.n := by rw [← ig.pr.1]; exact i.pr.1
  have HE := Lib.hid ea
  have HEb := Lib.hid eb
  have HEc := Lib.hid ec
  have HEd := Lib.hid ed
  clear B3 hb4 hX3 ea eb ec ed
  go_wp2_with (first
   | (guard_target =~ wpList _ _ _ _ _ _; refine wpList_store_at rfl 38 _ _ rfl w4.heap.size (r.vals g) (by kernel_rfl) (by kernel_rfl) rfl _ _ (by kernel_rfl) (by kernel_rfl) (by kernel_rfl) ?_
      have hA5 : Below w4.heap.size w4 (w4.alloc (.cells (r.vals g) 38)) := by go_grown
      have B5 : Blk (w4.alloc (.cells (r.vals g) 38)) w.heap.size 38 (r.vals h) := B4.alloc _
      have C5 : Blk (w4.alloc (.cells (r.vals g) 38)) w4.heap.size 38 (r.vals g) := Blk.new _ _ _
      obtain ⟨w5, hw5⟩ : ∃ w5 : World, w5 = w4.alloc (.cells (r.vals g) 38) := ⟨_, rfl⟩
      have hz5 : w5.heap.size = w4.heap.size + 1 := by rw [hw5]; simp
      rw [← hw5] at hA5 B5 C5 ⊢
      have hX5 := hX4.trans (hA5.mono hX4.size)
      have hl5 := C5.lt
      have hbl : w.heap.size < w4.heap.size := B4.lt
      have HZ5 := Lib.hid hz5
      clear hw5 B4 hz5
      have z5 : w5.cell? ⟨w4.heap.size, 16, none⟩ = some g.d.v := C5.cell 16
      have hX6a : Below w5.heap.size w5 (w5.alloc (.cells (Wt.cells (⟨⟨#[]⟩, ⟨0, 0, ⟨#[]⟩⟩⟩ : Wt)).toArray 61)) := (Below.refl _ _).alloc (Nat.le_refl _) _
      have hown6 := (od.below hA5).below hX6a
      have hrd6 := reads_new' w5 61 (Wt.cells (⟨⟨#[]⟩, ⟨0, 0, ⟨#[]⟩⟩⟩ : Wt)) 4 rfl
      have hlq : r.pr.length ≤ 20000 := by have h1 := hln.2.2.2; rw [← i.pr.1] at h1; exact h1
      have hbs : w3.heap.size ≤ ((w5.alloc (.cells (Wt.cells (⟨⟨#[]⟩, ⟨0, 0, ⟨#[]⟩⟩⟩ : Wt)).toArray 61))).heap.size := by have := HZ5.out; rw [World.size_alloc]; omega)
   | (at_builtin
      refine wpList_append_any _ rfl (.tmp 76) (.tmp 78) _ rfl w3.heap.size 61 i0 _ 4 48 Tryz.underlying30 hi0 hz0 hz1 hz2 rfl (by omega) g.d.v _ (r.pr.flatMap Wt.cells) (by rfl) hown6 _ (some ⟨w5.heap.size, 0, none⟩) 1 1 (Wt.cells (⟨⟨#[]⟩, ⟨0, 0, ⟨#[]⟩⟩⟩ : Wt)) (by rfl) hrd6 (wt_one _) (by unfold maxLen; omega) (by omega) hbs ?_
      intro vq wq hownq hgq hatq
      obtain ⟨Aq, qq, rfl, hqq, hmq⟩ := own_form hownq
      have hne : some w4.heap.size ≠ g.d.v.ownBlock := fun e => by have := (od.lt _ e.symm).2; omega
      have hne2 : some w.heap.size ≠ g.d.v.ownBlock := fun e => by have := (od.lt _ e.symm).1; omega
      have Cq : Blk wq w4.heap.size 38 (r.vals g) := (C5.alloc _).grown hgq hne
      have Bq : Blk wq w.heap.size 38 (r.vals h) := (B5.alloc _).grown hgq hne2
      have zq : wq.cell? ⟨w4.heap.size, 16, none⟩ = some g.d.v := Cq.cell 16
      have fq : wq.frozen? ⟨w4.heap.size, 16, none⟩ = false := Cq.frozen 16
      have Pq := OwnL.push (⟨⟨#[]⟩, ⟨0, 0, ⟨#[]⟩⟩⟩ : Wt) hownq
      have hvq : ((.slice Aq (r.pr.length + 1) qq) : Value).ownBlock ≠ some w4.heap.size := by
       intro e
       rcases hatq with h1 | h1
       · rw [h1] at e; exact hne e.symm
       · rw [h1] at e
         have e2 := Option.some.inj e
         rw [World.size_alloc] at e2
         have := HZ5.out
         omega
      have P8 := far_set (b := w4.heap.size) (i := 16) Pq hvq (.slice Aq (r.pr.length + 1) qq)
      have hW : Below w4.heap.size w4 (w5.alloc (.cells (Wt.cells (⟨⟨#[]⟩, ⟨0, 0, ⟨#[]⟩⟩⟩ : Wt)).toArray 61)) := hA5.trans (hX6a.mono hA5.size)
      have R8 := rd _ (grown_of rfl hW hgq (p := ⟨w4.heap.size, 16, none⟩) (Nat.le_refl _) (.slice Aq (r.pr.length + 1) qq))
      have C6 : Blk (wq.setCell ⟨w4.heap.size, 16, none⟩ (.slice Aq (r.pr.length + 1) qq)) w4.heap.size 38 ((badR 8 r).vals { g with d := ⟨Aq, r.pr.length + 1, qq⟩ }) := Cq.set_ 16 (.slice Aq (r.pr.length + 1) qq)
      have B6 : Blk (wq.setCell ⟨w4.heap.size, 16, none⟩ (.slice Aq (r.pr.length + 1) qq)) w.heap.size 38 (r.vals h) := Bq.far (p := ⟨w4.heap.size, 16, none⟩) (by simp only; omega) _
      have hX6 : Below w.heap.size w (wq.setCell ⟨w4.heap.size, 16, none⟩ (.slice Aq (r.pr.length + 1) qq)) := ((hX5.trans (hX6a.mono hX5.size)).grown hgq (hX5.trans (hX6a.mono hX5.size)).size (fun q hq => by have := (od.lt q hq).1; omega)).setCell (p := ⟨w4.heap.size, 16, none⟩) (by simp only; omega) _
      have S8 : Sl WtRel 4 (wq.setCell ⟨w4.heap.size, 16, none⟩ (.slice Aq (r.pr.length + 1) qq)) (wq.setCell ⟨w4.heap.size, 16, none⟩ (.slice Aq (r.pr.length + 1) qq)).heap.size Aq (r.pr.length + 1) (r.pr ++ [(⟨⟨#[]⟩, ⟨0, 0, ⟨#[]⟩⟩⟩ : Wt)]) := (OwnL.sl (ok := Wt.ok) (Nat.succ_pos 3) (fun a => rfl) P8 (fun a ha => by
       rcases List.mem_append.1 ha with ha | ha
       · obtain ⟨_, _, hok⟩ := i.pr.mem ha; exact hok
       · obtain rfl := List.mem_singleton.1 ha
         exact wt0_ok)).hd.1
      have I6 : RcIn (wq.setCell ⟨w4.heap.size, 16, none⟩ (.slice Aq (r.pr.length + 1) qq)) (badR 8 r) { g with d := ⟨Aq, r.pr.length + 1, qq⟩ } := ⟨R8.rd, R8.wr, R8.ps, S8, R8.hs, R8.pn, R8.na, R8.nb, R8.nc, Nat.le_trans hqq hmq, R8.ne, R8.nf⟩
      clear B5 C5 hX5 hA5 hown6 hrd6 Pq P8 R8 S8 hW hownq hgq hatq hX6a Cq Bq hne hne2 hvq)
   | (guard_target =~ wpList _ _ _ _ _ _; refine wpList_load_row rfl 38 (.tmp 5) rfl w4.heap.size (by kernel_rfl) _ _ (0, 0) _ C6 rfl rfl (by kernel_rfl) ?_))
  have smB : RcSm (badR 8 r) { g with d := ⟨Aq, r.pr.length + 1, qq⟩ } := ⟨(by show g.a.n ≤ 1000000; have := HE.out; omega), (by show g.b.n ≤ 1000000; have := HEb.out; omega), (by show g.c.n ≤ 1000000; have := HEc.out; omega), (by show r.pr.length + 1 ≤ 1000000; omega), sm.h, sm.p⟩
  refine (encode_bad (badR 8 r) { g with d := ⟨Aq, r.pr.length + 1, qq⟩ } _ okB I6 smB hbad).mono ?_
  rintro e w7 ⟨A7, c7, rfl, q7, m7, o7, hb7⟩
  have B7 := B6.below hb7 B6.lt
  have C7 := C6.below hb7 C6.lt
  have hX7 := hX6.trans (hb7.mono hX6.size)
  have I7 := I6.below hb7
  clear B6 C6 hX6 hb7 I6 o7
  go_wp2_with (guard_target =~ wpList _ _ _ _ _ _; refine wpList_load_row rfl 38 (.tmp 2) rfl w.heap.size (by kernel_rfl) _ _ (0, 0) _ B7 rfl rfl (by kernel_rfl) ?_)
  refine (encode_any r h _ ok (i.below hX7) cp sm (by omega)).mono ?_
  rintro e w8 ⟨A8, c8, rfl, q8, m8, o8, hb8⟩
  have B8 := B7.below hb8 B7.lt
  have C8 := C7.below hb8 C7.lt
  have hX8 := hX7.trans (hb8.mono hX7.size)
  have I8 := I7.below hb8
  have R8 : Reads w8 w8.heap.size 1 A8 (encOut r).length (bytesV (encOut r)) := Reads.of_own o8
  clear B7 C7 hX7 hb8 I7 o8
  go_wp2_with (guard_target =~ wpList _ _ _ _ _ _; refine wpList_load_row rfl 38 (.tmp 2) rfl w.heap.size (by kernel_rfl) _ _ (0, 0) _ B8 rfl rfl (by kernel_rfl) ?_)
  refine (xEncode r h _ ok (i.below hX8) sm (by omega)).mono ?_
  rintro e w9 ⟨A9, c9, rfl, q9, m9, o9, hb9⟩
  have C9 := C8.below hb9 C8.lt
  have hX9 := hX8.trans (hb9.mono hX8.size)
  have I9 := I8.below hb9
  have R9 := (R8.below hb9).more hb9.size
  have S9 : Reads w9 w9.heap.size 1 A9 (encOut r).length (bytesV (encOut r)) := Reads.of_own o9
  clear B8 C8 hX8 hb9 I8 o9 R8
  go_wp2_with fail
  refine (first_any _).mono ?_
  rintro e x1 ⟨rfl, hc1⟩
  have C10 := C9.below hc1 C9.lt
  have hX10 := hX9.trans (hc1.mono hX9.size)
  have I10 := I9.below hc1
  have R10 := (R9.below hc1).more hc1.size
  have S10 := (S9.below hc1).more hc1.size
  clear C9 hX9 hc1 I9 R9 S9
  have hMB := recMay_any (badR 8 r) { g with d := ⟨Aq, r.pr.length + 1, qq⟩ } x1 okB I10 smB
  rw [hbad] at hMB
  go_wp2_with (guard_target =~ wpList _ _ _ _ _ _; refine wpList_load_row_g (by kernel_rfl) 38 (.tmp 5) rfl w4.heap.size (by kernel_rfl) _ _ (0, 0) _ C10 rfl rfl (by kernel_rfl) ?_)
  refine hMB.mono ?_
  rintro e x2 ⟨rfl, hc2⟩
  have hX11 := hX10.trans (hc2.mono hX10.size)
  have R11 := (R10.below hc2).more hc2.size
  have S11 := (S10.below hc2).more hc2.size
  clear hMB hX10 hc2 R10 S10 C10 I10
  have hee : (encE r == encE r) = true := by simp
  have hEq := sbytes x2 (c := c8) (c' := c9) R11 S11
  rw [show (encOut r == encOut r) = true from by simp] at hEq
  go_wp2_with fail
  refine hEq.mono ?_
  rintro e x3 ⟨rfl, rfl⟩
  go_wp2
  go_ret
  exact ⟨rfl, hX11⟩
end Go.Proofs.YthdmanadhbpogaaGreat
