/- The walk of the document's Encode. -/
import Derived.Test.YthdmanadhbpogaaGreatBaba
import Derived.Test.YthdmanadhbpogaaGreatBadd
import Derived.Test.YthdmanadhbpogaaGreatBaea
namespace Go.Proofs.YthdmanadhbpogaaGreat
set_option linter.unusedVariables false
open Go.RowKit Fl
attribute [local go_sem] run_store_float

theorem xBody (r : Rc) (h : Hds) (w : World) (hk : kindB r.k = true) (ok : r.ok) (i : RcIn w r h) (hlen : (encBody r).length ≤ 1000000000000) :
    Calls Tryz.prog 63 #[.agg (r.vals h)] w (RowPost w (encBody r)) := by
  rcases kind_cases hk with e | e | e | e | e | e | e | e | e | e | e | e
  · exact xBody_1 r h w e ok i hlen
  · exact xBody_2 r h w e ok i hlen
  · exact xBody_3 r h w e ok i hlen
  · exact xBody_4 r h w e ok i hlen
  · exact xBody_5 r h w e ok i hlen
  · exact xBody_6 r h w e ok i hlen
  · exact xBody_7 r h w e ok i hlen
  · exact xBody_8 r h w e ok i hlen
  · exact xBody_9 r h w e ok i hlen
  · exact xBody_10 r h w e ok i hlen
  · exact xBody_11 r h w e ok i hlen
  · exact xBody_12 r h w e ok i hlen
set_option maxRecDepth 100000 in
set_option maxHeartbeats 4000000 in
theorem xEncode (r : Rc) (h : Hds) (w : World) (ok : r.ok) (i : RcIn w r h) (sm : RcSm r h) (hlen : (encRc r).length + 10 ≤ 1000000000000) :
    Calls Tryz.prog 20 #[.agg (r.vals h)] w (RowE w (encOut r) (encE r)) := by
  have hM := fun w' (hb : Below w.heap.size w w') => rrecMay_any r h w' ok (i.below hb) sm
  have hX : Below w.heap.size w (w.alloc (.cells (r.vals h) 38)) := by go_grown
  have B0 : Blk (w.alloc (.cells (r.vals h) 38)) w.heap.size 38 (r.vals h) := Blk.new _ _ _
  by_cases hm : recMay r = 0
  · have hk : kindB r.k = true := by
      cases hq : kindB r.k
      · unfold recMay at hm; rw [hq] at hm; cases hm
      · rfl
    have HE := Lib.hid (show encE r = if 262144 < (encRc r).length then 2 else 0 by unfold encE; rw [if_pos hm])
    have HO := Lib.hid (show encOut r = if 262144 < (encRc r).length then [] else encRc r by unfold encOut; rw [HE.out]; by_cases hq : 262144 < (encRc r).length <;> simp [hq])
    rw [hm] at hM
    clear hm
    obtain ⟨i0, hi0, hz0, hz1, hz2⟩ := info_partsW u8_info
    have kk1 := ok.k.1
    have kk2 := ok.k.2
    have hl : (encRc r).length = (encI r.k).length + (encBody r).length := by unfold encRc; rw [List.length_append]
    have hl1 : (encI r.k).length + (encBody r).length + 10 ≤ 1000000000000 := by omega
    have HL := Lib.hid hl
    clear hl hlen
    go_enter Tryz.func20, Tryz.ntmps20
    go_wp2_with (first
      | (refine wpList_load_row rfl 38 _ rfl w.heap.size rfl _ _ (0, 0) _ B0 rfl rfl (by kernel_rfl) ?_)
      | ((with_reducible refine (hM _ hX).mono ?_); rintro e w0 ⟨rfl, hb0⟩))
    have HX : Below w.heap.size w w0 := hX.trans (hb0.mono hX.size)
    have HBK : Blk w0 w.heap.size 38 (r.vals h) := B0.below hb0 B0.lt
    have HB : w.heap.size < w0.heap.size := HBK.lt
    have C0 : w0.cell? ⟨w.heap.size, 0, none⟩ = some (.int .i64 r.k) := HBK.cell 0
    have IX := i.below HX
    clear hM hX B0 i sm hb0
    go_wp2_with fail
    refine wp_region_held_drew (S := fun W' => Below (w0).heap.size (w0) W') (by kernel_rfl) (Below.refl _ _).drew (fun hHeld => ?_)
    refine tk 0 11 (v := .pointer (some ⟨w.heap.size, 0, none⟩)) rfl (Or.inl ⟨by kernel_rfl, fun W hSw => by clear hSw; go_simp⟩) hHeld ?_
    go_frame
    refine tk 1 12 (v := .int .i64 r.k) rfl (Or.inl ⟨by kernel_rfl, fun W hSw => by have z := (hSw.cell (p := ⟨w.heap.size, 0, none⟩) HB).trans C0; clear hSw; go_simp⟩) hHeld ?_
    go_frame
    refine wpAnyH_take (i := 3) (oi := ⟨some 14, .load _ _, _, _, _, _⟩) rfl (by kernel_rfl) (by kernel_rfl) (by kernel_rfl) (fun _ _ _ h => h) (yieldsIf_load_blk (by rfl) _ _ rfl (w.heap.size) rfl _ _ _ (fun _ hw => HBK.below hw HB) rfl rfl (by kernel_rfl)) hHeld ?_
    go_frame
    have s0 : Below (w0).heap.size (w0) (w0).drew := (Below.refl _ _).drew
    refine wpAnyH_ready (rs := [2]) (by kernel_rfl) (by simp) ?_
    refine AllReadyH.cons (o := ⟨some 13, _, _, _, _, _⟩) rfl (fun K hK => ?_) AllReadyH.nil
    go_simp
    (with_reducible refine (xint r.k _ kk1 kk2).mono ?_)
    rintro e w1 ⟨A1, q1, rfl, hq1, hm1, hown1, hb1⟩
    have s1 : Below (w0).heap.size (w0) w1 := s0.trans (hb1.mono (s0).size)
    refine hK.out _ _ s1 (fun hHeld => ?_)
    clear hK K
    try go_frame
    have hrow1 : RowRel (w0) (encI r.k) (.slice A1 (encI r.k).length q1) w1 := ⟨hown1, s1⟩
    refine wpAnyH_ready (rs := [4]) (by kernel_rfl) (by simp) ?_
    refine AllReadyH.cons (o := ⟨some 15, _, _, _, _, _⟩) rfl (fun K hK => ?_) AllReadyH.nil
    go_simp
    (with_reducible refine (xBody r h _ hk ok (IX.below s1) (by omega)).mono ?_)
    rintro e w2 ⟨A2, q2, rfl, hq2, hm2, hown2, hb2⟩
    have s2 : Below (w0).heap.size (w0) w2 := s1.trans (hb2.mono (s1).size)
    refine hK.out _ _ s2 (fun hHeld => ?_)
    clear hK K
    try go_frame
    have hrow2 := hrow1.below hb2
    have za : (encI r.k).length + (encBody r).length ≤ maxLen := by unfold maxLen; omega
    have zb : ((encI r.k).length + (encBody r).length) * 1 ≤ 140737488355328 := by omega
    refine wpAnyH_ready (rs := [5]) (by kernel_rfl) (by simp) ?_
    refine AllReadyH.cons (o := ⟨some 16, _, _, _, _, _⟩) rfl (fun K hK => ?_) AllReadyH.nil
    refine step_append_any _ rfl _ _ _ rfl (w0).heap.size 5 i0 _ 1 1 Tryz.underlying48 hi0 hz0 hz1 hz2 rfl (by omega) (.slice A1 (encI r.k).length q1) _ (bytesV (encI r.k)) (by rfl) hrow2.1 w2.heap.size A2 (encBody r).length q2 (bytesV (encBody r)) (by rfl) (Reads.of_own hown2) (bytesV_one _) za zb hrow2.2.size ?_
    intro v2' w2' hown2' hg2' hat2'
    have hr2 := hrow2.push (Below.refl _ _) hown2' hg2'
    obtain ⟨P2, HP2, LP2⟩ := named (encI r.k) (encBody r)
    rw [← HP2.out] at hr2
    obtain ⟨A2', q2', rfl, hq2', hm2'⟩ := own_form hr2.1
    refine hK.out _ _ hr2.2 (fun hHeld => ?_)
    clear hK K
    try go_frame
    refine tk 6 5 (v := .slice A2' P2.length q2') rfl (Or.inl ⟨by kernel_rfl, fun W hSw => by clear hSw; go_simp⟩) hHeld ?_
    go_frame
    refine wpAnyH_done (by kernel_rfl) ?_ _
    clear za zb hown2' hg2' hat2' hrow1 hrow2 hown1 hown2 hb1 hb2 s0 s1 s2 hHeld
    have c2_0 : w2'.cell? ⟨w.heap.size, 0, none⟩ = some (.int .i64 r.k) := (hr2.2.cell (p := ⟨w.heap.size, 0, none⟩) HB).trans C0
    have hB3 : Below w.heap.size w w2' := HX.trans (hr2.2.mono HX.size)
    have HQ : RowKit.Hid (P2 = encRc r) := Lib.hid (by rw [HP2.out]; rfl)
    have hq : P2.length = (encRc r).length := by rw [HQ.out]
    have HQL := Lib.hid hq
    clear hq
    go_wp2
    · have hgt : 262144 < (encRc r).length := by have := HQL.out; omega
      go_ret2
      rw [HE.out, HO.out, if_pos hgt, if_pos hgt]
      exact RowE.nil 2 hB3
    · have hgt : ¬ 262144 < (encRc r).length := by have := HQL.out; omega
      go_ret2
      rw [HE.out, HO.out, if_neg hgt, if_neg hgt, ← HQ.out]
      exact ⟨A2', q2', rfl, hq2', hm2', owns_down hr2.1 HX.size, hB3⟩
  · have h1 : encE r = recMay r := by unfold encE; rw [if_neg hm]
    have h2 : encOut r = [] := by unfold encOut; rw [h1, if_neg hm]
    rw [h1, h2]
    have hb0 : (recMay r != 0) = true := by simp [hm]
    generalize recMay r = m at *
    clear h1 h2 hm
    go_enter Tryz.func20, Tryz.ntmps20
    go_wp2_with (first
      | (refine wpList_load_row rfl 38 _ rfl w.heap.size rfl _ _ (0, 0) _ B0 rfl rfl (by kernel_rfl) ?_)
      | ((with_reducible refine (hM _ hX).mono ?_); rintro e w1 ⟨rfl, hb1⟩))
    go_ret2
    exact RowE.nil m (hX.trans (hb1.mono hX.size))
end Go.Proofs.YthdmanadhbpogaaGreat
/- The walks of Few and of RecsEncodes. -/
namespace Go.Proofs.YthdmanadhbpogaaGreat
set_option linter.unusedVariables false
open Go.RowKit Fl Go.ChangeShapes Go.WideShapes
attribute [local go_sem] run_store_float

section
variable {H : Type} {enc : TypeId × Value → H} {w : World}
set_option maxRecDepth 100000 in
theorem open_rcC {r : Reach} {b0 : Nat} {v : Value} {d : DataW H} {ps : List MemPlace} (hv : Value.okWide Tryz.prog w r b0 38 v) (h : DataW.Trod enc Tryz.prog w 0 (fun _ => true) true 38 v d ps) (hs : Szd Tryz.prog 38 d) :
    ∃ (x : Rc) (g : Hds), v = .agg (x.vals g) ∧ x.ok ∧ RcIn w x g ∧ g.caps := by
  obtain ⟨cs, rfl, hsz⟩ := okWide_struct Tryz.underlying38 hv
  obtain ⟨x, v1, v2, v3, v4, v5, v6, e, hok, ⟨A1, n1, c1, rfl, q1, q1', h1⟩, ⟨A2, n2, c2, rfl, q2, q2', h2⟩, ⟨A3, n3, c3, rfl, q3, q3', h3⟩, ⟨A4, n4, c4, rfl, q4, q4', h4⟩, ⟨A5, n5, c5, rfl, q5, q5', h5⟩, ⟨A6, n6, c6, rfl, q6, q6', h6⟩⟩ := opn_rc (Opn.of h hs)
  refine ⟨x, ⟨⟨A1, n1, c1⟩, ⟨A2, n2, c2⟩, ⟨A3, n3, c3⟩, ⟨A4, n4, c4⟩, ⟨A5, n5, c5⟩, ⟨A6, n6, c6⟩⟩, ?_, hok, ⟨h1, h2, h3, h4, h5, h6, Nat.le_trans q1 q1', Nat.le_trans q2 q2', Nat.le_trans q3 q3', Nat.le_trans q4 q4', Nat.le_trans q5 q5', Nat.le_trans q6 q6'⟩, ⟨⟨q1, q1'⟩, ⟨q2, q2'⟩, ⟨q3, q3'⟩, ⟨q4, q4'⟩, ⟨q5, q5'⟩, ⟨q6, q6'⟩⟩⟩
  have e2 : cs.toList = _ := e
  rw [← Array.toArray_toList (xs := cs), e2]
end
set_option maxRecDepth 100000 in
set_option maxHeartbeats 1000000 in
theorem few_any (r : Rc) (h : Hds) (w : World) (i : RcIn w r h) :
    Calls Tryz.prog 10 #[.agg (r.vals h)] w fun e w' => e = .returned (.bool (decide (weighRec 20000 r ≤ 20000))) ∧ Below w.heap.size w w' := by
  have hX : Below w.heap.size w (w.alloc (.cells (r.vals h) 38)) := by go_grown
  have B0 : Blk (w.alloc (.cells (r.vals h) 38)) w.heap.size 38 (r.vals h) := Blk.new _ _ _
  have hW := weighRec_any r h 20000 _ (i.below hX) (by omega) (by omega)
  go_enter Tryz.func10, Tryz.ntmps10
  go_wp2_with (guard_target =~ wpList _ _ _ _ _ _; refine wpList_load_row rfl 38 _ rfl w.heap.size (by kernel_rfl) _ _ (0, 0) _ B0 rfl rfl (by kernel_rfl) ?_)
  refine hW.mono ?_
  rintro e w1 ⟨rfl, hb1⟩
  go_wp2
  go_ret
  exact ⟨rfl, hX.trans (hb1.mono hX.size)⟩
theorem rec_self (r : Rc) : recSame r r true = true := by
  unfold recSame
  have h1 : (r.cm == r.cm) = true := by cases r.cm <;> rfl
  simp [keys_self, nums_self, wts_self]
theorem recSelf_any (r : Rc) (g h : Hds) (w : World) (i : RcIn w r g) (j : RcIn w r h) : Calls Tryz.prog 18 #[.agg (r.vals g), .agg (r.vals h)] w fun e w' => e = .returned (.bool true) ∧ Below w.heap.size w w' := by
  have hR := rec_any r r g h true w i j fun w' hb => state_same r.st g.e.A g.f.A h.e.A h.f.A g.e.n g.f.n h.e.n h.f.n g.e.c g.f.c h.e.c h.f.c w' (i.below hb).hs (i.below hb).pn (j.below hb).hs (j.below hb).pn (i.below hb).ne (i.below hb).nf
  rw [rec_self] at hR
  exact hR
set_option maxRecDepth 100000 in
set_option maxHeartbeats 4000000 in
theorem encodes_any (r : Rc) (h : Hds) (w : World) (ok : r.ok) (i : RcIn w r h) (cp : h.caps) :
    Calls Tryz.prog 4 #[.agg (r.vals h)] w fun e w' => e = .returned (.bool true) ∧ Below w.heap.size w w' := by
  have hX : Below w.heap.size w (w.alloc (.cells (r.vals h) 38)) := by go_grown
  have B0 : Blk (w.alloc (.cells (r.vals h) 38)) w.heap.size 38 (r.vals h) := Blk.new _ _ _
  go_enter Tryz.func4, Tryz.ntmps4
  go_wp2_with fail
  refine (first_any _).mono ?_
  rintro e w1 ⟨rfl, hb1⟩
  have B1 := B0.below hb1 B0.lt
  have hX1 := hX.trans (hb1.mono hX.size)
  clear B0 hb1 hX
  go_wp2_with (guard_target =~ wpList _ _ _ _ _ _; refine wpList_load_row rfl 38 _ rfl w.heap.size (by kernel_rfl) _ _ (0, 0) _ B1 rfl rfl (by kernel_rfl) ?_)
  refine (few_any r h w1 (i.below hX1)).mono ?_
  rintro e w2 ⟨rfl, hb2⟩
  have B2 := B1.below hb2 B1.lt
  have hX2 := hX1.trans (hb2.mono hX1.size)
  clear B1 hb2 hX1
  by_cases hw : weighRec 20000 r ≤ 20000
  · have hd : decide (weighRec 20000 r ≤ 20000) = true := decide_eq_true hw
    obtain ⟨sm, hlen⟩ := rec_small ok i hw
    rw [hd]
    clear hd hw
    go_wp2_with (guard_target =~ wpList _ _ _ _ _ _; refine wpList_load_row rfl 38 _ rfl w.heap.size (by kernel_rfl) _ _ (0, 0) _ B2 rfl rfl (by kernel_rfl) ?_)
    refine (copyRec_any r h w2 (i.below hX2) sm).mono ?_
    rintro e w3 ⟨⟨g, rfl, cg, ig⟩, hb3⟩
    have B3 := (B2.below hb3 B2.lt).alloc (.cells (r.vals g) 38)
    have hX3 := hX2.trans (hb3.mono hX2.size)
    have hA3 : Below w3.heap.size w3 (w3.alloc (.cells (r.vals g) 38)) := by go_grown
    have C3 : Blk (w3.alloc (.cells (r.vals g) 38)) w3.heap.size 38 (r.vals g) := Blk.new _ _ _
    have hX4 := hX3.trans (hA3.mono hX3.size)
    have ig4 := ig.below hA3
    have smg : RcSm r g := ⟨by rw [← ig.rd.1]; have := i.rd.1; have := sm.a; omega, by rw [← ig.wr.1]; have := i.wr.1; have := sm.b; omega, by rw [← ig.ps.1]; have := i.ps.1; have := sm.c; omega, by rw [← ig.pr.1]; have := i.pr.1; have := sm.d; omega, sm.h, sm.p⟩
    clear B2 hX2 hb3 hX3 hA3 ig
    go_wp2_with (first
      | (guard_target =~ wpList _ _ _ _ _ _; refine wpList_store_at rfl 38 _ _ rfl w3.heap.size (r.vals g) (by kernel_rfl) (by kernel_rfl) rfl _ _ (by kernel_rfl) (by kernel_rfl) (by kernel_rfl) ?_)
      | (guard_target =~ wpList _ _ _ _ _ _; refine wpList_load_row rfl 38 _ rfl w3.heap.size (by kernel_rfl) _ _ (0, 0) _ C3 rfl rfl (by kernel_rfl) ?_))
    refine (encode_any r g _ ok ig4 cg smg (by omega)).mono ?_
    rintro e w5 ⟨A5, c5, rfl, q5, m5, o5, hb5⟩
    have B5 := B3.below hb5 B3.lt
    have C5 := C3.below hb5 C3.lt
    have hX5 := hX4.trans (hb5.mono hX4.size)
    have ig5 := ig4.below hb5
    have R5 : Reads w5 w5.heap.size 1 A5 (encOut r).length (bytesV (encOut r)) := Reads.of_own o5
    clear B3 C3 hX4 hb5 ig4 o5
    go_wp2_with (guard_target =~ wpList _ _ _ _ _ _; refine wpList_load_row rfl 38 _ rfl w.heap.size (by kernel_rfl) _ _ (0, 0) _ B5 rfl rfl (by kernel_rfl) ?_)
    refine (xEncode r h w5 ok (i.below hX5) sm (by omega)).mono ?_
    rintro e w6 ⟨A6, c6, rfl, q6, m6, o6, hb6⟩
    have B6 := B5.below hb6 B5.lt
    have C6 := C5.below hb6 C5.lt
    have hX6 := hX5.trans (hb6.mono hX5.size)
    have ig6 := ig5.below hb6
    have R6 := (R5.below hb6).more hb6.size
    have S6 : Reads w6 w6.heap.size 1 A6 (encOut r).length (bytesV (encOut r)) := Reads.of_own o6
    clear B5 C5 hX5 hb6 ig5 R5 o6
    go_wp2_with fail
    refine (first_any _).mono ?_
    rintro e w7 ⟨rfl, hb7⟩
    have B7 := B6.below hb7 B6.lt
    have C7 := C6.below hb7 C6.lt
    have hX7 := hX6.trans (hb7.mono hX6.size)
    have ig7 := ig6.below hb7
    have R7 := (R6.below hb7).more hb7.size
    have S7 := (S6.below hb7).more hb7.size
    clear B6 C6 hX6 hb7 ig6 R6 S6
    have hEq := sbytes w7 (c := c5) (c' := c6) R7 S7
    rw [show (encOut r == encOut r) = true from by simp] at hEq
    have hee : (encE r == encE r) = true := by simp
    go_wp2_with fail
    refine hEq.mono ?_
    rintro e w8 ⟨rfl, rfl⟩
    go_wp2_with (first
      | (guard_target =~ wpList _ _ _ _ _ _; refine wpList_load_row_g (by kernel_rfl) 38 (.tmp 3) rfl w3.heap.size (by kernel_rfl) _ _ (0, 0) _ C7 rfl rfl (by kernel_rfl) ?_)
      | (guard_target =~ wpList _ _ _ _ _ _; refine wpList_load_row_g (by kernel_rfl) 38 (.tmp 1) rfl w.heap.size (by kernel_rfl) _ _ (0, 0) _ B7 rfl rfl (by kernel_rfl) ?_))
    refine (recSelf_any r g h w7 ig7 (i.below hX7)).mono ?_
    rintro e w9 ⟨rfl, hb9⟩
    go_wp2
    go_ret
    exact ⟨rfl, hX7.trans (hb9.mono hX7.size)⟩
  · have hd : decide (weighRec 20000 r ≤ 20000) = false := decide_eq_false hw
    rw [hd]
    clear hd hw
    go_wp2_with fail
    refine (first_any _).mono ?_
    rintro e w3 ⟨rfl, hb3⟩
    go_wp2
    go_ret
    exact ⟨rfl, hX2.trans (hb3.mono hX2.size)⟩
end Go.Proofs.YthdmanadhbpogaaGreat
