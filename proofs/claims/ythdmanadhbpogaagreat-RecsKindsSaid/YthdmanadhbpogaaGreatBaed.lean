/- The walk of RecsKinds. -/
import Derived.Test.YthdmanadhbpogaaGreatBaba
import Derived.Test.YthdmanadhbpogaaGreatBaeb
namespace Go.Proofs.YthdmanadhbpogaaGreat
set_option linter.unusedVariables false
open Go.RowKit Fl Go.ChangeShapes Go.WideShapes
attribute [local go_sem] run_store_float

theorem range_of {cs : Array Value} {o : Nat} {vs : List Value} (h : (cs.toList.drop o).take vs.length = vs) : ∀ j v, vs[j]? = some v → cs[o + j]? = some v := by
  intro j v hj
  rw [← h, List.getElem?_take] at hj
  split at hj
  · rw [List.getElem?_drop] at hj
    simpa using hj
  · cases hj
set_option maxRecDepth 100000 in
set_option maxHeartbeats 4000000 in
theorem kinds_any (r : Rc) (h : Hds) (A : Option Addr) (n c : Nat) (l : List Int) (w : World) (ok : r.ok) (i : RcIn w r h) (hS : Sl NmRel 1 w w.heap.size A n l) (hn : n ≤ maxLen) :
    Calls Tryz.prog 3 #[.agg (r.vals h), .slice A n c] w fun e w' => e = .returned (.bool true) ∧ Below w.heap.size w w' := by
  have hX : Below w.heap.size w (w.alloc (.cells (r.vals h) 38)) := by go_grown
  have B0 : Blk (w.alloc (.cells (r.vals h) 38)) w.heap.size 38 (r.vals h) := Blk.new _ _ _
  go_enter Tryz.func3, Tryz.ntmps3
  go_wp2_with fail
  refine (first_any _).mono ?_
  rintro e w1 ⟨rfl, hb1⟩
  have B1 := B0.below hb1 B0.lt
  have hX1 := hX.trans (hb1.mono hX.size)
  clear B0 hb1 hX
  go_wp2_with (guard_target =~ wpList _ _ _ _ _ _; refine wpList_load_row rfl 38 _ rfl w.heap.size (by kernel_rfl) _ _ (0, 0) _ B1 rfl rfl (by kernel_rfl) ?_)
  refine (few_any r h w1 (i.below hX1)).mono ?_
  rintro e w2 ⟨rfl, hb2⟩
  have B2 := B1.below hb2 B1.lt
  have hX2 := hX1.trans (hb2.mono hX1.size)
  clear B1 hb2 hX1
  have hnb : (0 : Int) ≤ (n : Int) := by omega
  by_cases hw : weighRec 20000 r ≤ 20000
  · have hd : decide (weighRec 20000 r ≤ 20000) = true := decide_eq_true hw
    obtain ⟨sm, hlen⟩ := rec_small ok i hw
    rw [hd]
    clear hd hw
    by_cases hnl : 20000 < n
    · have hd1 : decide (20000 < (n : Int)) = true := by simp; omega
      go_wp2_with fail
      refine (first_any _).mono ?_
      rintro e w3 ⟨rfl, hb3⟩
      go_wp2
      go_ret
      exact ⟨rfl, hX2.trans (hb3.mono hX2.size)⟩
    have hd1 : decide (20000 < (n : Int)) = false := by simp; omega
    go_wp2_with (guard_target =~ wpList _ _ _ _ _ _; refine wpList_load_row rfl 38 _ rfl w.heap.size (by kernel_rfl) _ _ (0, 0) _ B2 rfl rfl (by kernel_rfl) ?_)
    refine (copyRec_any r h w2 (i.below hX2) sm).mono ?_
    rintro e w3 ⟨⟨g, rfl, cg, ig⟩, hb3⟩
    have B5 := (B2.below hb3 B2.lt).alloc (.cells (r.vals g) 38)
    have hX3 := hX2.trans (hb3.mono hX2.size)
    have hA3 : Below w3.heap.size w3 (w3.alloc (.cells (r.vals g) 38)) := by go_grown
    have C5 : Blk (w3.alloc (.cells (r.vals g) 38)) w3.heap.size 38 (r.vals g) := Blk.new _ _ _
    have hX5 := hX3.trans (hA3.mono hX3.size)
    have ig5 := ig.below hA3
    have smg : RcSm r g := ⟨by rw [← ig.rd.1]; have := i.rd.1; have := sm.a; omega, by rw [← ig.wr.1]; have := i.wr.1; have := sm.b; omega, by rw [← ig.ps.1]; have := i.ps.1; have := sm.c; omega, by rw [← ig.pr.1]; have := i.pr.1; have := sm.d; omega, sm.h, sm.p⟩
    clear B2 hX2 hb3 hX3 hA3 ig hlen
    go_wp2_with (guard_target =~ wpList _ _ _ _ _ _; refine wpList_store_at rfl 38 _ _ rfl w3.heap.size (r.vals g) (by kernel_rfl) (by kernel_rfl) rfl _ _ (by kernel_rfl) (by kernel_rfl) (by kernel_rfl) ?_)
    obtain ⟨w5, hw5⟩ : ∃ w5 : World, w5 = w3.alloc (.cells (r.vals g) 38) := ⟨_, rfl⟩
    rw [← hw5] at B5 C5 hX5 ig5 ⊢
    clear hw5
    refine wp_region_held_drew (S := fun W' => Below w5.heap.size w5 W') (by kernel_rfl) (Below.refl _ _).drew (fun hHeld => ?_)
    have s0 : Below w5.heap.size w5 w5.drew := (Below.refl _ _).drew
    refine wpAnyH_ready (rs := [0]) (by kernel_rfl) (by simp) ?_
    refine AllReadyH.cons (o := ⟨some 19, _, _, _, _, _⟩) rfl (fun K hK => ?_) AllReadyH.nil
    go_simp
    (with_reducible refine (first_any _).mono ?_)
    rintro e x1 ⟨rfl, hc1⟩
    have s1 : Below w5.heap.size w5 x1 := s0.trans (hc1.mono s0.size)
    refine hK.out _ _ s1 (fun hHeld => ?_)
    clear hK K
    try go_frame
    refine tk 1 20 rfl (v := .bool true) (Or.inl ⟨by kernel_rfl, fun W hSw => by clear hSw; go_simp⟩) hHeld ?_
    go_frame
    refine wpAnyH_take (i := 2) (oi := ⟨some 21, .load _ _, _, _, _, _⟩) rfl (by kernel_rfl) (by kernel_rfl) (by kernel_rfl) (fun _ _ _ h => h) (yieldsIf_load_blk (by kernel_rfl) _ _ rfl w3.heap.size (by kernel_rfl) _ _ _ (fun _ hw => C5.below hw C5.lt) rfl rfl (by kernel_rfl)) hHeld ?_
    go_frame
    refine wpAnyH_take (i := 4) (oi := ⟨some 23, .load _ _, _, _, _, _⟩) rfl (by kernel_rfl) (by kernel_rfl) (by kernel_rfl) (fun _ _ _ h => h) (yieldsIf_load_blk (by kernel_rfl) _ _ rfl w.heap.size (by kernel_rfl) _ _ _ (fun _ hw => B5.below hw B5.lt) rfl rfl (by kernel_rfl)) hHeld ?_
    go_frame
    refine wpAnyH_ready (rs := [3]) (by kernel_rfl) (by simp) ?_
    refine AllReadyH.cons (o := ⟨some 22, _, _, _, _, _⟩) rfl (fun K hK => ?_) AllReadyH.nil
    go_simp
    (with_reducible refine (recMay_any r g _ ok (ig5.below s1) smg).mono ?_)
    rintro e x2 ⟨rfl, hc2⟩
    have s2 : Below w5.heap.size w5 x2 := s1.trans (hc2.mono s1.size)
    refine hK.out _ _ s2 (fun hHeld => ?_)
    clear hK K
    try go_frame
    refine wpAnyH_ready (rs := [5]) (by kernel_rfl) (by simp) ?_
    refine AllReadyH.cons (o := ⟨some 24, _, _, _, _, _⟩) rfl (fun K hK => ?_) AllReadyH.nil
    go_simp
    (with_reducible refine (rrecMay_any r h _ ok ((i.below hX5).below s2) sm).mono ?_)
    rintro e x3 ⟨rfl, hc3⟩
    have s3 : Below w5.heap.size w5 x3 := s2.trans (hc3.mono s2.size)
    refine hK.out _ _ s3 (fun hHeld => ?_)
    clear hK K
    try go_frame
    refine tk 6 25 rfl (v := .bool true) (Or.inl ⟨by kernel_rfl, fun W hSw => by clear hSw; go_simp⟩) hHeld ?_
    go_frame
    refine tk 7 26 rfl (v := .bool true) (Or.inl ⟨by kernel_rfl, fun W hSw => by clear hSw; go_simp⟩) hHeld ?_
    go_frame
    refine tk 8 27 rfl (v := .bool true) (Or.inl ⟨by kernel_rfl, fun W hSw => by clear hSw; go_simp⟩) hHeld ?_
    go_frame
    refine tk 9 28 rfl (v := .slice A n c) (Or.inl ⟨by kernel_rfl, fun W hSw => by clear hSw; go_simp⟩) hHeld ?_
    go_frame
    refine tk 11 30 rfl (v := .slice A n c) (Or.inl ⟨by kernel_rfl, fun W hSw => by clear hSw; go_simp⟩) hHeld ?_
    go_frame
    refine wpAnyH_ready (rs := [10]) (by kernel_rfl) (by simp) ?_
    refine AllReadyH.cons (o := ⟨some 29, _, _, _, _, _⟩) rfl (fun K hK => ?_) AllReadyH.nil
    go_simp
    (with_reducible refine (parts_any A n c l _ (((hS.below NmRel.kept (hX5.trans (s3.mono hX5.size))).more NmRel.kept (hX5.trans (s3.mono hX5.size)).size)) hn).mono ?_)
    rintro e wq ⟨rfl, rfl⟩
    have s4 := s3
    refine hK.out _ _ s4 (fun hHeld => ?_)
    clear hK K
    try go_frame
    refine wpAnyH_ready (rs := [12]) (by kernel_rfl) (by simp) ?_
    refine AllReadyH.cons (o := ⟨some 31, _, _, _, _, _⟩) rfl (fun K hK => ?_) AllReadyH.nil
    go_simp
    (with_reducible refine (rparts_any A n c l _ (((hS.below NmRel.kept (hX5.trans (s4.mono hX5.size))).more NmRel.kept (hX5.trans (s4.mono hX5.size)).size)) hn).mono ?_)
    rintro e x5 ⟨rfl, hc5⟩
    have s5 : Below w5.heap.size w5 x5 := s4.trans (hc5.mono s4.size)
    refine hK.out _ _ s5 (fun hHeld => ?_)
    clear hK K
    try go_frame
    refine tk 13 32 rfl (v := .bool true) (Or.inl ⟨by kernel_rfl, fun W hSw => by clear hSw; go_simp⟩) hHeld ?_
    go_frame
    refine tk 14 33 rfl (v := .bool true) (Or.inl ⟨by kernel_rfl, fun W hSw => by clear hSw; go_simp⟩) hHeld ?_
    go_frame
    refine tk 15 34 rfl (v := .bool true) (Or.inl ⟨by kernel_rfl, fun W hSw => by clear hSw; go_simp⟩) hHeld ?_
    go_frame
    refine tk 16 35 rfl (v := .pointer (some ⟨w3.heap.size, 17, none⟩)) (Or.inl ⟨by kernel_rfl, fun W hSw => by clear hSw; go_simp⟩) hHeld ?_
    go_frame
    refine wpAnyH_take (i := 17) (oi := ⟨some 36, .load _ _, _, _, _, _⟩) rfl (by kernel_rfl) (by kernel_rfl) (by kernel_rfl) (fun _ _ _ h => h) (yieldsIf_load_mid (by kernel_rfl) _ _ rfl w3.heap.size 17 (by kernel_rfl) [.int .i64 r.st.r.id, .int .i64 r.st.r.ep, .float .f64 r.st.r.lo, .float .f64 r.st.r.hi, .int .i64 r.st.f.w, .int .i64 r.st.f.l, .int .i64 r.st.f.n, .int .i64 r.st.c.w, .int .i64 r.st.c.l, .int .i64 r.st.c.n, g.e.v, g.f.v] _ (fun W hSw => (C5.below hSw C5.lt).range 17 _ (range_of (by kernel_rfl))) rfl rfl (by kernel_rfl)) hHeld ?_
    go_frame
    refine tk 19 38 rfl (v := .pointer (some ⟨w.heap.size, 17, none⟩)) (Or.inl ⟨by kernel_rfl, fun W hSw => by clear hSw; go_simp⟩) hHeld ?_
    go_frame
    refine wpAnyH_take (i := 20) (oi := ⟨some 39, .load _ _, _, _, _, _⟩) rfl (by kernel_rfl) (by kernel_rfl) (by kernel_rfl) (fun _ _ _ h => h) (yieldsIf_load_mid (by kernel_rfl) _ _ rfl w.heap.size 17 (by kernel_rfl) [.int .i64 r.st.r.id, .int .i64 r.st.r.ep, .float .f64 r.st.r.lo, .float .f64 r.st.r.hi, .int .i64 r.st.f.w, .int .i64 r.st.f.l, .int .i64 r.st.f.n, .int .i64 r.st.c.w, .int .i64 r.st.c.l, .int .i64 r.st.c.n, h.e.v, h.f.v] _ (fun W hSw => (B5.below hSw B5.lt).range 17 _ (range_of (by kernel_rfl))) rfl rfl (by kernel_rfl)) hHeld ?_
    go_frame
    refine wpAnyH_ready (rs := [18]) (by kernel_rfl) (by simp) ?_
    refine AllReadyH.cons (o := ⟨some 37, _, _, _, _, _⟩) rfl (fun K hK => ?_) AllReadyH.nil
    go_simp
    (with_reducible refine (stateMay_any r.st g.e.A g.f.A g.e.n g.f.n g.e.c g.f.c _ ok.rg (ig5.below s5).hs (ig5.below s5).pn sm.h sm.p).mono ?_)
    rintro e x6 ⟨rfl, hc6⟩
    have s6 : Below w5.heap.size w5 x6 := s5.trans (hc6.mono s5.size)
    refine hK.out _ _ s6 (fun hHeld => ?_)
    clear hK K
    try go_frame
    refine wpAnyH_ready (rs := [21]) (by kernel_rfl) (by simp) ?_
    refine AllReadyH.cons (o := ⟨some 40, _, _, _, _, _⟩) rfl (fun K hK => ?_) AllReadyH.nil
    go_simp
    (with_reducible refine (rstateMay_any r.st h.e.A h.f.A h.e.n h.f.n h.e.c h.f.c _ ok.rg ((i.below hX5).below s6).hs ((i.below hX5).below s6).pn sm.h sm.p).mono ?_)
    rintro e x7 ⟨rfl, hc7⟩
    have s7 : Below w5.heap.size w5 x7 := s6.trans (hc7.mono s6.size)
    refine hK.out _ _ s7 (fun hHeld => ?_)
    clear hK K
    try go_frame
    refine tk 22 41 rfl (v := .bool true) (Or.inl ⟨by kernel_rfl, fun W hSw => by clear hSw; go_simp⟩) hHeld ?_
    go_frame
    refine tk 23 42 rfl (v := .bool true) (Or.inl ⟨by kernel_rfl, fun W hSw => by clear hSw; go_simp⟩) hHeld ?_
    go_frame
    refine tk 24 43 rfl (v := .bool true) (Or.inl ⟨by kernel_rfl, fun W hSw => by clear hSw; go_simp⟩) hHeld ?_
    go_frame
    refine wpAnyH_take (i := 25) (oi := ⟨some 44, .load _ _, _, _, _, _⟩) rfl (by kernel_rfl) (by kernel_rfl) (by kernel_rfl) (fun _ _ _ h => h) (yieldsIf_load_blk (by kernel_rfl) _ _ rfl w3.heap.size (by kernel_rfl) _ _ _ (fun _ hw => C5.below hw C5.lt) rfl rfl (by kernel_rfl)) hHeld ?_
    go_frame
    refine wpAnyH_take (i := 26) (oi := ⟨some 45, .load _ _, _, _, _, _⟩) rfl (by kernel_rfl) (by kernel_rfl) (by kernel_rfl) (fun _ _ _ h => h) (yieldsIf_load_blk (by kernel_rfl) _ _ rfl w.heap.size (by kernel_rfl) _ _ _ (fun _ hw => B5.below hw B5.lt) rfl rfl (by kernel_rfl)) hHeld ?_
    go_frame
    refine wpAnyH_ready (rs := [27]) (by kernel_rfl) (by simp) ?_
    refine AllReadyH.cons (o := ⟨some 46, _, _, _, _, _⟩) rfl (fun K hK => ?_) AllReadyH.nil
    go_simp
    (with_reducible refine (recSelf_any r g h _ (ig5.below s7) ((i.below hX5).below s7)).mono ?_)
    rintro e x8 ⟨rfl, hc8⟩
    have s8 : Below w5.heap.size w5 x8 := s7.trans (hc8.mono s7.size)
    refine hK.out _ _ s8 (fun hHeld => ?_)
    clear hK K
    try go_frame
    refine tk 28 47 rfl (v := .bool true) (Or.inl ⟨by kernel_rfl, fun W hSw => by clear hSw; go_simp⟩) hHeld ?_
    go_frame
    refine tk 29 4 rfl (v := .bool true) (Or.inl ⟨by kernel_rfl, fun W hSw => by clear hSw; go_simp⟩) hHeld ?_
    go_frame
    refine wpAnyH_done (by kernel_rfl) ?_ _
    go_wp2
    go_ret
    exact ⟨rfl, hX5.trans (s8.mono hX5.size)⟩
  · have hd : decide (weighRec 20000 r ≤ 20000) = false := decide_eq_false hw
    rw [hd]
    clear hd hw
    go_wp2_with fail
    refine (first_any _).mono ?_
    rintro e w3 ⟨rfl, hb3⟩
    go_wp2
    go_ret
    exact ⟨rfl, hX2.trans (hb3.mono hX2.size)⟩
end Go.Proofs.YthdmanadhbpogaaGreat
