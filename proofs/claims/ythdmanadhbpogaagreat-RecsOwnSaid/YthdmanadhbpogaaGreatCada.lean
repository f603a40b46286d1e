/- Copies held in blocks of their own; two rows whose elements read in fixed blocks below them. -/
import Derived.Test.YthdmanadhbpogaaGreatCaad
import Derived.Test.YthdmanadhbpogaaGreatCaba
import Derived.Test.YthdmanadhbpogaaGreatCacj
namespace Go.Proofs.YthdmanadhbpogaaGreat
set_option linter.unusedVariables false
open Go.RowKit Fl
attribute [local go_sem] run_store_float
def CopySLow (s : Stt) (w : World) : Ending → World → Prop := fun e w' => ∃ B1 m1 d1 B2 m2 d2, e = .returned (.agg (s.arr (.slice B1 m1 d1) (.slice B2 m2 d2))) ∧ m1 ≤ d1 ∧ d1 ≤ maxLen ∧ Sl HsRel 2 (only (rng w.heap.size w'.heap.size) w') w'.heap.size B1 m1 s.h ∧ m2 ≤ d2 ∧ d2 ≤ maxLen ∧ Sl PnRel 8 (only (rng w.heap.size w'.heap.size) w') w'.heap.size B2 m2 s.p ∧ Below w.heap.size w w'
set_option maxRecDepth 100000 in
set_option maxHeartbeats 4000000 in
theorem copyS_low (s : Stt) (A1 A2 : Option Addr) (n1 n2 c1 c2 : Nat) (w : World) (h1 : Sl HsRel 2 w w.heap.size A1 n1 s.h) (h2 : Sl PnRel 8 w w.heap.size A2 n2 s.p) (hH : SmallH s.h) (hQ : SmallP s.p) :
 Calls Tryz.prog 40 #[.agg (s.arr (.slice A1 n1 c1) (.slice A2 n2 c2))] w (CopySLow s w) := by
 have hX : Below w.heap.size w ((w.alloc (.cells (s.arr (.slice A1 n1 c1) (.slice A2 n2 c2)) 36)).alloc (.cells zeroSt 36)) := by go_grown
 have i1 : Blk ((w.alloc (.cells (s.arr (.slice A1 n1 c1) (.slice A2 n2 c2)) 36)).alloc (.cells zeroSt 36)) w.heap.size 36 (s.arr (.slice A1 n1 c1) (.slice A2 n2 c2)) := (Blk.new _ _ _).alloc _
 have i2 : Blk ((w.alloc (.cells (s.arr (.slice A1 n1 c1) (.slice A2 n2 c2)) 36)).alloc (.cells zeroSt 36)) (w.heap.size + 1) 36 zeroSt := Blk.new' _ _ (by simp)
 have hT := fun w' (hb : Below w.heap.size w w') => copyHs_any A1 n1 c1 s.h w' ((h1.below HsRel.kept hb).more HsRel.kept hb.size) hH
 have hW := fun w' (hb : Below w.heap.size w w') => copyPs_any A2 n2 c2 s.p w' ((h2.below PnRel.kept hb).more PnRel.kept hb.size) hQ
 go_enter Tryz.func40, Tryz.ntmps40
 go_wp2
 generalize ((w.alloc (.cells (s.arr (.slice A1 n1 c1) (.slice A2 n2 c2)) 36)).alloc (.cells zeroSt 36)) = w0 at *
 have l1 := i1.lt
 have l2 := i2.lt
 refine wp_region_held_drew (S := fun w' => Blk w' w.heap.size 36 (s.arr (.slice A1 n1 c1) (.slice A2 n2 c2))) (by kernel_rfl) i1.drew (fun hHeld => ?_)
 refine tk 0 3 (v := .pointer (some ⟨w.heap.size, 0, none⟩)) rfl (Or.inl ⟨by kernel_rfl, fun W hSw => by clear hSw; go_simp⟩) hHeld ?_
 go_frame
 refine wpAnyH_take (i := 1) (oi := ⟨some 4, _, _, _, _, _⟩) rfl (by kernel_rfl) (by kernel_rfl) (by kernel_rfl) (fun _ _ _ h => h) (yieldsIf_load_mid (by kernel_rfl) _ _ rfl w.heap.size 0 rfl [.int .i64 s.r.id, .int .i64 s.r.ep, .float .f64 s.r.lo, .float .f64 s.r.hi] _ (fun W hSw => Blk.range hSw 0 _ (four_of rfl rfl rfl rfl)) rfl rfl (by kernel_rfl)) hHeld ?_
 go_frame
 refine tk 2 5 (v := .pointer (some ⟨w.heap.size, 4, none⟩)) rfl (Or.inl ⟨by kernel_rfl, fun W hSw => by clear hSw; go_simp⟩) hHeld ?_
 go_frame
 refine wpAnyH_take (i := 3) (oi := ⟨some 6, _, _, _, _, _⟩) rfl (by kernel_rfl) (by kernel_rfl) (by kernel_rfl) (fun _ _ _ h => h) (yieldsIf_load_mid (by kernel_rfl) _ _ rfl w.heap.size 4 rfl [.int .i64 s.f.w, .int .i64 s.f.l, .int .i64 s.f.n] _ (fun W hSw => Blk.range hSw 4 _ (three_of rfl rfl rfl)) rfl rfl (by kernel_rfl)) hHeld ?_
 go_frame
 refine tk 4 7 (v := .pointer (some ⟨w.heap.size, 7, none⟩)) rfl (Or.inl ⟨by kernel_rfl, fun W hSw => by clear hSw; go_simp⟩) hHeld ?_
 go_frame
 refine wpAnyH_take (i := 5) (oi := ⟨some 8, _, _, _, _, _⟩) rfl (by kernel_rfl) (by kernel_rfl) (by kernel_rfl) (fun _ _ _ h => h) (yieldsIf_load_mid (by kernel_rfl) _ _ rfl w.heap.size 7 rfl [.int .i64 s.c.w, .int .i64 s.c.l, .int .i64 s.c.n] _ (fun W hSw => Blk.range hSw 7 _ (three_of rfl rfl rfl)) rfl rfl (by kernel_rfl)) hHeld ?_
 go_frame
 refine tk 6 9 (v := .pointer (some ⟨w.heap.size, 10, none⟩)) rfl (Or.inl ⟨by kernel_rfl, fun W hSw => by clear hSw; go_simp⟩) hHeld ?_
 go_frame
 refine tk 7 10 (v := .slice A1 n1 c1) rfl (Or.inl ⟨by kernel_rfl, fun W hSw => by have z : W.cell? ⟨w.heap.size, 10, none⟩ = some (.slice A1 n1 c1) := Blk.cell hSw 10; clear hSw; go_simp⟩) hHeld ?_
 go_frame
 refine tk 9 12 (v := .pointer (some ⟨w.heap.size, 11, none⟩)) rfl (Or.inl ⟨by kernel_rfl, fun W hSw => by clear hSw; go_simp⟩) hHeld ?_
 go_frame
 refine tk 10 13 (v := .slice A2 n2 c2) rfl (Or.inl ⟨by kernel_rfl, fun W hSw => by have z : W.cell? ⟨w.heap.size, 11, none⟩ = some (.slice A2 n2 c2) := Blk.cell hSw 11; clear hSw; go_simp⟩) hHeld ?_
 go_frame
 refine wpAnyH_ready (rs := [8]) (by kernel_rfl) (by simp) ?_
 refine AllReadyH.cons rfl (fun K hK => ?_) AllReadyH.nil
 go_simp
 refine (hT _ hX.drew).mono ?_
 rintro e w3 ⟨v3, rfl, o3, hb3⟩
 have j1 := i1.drew.below hb3 l1
 have j2 := i2.drew.below hb3 l2
 have hY : Below w.heap.size w w3 := hX.drew.trans (hb3.mono hX.size)
 have o3 : Pair HsRel 94 2 w0.heap.size w3 v3 (.slice none 0 0) s.h [] := o3
 have hz0 : w0.heap.size ≤ w3.heap.size := hb3.size
 obtain ⟨A3, q3, rfl, hq3, hq3m⟩ := o3.form1
 clear hb3 i1 i2 hHeld
 refine hK.out _ _ j1 (fun hHeld => ?_)
 clear hK K
 try go_frame
 refine wpAnyH_ready (rs := [11]) (by kernel_rfl) (by simp) ?_
 refine AllReadyH.cons rfl (fun K hK => ?_) AllReadyH.nil
 go_simp
 refine (hW _ hY).mono ?_
 rintro e w4 ⟨v4, rfl, o4, hb4⟩
 have k1 := j1.below hb4 j1.lt
 have k2 := j2.below hb4 j2.lt
 have hZ : Below w.heap.size w w4 := hY.trans (hb4.mono hY.size)
 have hz3 := j2.lt
 have o4 : Pair PnRel 96 8 w3.heap.size w4 v4 (.slice none 0 0) s.p [] := o4
 have o3 := o3.below HsRel.kept HsRel.mono hb4
 obtain ⟨A4, q4, rfl, hq4, hq4m⟩ := o4.form1
 clear hb4 j1 j2 hHeld
 refine hK.out _ _ k1 (fun hHeld => ?_)
 clear hK K
 try go_frame
 refine tk 12 15 (v := .agg (s.arr (.slice A3 s.h.length q3) (.slice A4 s.p.length q4))) rfl (Or.inl ⟨by kernel_rfl, fun W hSw => by clear hSw; go_simp⟩) hHeld ?_
 go_frame
 refine wpAnyH_store_rowE (i := 13) (by kernel_rfl) rfl rfl _ _ _ rfl (w.heap.size + 1) (s.arr (.slice A3 s.h.length q3) (.slice A4 s.p.length q4)) (by kernel_rfl) (by kernel_rfl) _ _ k2 (by kernel_rfl) rfl (by kernel_rfl) (k1.setRow_far _ (by omega)) ?_
 intro w5 hw5
 go_frame
 refine wpAnyH_done (by kernel_rfl) ?_ _
 go_wp2
 refine post_cell rfl (by kernel_rfl) (by rw [hw5]; exact k2.setRow _) rfl rfl (by kernel_rfl) ?_
 have hs5 : w5.heap.size = w4.heap.size := by rw [hw5, size_setRow]
 have hk5 : ∀ k, w.heap.size + 2 ≤ k → w5.heap[k]? = w4.heap[k]? := fun k hk => by rw [hw5]; exact setRow_other _ _ _ _ (by omega)
 have hz5 : w5.heap.size ≤ w5.heap.size := Nat.le_refl _
 have r3 := (o3.same (w' := w5) HsRel.kept HsRel.mono (by omega) (fun k hk _ => hk5 k (by omega))).1.held (K' := rng w.heap.size w5.heap.size) HsRel.mono (by omega) (fun k hk => by rw [freeB_iff] at hk; rw [rng_iff]; omega) (fun k hk => rng_iff.2 (by have := (o3.1.lt k hk); omega))
 have r4 := (o4.same (w' := w5) PnRel.kept PnRel.mono (by omega) (fun k hk _ => hk5 k (by omega))).1.held (K' := rng w.heap.size w5.heap.size) PnRel.mono (by omega) (fun k hk => by rw [freeB_iff] at hk; rw [rng_iff]; omega) (fun k hk => rng_iff.2 (by have := (o4.1.lt k hk); omega))
 rw [hw5] at r3 r4
 obtain ⟨_, _, _, e3, -, -, r3⟩ := r3
 obtain ⟨_, _, _, e4, -, -, r4⟩ := r4
 injection e3 with a1 a2 a3
 injection e4 with b1 b2 b3
 subst a1 a2 a3 b1 b2 b3
 rw [hw5]
 exact ⟨_, _, _, _, _, _, rfl, hq3, hq3m, r3, hq4, hq4m, r4, below_setRow hZ (by omega) _⟩
def PairK {α : Type} (R : Rel α) (E size base : Nat) (K : Nat → Bool) (w : World) (v1 v2 : Value) (l1 l2 : List α) : Prop :=
 RowR R E size base K w v1 l1 ∧ RowR R E size base K w v2 l2 ∧ Dis v1 v2
section
variable {α : Type} {R : Rel α} {E size base : Nat} {K : Nat → Bool} {w w' : World} {v1 v2 : Value} {l1 l2 : List α}
theorem PairK.nil (w : World) : PairK R E size base K w (.slice none 0 0) (.slice none 0 0) [] [] := ⟨RowR.nil _, RowR.nil _, Dis.nil _⟩
theorem PairK.symm (h : PairK R E size base K w v1 v2 l1 l2) : PairK R E size base K w v2 v1 l2 l1 := ⟨h.2.1, h.1, h.2.2.symm⟩
theorem PairK.keep (hR : R.Kept) (h : PairK R E size base K w v1 v2 l1 l2) (hs : w.heap.size ≤ w'.heap.size) (hb : ∀ k, base ≤ k → k < w.heap.size → w'.heap[k]? = w.heap[k]?) (hK : ∀ k, K k = true → w'.heap[k]? = w.heap[k]?) : PairK R E size base K w' v1 v2 l1 l2 :=
 ⟨h.1.keep2 hR hs hb hK, h.2.1.keep2 hR hs hb hK, h.2.2⟩
theorem PairK.below (hR : R.Kept) (h : PairK R E size base K w v1 v2 l1 l2) (hb : Below w.heap.size w w') (hK : ∀ k, K k = true → k < w.heap.size) : PairK R E size base K w' v1 v2 l1 l2 :=
 h.keep hR hb.size (fun k _ hk => hb.block k hk) fun k hk => hb.block k (hK k hk)
theorem PairK.far (hR : R.Kept) (h : PairK R E size base K w v1 v2 l1 l2) {p : Addr} (hp : p.block < base) (hpK : ∀ k, K k = true → k ≠ p.block) (u : Value) : PairK R E size base K (w.setCell p u) v1 v2 l1 l2 :=
 h.keep hR (by simp [World.setCell]) (fun k hk _ => Below.heap_setCell _ _ _ _ (by omega)) fun k hk => Below.heap_setCell _ _ _ _ (hpK k hk)
theorem PairK.ne1 (h : PairK R E size base K w v1 v2 l1 l2) {g : Nat} (hg : g < base) : some g ≠ v1.ownBlock := fun e => by have := (h.1.lt g e.symm).1; omega
theorem PairK.own1 (hR : R.Kept) (h : PairK R E size base K w v1 v2 l1 l2) (hK : ∀ k, K k = true → k < base) (hbs : base ≤ w.heap.size) : ∃ xs, w.ownsRow base E size v1 l1.length xs ∧
 ∀ (cs : List Value) (a : α) (w' : World) (v' : Value), cs.length = size → Inn R K w cs a → w'.ownsRow base E size v' (l1.length + 1) (xs ++ cs) → w.grownBy w' v1.ownBlock → (v'.ownBlock = v1.ownBlock ∨ v'.ownBlock = some w.heap.size) →
   PairK R E size base K w' v' v2 (l1 ++ [a]) l2 := by
 obtain ⟨xs, ho, hp⟩ := h.1.own hR hK hbs
 refine ⟨xs, ho, fun cs a w' v' hcs hin hown hg hat => ⟨hp cs a w' v' hcs hin hown hg, ?_, ?_⟩⟩
 · obtain ⟨ds, ho2, hlen2, hl2, hc2⟩ := h.2.1
   refine ⟨ds, ho2.kept hg ?_, hlen2, hl2, fun i cs a h1 h2 => (hc2 i cs a h1 h2).keep hR (fun k hk => hg.block k (by have := hK k hk; omega) (fun e => by have := (h.1.lt k e.symm).1; have := hK k hk; omega)) hg.size⟩
   cases e : v2.ownBlock with
   | none => exact .inl rfl
   | some k => exact .inr fun e2 => h.2.2 k e2.symm e
 · intro k e e2
   rcases hat with e3 | e3
   · exact h.2.2 k (e3.symm.trans e) e2
   · have := (h.2.1.lt k e2).2
     rw [e3] at e; injection e; omega
end
end Go.Proofs.YthdmanadhbpogaaGreat
