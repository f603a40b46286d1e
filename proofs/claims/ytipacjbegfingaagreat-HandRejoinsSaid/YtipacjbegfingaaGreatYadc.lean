/- Copies held in blocks of their own; two rows whose elements read in fixed blocks below them. -/
import Derived.Test.YtipacjbegfingaaGreatYabd
import Derived.Test.YtipacjbegfingaaGreatYada
import Derived.Test.YtipacjbegfingaaGreatYadb
namespace Go.Proofs.YtipacjbegfingaaGreat
set_option linter.unusedVariables false
open Go.RowKit Fl
attribute [local go_sem] run_store_float

def CopySLow (s : Stt) (w : World) : Ending → World → Prop := fun e w' => ∃ B1 m1 d1 B2 m2 d2, e = .returned (.agg (s.arr (.slice B1 m1 d1) (.slice B2 m2 d2))) ∧ m1 ≤ d1 ∧ d1 ≤ maxLen ∧ Sl HsRel 2 (only (rng w.heap.size w'.heap.size) w') w'.heap.size B1 m1 s.h ∧ m2 ≤ d2 ∧ d2 ≤ maxLen ∧ Sl PnRel 8 (only (rng w.heap.size w'.heap.size) w') w'.heap.size B2 m2 s.p ∧ Below w.heap.size w w'
set_option maxRecDepth 100000 in
set_option maxHeartbeats 4000000 in
theorem copyS_low (s : Stt) (A1 A2 : Option Addr) (n1 n2 c1 c2 : Nat) (w : World) (h1 : Sl HsRel 2 w w.heap.size A1 n1 s.h) (h2 : Sl PnRel 8 w w.heap.size A2 n2 s.p) (hH : SmallH s.h) (hQ : SmallP s.p) :
    Calls Tryz.prog 7 #[.agg (s.arr (.slice A1 n1 c1) (.slice A2 n2 c2))] w (CopySLow s w) := by
  have hX : Below w.heap.size w ((w.alloc (.cells (s.arr (.slice A1 n1 c1) (.slice A2 n2 c2)) 30)).alloc (.cells zeroSt 30)) := by go_grown
  have i1 : Blk ((w.alloc (.cells (s.arr (.slice A1 n1 c1) (.slice A2 n2 c2)) 30)).alloc (.cells zeroSt 30)) w.heap.size 30 (s.arr (.slice A1 n1 c1) (.slice A2 n2 c2)) := (Blk.new _ _ _).alloc _
  have i2 : Blk ((w.alloc (.cells (s.arr (.slice A1 n1 c1) (.slice A2 n2 c2)) 30)).alloc (.cells zeroSt 30)) (w.heap.size + 1) 30 zeroSt := Blk.new' _ _ (by simp)
  have hT := fun w' (hb : Below w.heap.size w w') => copyHs_any A1 n1 c1 s.h w' ((h1.below HsRel.kept hb).more HsRel.kept hb.size) hH
  have hW := fun w' (hb : Below w.heap.size w w') => copyPs_any A2 n2 c2 s.p w' ((h2.below PnRel.kept hb).more PnRel.kept hb.size) hQ
  go_enter Tryz.func7, Tryz.ntmps7
  go_wp2
  generalize ((w.alloc (.cells (s.arr (.slice A1 n1 c1) (.slice A2 n2 c2)) 30)).alloc (.cells zeroSt 30)) = w0 at *
  have l1 := i1.lt
  have l2 := i2.lt
  refine wp_region_held_drew (S := fun w' => Blk w' w.heap.size 30 (s.arr (.slice A1 n1 c1) (.slice A2 n2 c2))) (by kernel_rfl) i1.drew (fun hHeld => ?_)
  refine wpAnyH_take (i := 0) (oi := ⟨some 3, _, _, _, _, _⟩) (v := .pointer (some ⟨w.heap.size, 0, none⟩)) rfl (by kernel_rfl) (by kernel_rfl) (by kernel_rfl) (fun _ _ _ h => h) (Or.inl ⟨by kernel_rfl, fun W hSw => by clear hSw; go_simp⟩) hHeld ?_
  go_frame
  refine wpAnyH_take (i := 1) (oi := ⟨some 4, _, _, _, _, _⟩) rfl (by kernel_rfl) (by kernel_rfl) (by kernel_rfl) (fun _ _ _ h => h) (yieldsIf_load_mid (by kernel_rfl) _ _ rfl w.heap.size 0 rfl [.int .i64 s.r.id, .int .i64 s.r.ep, .float .f64 s.r.lo, .float .f64 s.r.hi] _ (fun W hSw => Blk.range hSw 0 _ (four_of rfl rfl rfl rfl)) rfl rfl (by kernel_rfl)) hHeld ?_
  go_frame
  refine wpAnyH_take (i := 2) (oi := ⟨some 5, _, _, _, _, _⟩) (v := .pointer (some ⟨w.heap.size, 4, none⟩)) rfl (by kernel_rfl) (by kernel_rfl) (by kernel_rfl) (fun _ _ _ h => h) (Or.inl ⟨by kernel_rfl, fun W hSw => by clear hSw; go_simp⟩) hHeld ?_
  go_frame
  refine wpAnyH_take (i := 3) (oi := ⟨some 6, _, _, _, _, _⟩) rfl (by kernel_rfl) (by kernel_rfl) (by kernel_rfl) (fun _ _ _ h => h) (yieldsIf_load_mid (by kernel_rfl) _ _ rfl w.heap.size 4 rfl [.int .i64 s.f.w, .int .i64 s.f.l, .int .i64 s.f.n] _ (fun W hSw => Blk.range hSw 4 _ (three_of rfl rfl rfl)) rfl rfl (by kernel_rfl)) hHeld ?_
  go_frame
  refine wpAnyH_take (i := 4) (oi := ⟨some 7, _, _, _, _, _⟩) (v := .pointer (some ⟨w.heap.size, 7, none⟩)) rfl (by kernel_rfl) (by kernel_rfl) (by kernel_rfl) (fun _ _ _ h => h) (Or.inl ⟨by kernel_rfl, fun W hSw => by clear hSw; go_simp⟩) hHeld ?_
  go_frame
  refine wpAnyH_take (i := 5) (oi := ⟨some 8, _, _, _, _, _⟩) rfl (by kernel_rfl) (by kernel_rfl) (by kernel_rfl) (fun _ _ _ h => h) (yieldsIf_load_mid (by kernel_rfl) _ _ rfl w.heap.size 7 rfl [.int .i64 s.c.w, .int .i64 s.c.l, .int .i64 s.c.n] _ (fun W hSw => Blk.range hSw 7 _ (three_of rfl rfl rfl)) rfl rfl (by kernel_rfl)) hHeld ?_
  go_frame
  refine wpAnyH_take (i := 6) (oi := ⟨some 9, _, _, _, _, _⟩) (v := .pointer (some ⟨w.heap.size, 10, none⟩)) rfl (by kernel_rfl) (by kernel_rfl) (by kernel_rfl) (fun _ _ _ h => h) (Or.inl ⟨by kernel_rfl, fun W hSw => by clear hSw; go_simp⟩) hHeld ?_
  go_frame
  refine wpAnyH_take (i := 7) (oi := ⟨some 10, _, _, _, _, _⟩) (v := .slice A1 n1 c1) rfl (by kernel_rfl) (by kernel_rfl) (by kernel_rfl) (fun _ _ _ h => h) (Or.inl ⟨by kernel_rfl, fun W hSw => by have z : W.cell? ⟨w.heap.size, 10, none⟩ = some (.slice A1 n1 c1) := Blk.cell hSw 10; clear hSw; go_simp⟩) hHeld ?_
  go_frame
  refine wpAnyH_take (i := 9) (oi := ⟨some 12, _, _, _, _, _⟩) (v := .pointer (some ⟨w.heap.size, 11, none⟩)) rfl (by kernel_rfl) (by kernel_rfl) (by kernel_rfl) (fun _ _ _ h => h) (Or.inl ⟨by kernel_rfl, fun W hSw => by clear hSw; go_simp⟩) hHeld ?_
  go_frame
  refine wpAnyH_take (i := 10) (oi := ⟨some 13, _, _, _, _, _⟩) (v := .slice A2 n2 c2) rfl (by kernel_rfl) (by kernel_rfl) (by kernel_rfl) (fun _ _ _ h => h) (Or.inl ⟨by kernel_rfl, fun W hSw => by have z : W.cell? ⟨w.heap.size, 11, none⟩ = some (.slice A2 n2 c2) := Blk.cell hSw 11; clear hSw; go_simp⟩) hHeld ?_
  go_frame
  refine wpAnyH_ready (rs := [8]) (by kernel_rfl) (by simp) ?_
  refine AllReadyH.cons rfl (fun K hK => ?_) AllReadyH.nil
  go_simp
  refine (hT _ hX.drew).mono ?_
  rintro e w3 ⟨v3, rfl, o3, hb3⟩
  have j1 := i1.drew.below hb3 l1
  have j2 := i2.drew.below hb3 l2
  have hY : Below w.heap.size w w3 := hX.drew.trans (hb3.mono hX.size)
  have o3 : Pair HsRel 59 2 w0.heap.size w3 v3 (.slice none 0 0) s.h [] := o3
  have hz0 : w0.heap.size ≤ w3.heap.size := hb3.size
  obtain ⟨A3, q3, rfl, hq3, hq3m⟩ := o3.form1
  clear hb3 i1 i2 hHeld
  refine hK.out _ _ j1 (fun hHeld => ?_)
  clear hK K
  try go_frame
  refine wpAnyH_ready (rs := [11]) (by kernel_rfl) (by simp) ?_
  refine AllReadyH.cons rfl (fun K hK => ?_) AllReadyH.nil
  go_simp
  refine (hW _ hY).mono ?_
  rintro e w4 ⟨v4, rfl, o4, hb4⟩
  have k1 := j1.below hb4 j1.lt
  have k2 := j2.below hb4 j2.lt
  have hZ : Below w.heap.size w w4 := hY.trans (hb4.mono hY.size)
  have hz3 := j2.lt
  have o4 : Pair PnRel 45 8 w3.heap.size w4 v4 (.slice none 0 0) s.p [] := o4
  have o3 := o3.below HsRel.kept HsRel.mono hb4
  obtain ⟨A4, q4, rfl, hq4, hq4m⟩ := o4.form1
  clear hb4 j1 j2 hHeld
  refine hK.out _ _ k1 (fun hHeld => ?_)
  clear hK K
  try go_frame
  refine wpAnyH_take (i := 12) (oi := ⟨some 15, _, _, _, _, _⟩) (v := .agg (s.arr (.slice A3 s.h.length q3) (.slice A4 s.p.length q4))) rfl (by kernel_rfl) (by kernel_rfl) (by kernel_rfl) (fun _ _ _ h => h) (Or.inl ⟨by kernel_rfl, fun W hSw => by clear hSw; go_simp⟩) hHeld ?_
  go_frame
  refine wpAnyH_store_rowE (i := 13) (by kernel_rfl) rfl rfl _ _ _ rfl (w.heap.size + 1) (s.arr (.slice A3 s.h.length q3) (.slice A4 s.p.length q4)) (by kernel_rfl) (by kernel_rfl) _ _ k2 (by kernel_rfl) rfl (by kernel_rfl) (k1.setRow_far _ (by omega)) ?_
  intro w5 hw5
  go_frame
  refine wpAnyH_done (by kernel_rfl) ?_ _
  go_wp2
  refine post_cell rfl (by kernel_rfl) (by rw [hw5]; exact k2.setRow _) rfl rfl (by kernel_rfl) ?_
  have hs5 : w5.heap.size = w4.heap.size := by rw [hw5, size_setRow]
  have hk5 : ∀ k, w.heap.size + 2 ≤ k → w5.heap[k]? = w4.heap[k]? := fun k hk => by rw [hw5]; exact setRow_other _ _ _ _ (by omega)
  have hz5 : w5.heap.size ≤ w5.heap.size := Nat.le_refl _
  have r3 := (o3.same (w' := w5) HsRel.kept HsRel.mono (by omega) (fun k hk _ => hk5 k (by omega))).1.held (K' := rng w.heap.size w5.heap.size) HsRel.mono (by omega) (fun k hk => by rw [freeB_iff] at hk; rw [rng_iff]; omega) (fun k hk => rng_iff.2 (by have := (o3.1.lt k hk); omega))
  have r4 := (o4.same (w' := w5) PnRel.kept PnRel.mono (by omega) (fun k hk _ => hk5 k (by omega))).1.held (K' := rng w.heap.size w5.heap.size) PnRel.mono (by omega) (fun k hk => by rw [freeB_iff] at hk; rw [rng_iff]; omega) (fun k hk => rng_iff.2 (by have := (o4.1.lt k hk); omega))
  rw [hw5] at r3 r4
  obtain ⟨_, _, _, e3, -, -, r3⟩ := r3
  obtain ⟨_, _, _, e4, -, -, r4⟩ := r4
  injection e3 with a1 a2 a3
  injection e4 with b1 b2 b3
  subst a1 a2 a3 b1 b2 b3
  rw [hw5]
  exact ⟨_, _, _, _, _, _, rfl, hq3, hq3m, r3, hq4, hq4m, r4, below_setRow hZ (by omega) _⟩

/-- two rows of the call's own whose elements read in the blocks of K, below them -/
def PairK {α : Type} (R : Rel α) (E size base : Nat) (K : Nat → Bool) (w : World) (v1 v2 : Value) (l1 l2 : List α) : Prop :=
  RowR R E size base K w v1 l1 ∧ RowR R E size base K w v2 l2 ∧ Dis v1 v2
section
variable {α : Type} {R : Rel α} {E size base : Nat} {K : Nat → Bool} {w w' : World} {v1 v2 : Value} {l1 l2 : List α}
theorem PairK.nil (w : World) : PairK R E size base K w (.slice none 0 0) (.slice none 0 0) [] [] := ⟨RowR.nil _, RowR.nil _, Dis.nil _⟩
theorem PairK.symm (h : PairK R E size base K w v1 v2 l1 l2) : PairK R E size base K w v2 v1 l2 l1 := ⟨h.2.1, h.1, h.2.2.symm⟩
theorem PairK.keep (hR : R.Kept) (h : PairK R E size base K w v1 v2 l1 l2) (hs : w.heap.size ≤ w'.heap.size) (hb : ∀ k, base ≤ k → k < w.heap.size → w'.heap[k]? = w.heap[k]?) (hK : ∀ k, K k = true → w'.heap[k]? = w.heap[k]?) : PairK R E size base K w' v1 v2 l1 l2 :=
  ⟨h.1.keep2 hR hs hb hK, h.2.1.keep2 hR hs hb hK, h.2.2⟩
theorem PairK.below (hR : R.Kept) (h : PairK R E size base K w v1 v2 l1 l2) (hb : Below w.heap.size w w') (hK : ∀ k, K k = true → k < w.heap.size) : PairK R E size base K w' v1 v2 l1 l2 :=
  h.keep hR hb.size (fun k _ hk => hb.block k hk) fun k hk => hb.block k (hK k hk)
theorem PairK.far (hR : R.Kept) (h : PairK R E size base K w v1 v2 l1 l2) {p : Addr} (hp : p.block < base) (hpK : ∀ k, K k = true → k ≠ p.block) (u : Value) : PairK R E size base K (w.setCell p u) v1 v2 l1 l2 :=
  h.keep hR (by simp [World.setCell]) (fun k hk _ => Below.heap_setCell _ _ _ _ (by omega)) fun k hk => Below.heap_setCell _ _ _ _ (hpK k hk)
theorem PairK.ne1 (h : PairK R E size base K w v1 v2 l1 l2) {g : Nat} (hg : g < base) : some g ≠ v1.ownBlock := fun e => by have := (h.1.lt g e.symm).1; omega
theorem PairK.own1 (hR : R.Kept) (h : PairK R E size base K w v1 v2 l1 l2) (hK : ∀ k, K k = true → k < base) (hbs : base ≤ w.heap.size) : ∃ xs, w.ownsRow base E size v1 l1.length xs ∧
    ∀ (cs : List Value) (a : α) (w' : World) (v' : Value), cs.length = size → Inn R K w cs a → w'.ownsRow base E size v' (l1.length + 1) (xs ++ cs) → w.grownBy w' v1.ownBlock → (v'.ownBlock = v1.ownBlock ∨ v'.ownBlock = some w.heap.size) →
      PairK R E size base K w' v' v2 (l1 ++ [a]) l2 := by
  obtain ⟨xs, ho, hp⟩ := h.1.own hR hK hbs
  refine ⟨xs, ho, fun cs a w' v' hcs hin hown hg hat => ⟨hp cs a w' v' hcs hin hown hg, ?_, ?_⟩⟩
  · obtain ⟨ds, ho2, hlen2, hl2, hc2⟩ := h.2.1
    refine ⟨ds, ho2.kept hg ?_, hlen2, hl2, fun i cs a h1 h2 => (hc2 i cs a h1 h2).keep hR (fun k hk => hg.block k (by have := hK k hk; omega) (fun e => by have := (h.1.lt k e.symm).1; have := hK k hk; omega)) hg.size⟩
    cases e : v2.ownBlock with
    | none => exact .inl rfl
    | some k => exact .inr fun e2 => h.2.2 k e2.symm e
  · intro k e e2
    rcases hat with e3 | e3
    · exact h.2.2 k (e3.symm.trans e) e2
    · have := (h.2.1.lt k e2).2
      rw [e3] at e; injection e; omega
end
end Go.Proofs.YtipacjbegfingaaGreat
/- Rejoin's clone: histories in blocks of the call's own; histories merged, where only some blocks are left. -/
namespace Go.Proofs.YtipacjbegfingaaGreat
set_option linter.unusedVariables false
open Go.RowKit
attribute [local go_sem] run_store_float

def CloP (l : List Hs) (w : World) (v i : Value) (wr : World) : Prop :=
  ∃ k : Nat, k ≤ l.length ∧ i = .int .i64 (k : Int) ∧ Pair HsRel 59 2 w.heap.size wr v (.slice none 0 0) (l.take k) [] ∧ Below w.heap.size w wr
set_option maxRecDepth 100000 in
set_option maxHeartbeats 4000000 in
theorem clone2_low (A : Option Addr) (n c : Nat) (l : List Hs) (w : World) (h : Sl HsRel 2 w w.heap.size A n l) (hn : n ≤ 1000000) (hv : ∀ a ∈ l, a.vs.length ≤ 1000000) :
    Calls Tryz.prog 22 #[.slice A n c] w fun e w' => ∃ v, e = .returned v ∧ Pair HsRel 59 2 w.heap.size w' v (.slice none 0 0) l [] ∧ Below w.heap.size w w' := by
  obtain ⟨i0, hi0, hz0, hz1, hz2⟩ := info_parts info_hG
  have hl := h.1
  have hle : l.length ≤ n := by omega
  have hge : n ≤ l.length := by omega
  clear hl
  go_enter Tryz.func22, Tryz.ntmps22
  go_wp2
  go_loopw [3, 8] (fun v i wr => CloP l w v i wr) (fun _ i _ => n - (intOf i).toNat)
  case atStart => exact ⟨0, Nat.zero_le _, rfl, Pair.nil _, Below.refl _ _⟩
  case round =>
    obtain ⟨k, hk, rfl, hr, hb⟩ := hrel
    have hzz := hb.size
    by_cases hlt : k < n
    · obtain ⟨ad, a, A', n', c', rfl, ha, hbk, hok, c0, c1, hn', hc', hsv⟩ := ((h.below HsRel.kept hb).more HsRel.kept hb.size).hs hlt
      have hd1 : decide ((k : Int) < (n : Int)) = true := by simp; omega
      have hk0 : (0 : Int) ≤ (k : Int) := by omega
      have hk1 : (k : Int) < (n : Int) := by omega
      have hva := hv a (List.mem_of_getElem? ha)
      have hnl := hsv.1
      have HS := Lib.hid (show l.take (k + 1) = l.take k ++ [a] by rw [List.take_add_one, ha]; rfl)
      have hLn : (l.take k).length ≤ 1000000 := by rw [List.length_take]; omega
      have hoks := Lib.hid (fun k hk => Sl.all_ok hsv k hk : ∀ k ∈ a.vs, Vn.ok k)
      have hn9 : n' ≤ 1000000 := by omega
      clear ha hnl
      generalize l.take k = L at *
      obtain ⟨A3, q3, rfl, hq3, hq3m⟩ := hr.form1
      have hlt5 := hr.1.lt
      have hX : Below wr.heap.size wr (wr.alloc (.cells #[.string a.key, .slice A' n' c'] 59)) := by go_grown
      have bH := Blk.new wr 59 #[.string a.key, .slice A' n' c']
      go_upto_region 5 with fail
      have hr1 := hr.below HsRel.kept HsRel.mono hX
      have hxz := hX.size
      have hb1 := hb.trans (hX.mono hzz)
      have hsv1 := (hsv.below VnRel.kept hX).more VnRel.kept hX.size
      generalize wr.alloc (.cells #[.string a.key, .slice A' n' c'] 59) = w1 at *
      generalize wr.heap.size = hx at *
      have z0 : w1.cell? ⟨hx, 0, none⟩ = some (.string a.key) := bH.cell 0
      have z1 : w1.cell? ⟨hx, 1, none⟩ = some (.slice A' n' c') := bH.cell 1
      have hlx := bH.lt
      have s0 : Below w1.heap.size w1 w1.drew := (Below.refl _ _).drew
      have hC := clone_vn A' n' c' a.vs w1.drew (hsv1.below VnRel.kept s0) (by omega)
      clear hr hb c0 c1 hsv hX
      refine wp_region_held_drew (S := fun w' => w'.cell? ⟨hx, 0, none⟩ = some (.string a.key) ∧ w'.cell? ⟨hx, 1, none⟩ = some (.slice A' n' c')) (by kernel_rfl) ⟨z0, z1⟩ (fun hHeld => ?_)
      refine t0 0 12 ?_
      go_frame
      refine t0 1 13 ?_
      go_frame
      refine t0 2 14 ?_
      go_frame
      refine t0 3 15 ?_
      go_frame
      refine t0 4 16 ?_
      go_frame
      refine wpAnyH_ready (rs := [5]) (by kernel_rfl) (by simp) (AllReadyH.cons (o := ⟨some 17, _, _, _, _, _⟩) rfl (fun K hK => ?_) AllReadyH.nil)
      go_simp
      (with_reducible refine hC.mono ?_)
      rintro e w5 ⟨v5, rfl, o5, hb5⟩
      have s5 := s0.trans (hb5.mono s0.size)
      refine hK.out _ _ ⟨(s5.cell (by exact hlx)).trans z0, (s5.cell (by exact hlx)).trans z1⟩ (fun hHeld => ?_)
      clear hK K
      try go_frame
      obtain ⟨A9, q9, rfl, hq9, hq9m⟩ := o5.form
      refine t0 6 18 ?_
      go_frame
      have hY : Below w5.heap.size w5 (w5.alloc (.cells #[.string a.key, .slice A9 a.vs.length q9] 59)) := by go_grown
      have s6 := s5.trans (hY.mono s5.size)
      have hr6 := hr1.below HsRel.kept HsRel.mono s6
      have hin : Inn HsRel (freeB w.heap.size (w5.alloc (.cells #[.string a.key, .slice A9 a.vs.length q9] 59)).heap.size (.slice A3 L.length q3) (.slice none 0 0)) (w5.alloc (.cells #[.string a.key, .slice A9 a.vs.length q9] 59)) [.string a.key, .slice A9 a.vs.length q9] a :=
        ⟨_, rfl, hok, OwnL.inn (by omega) vn_len (o5.below hY) hoks.out (hr1.fresh s6.size (Nat.le_refl w1.heap.size) hb1.size)⟩
      obtain ⟨xs, hown0, hpush⟩ := hr6.own1 HsRel.kept HsRel.mono
      have hrd0 := reads_new' w5 59 [.string a.key, .slice A9 a.vs.length q9] 2 rfl
      have hsz0 : (w5.alloc (.cells #[.string a.key, .slice A9 a.vs.length q9] 59)).heap.size = w5.heap.size + 1 := by simp
      refine wpAnyH_ready (rs := [7]) (by kernel_rfl) (by simp) (AllReadyH.cons (o := ⟨some 19, _, _, _, _, _⟩) rfl (fun K hK => ?_) AllReadyH.nil)
      go_simp
      refine hK.out _ _ ⟨(s6.cell (by exact hlx)).trans z0, (s6.cell (by exact hlx)).trans z1⟩ (fun hHeld => ?_)
      clear hK K
      try go_frame
      refine wpAnyH_ready (rs := [8]) (by kernel_rfl) (by simp) (AllReadyH.cons (o := ⟨some 20, _, _, _, _, _⟩) rfl (fun K hK => ?_) AllReadyH.nil)
      refine step_append_any _ rfl _ _ _ rfl w.heap.size 59 i0 _ 2 40 Tryz.underlying27 hi0 hz0 hz1 hz2 rfl (by omega) (.slice A3 L.length q3) _ xs (by rfl) hown0 _ (some ⟨w5.heap.size, 0, none⟩) 1 1 [.string a.key, .slice A9 a.vs.length q9] (by rfl) hrd0 (hs_oneG _ _ _ _) (by unfold maxLen; omega) (by omega) (by have := hb1.size; have := s6.size; omega) ?_
      intro v3 w3 hown3 hg3 hat3
      obtain ⟨A4, q4, rfl, hq4, hq4m⟩ := own_form hown3
      have hrn := hpush [.string a.key, .slice A9 a.vs.length q9] a w3 _ rfl hin hown3 hg3 hat3
      have hbw := (hb1.trans (s6.mono hb1.size)).grown hg3 (Nat.le_trans hb1.size s6.size) (fun q hq => (hown0.lt q hq).1)
      have hne : ∀ q, (Value.slice A3 L.length q3).ownBlock = some q → q ≠ hx := fun q hq => by have := (hlt5 q hq).2; omega
      have hx6 : hx < (w5.alloc (.cells #[.string a.key, .slice A9 a.vs.length q9] 59)).heap.size := Nat.lt_of_lt_of_le hlx s6.size
      have hc3 : ∀ o, w3.cell? ⟨hx, o, none⟩ = w1.cell? ⟨hx, o, none⟩ := fun o => (World.cell?_of_block (hg3.block hx hx6 (fun e => hne hx e.symm rfl))).trans (s6.cell (by exact hlx))
      have HC0 := Lib.hid (hc3 0)
      have HC1 := Lib.hid (hc3 1)
      have HR := Lib.hid hrn
      clear hc3 hrn hpush hin
      refine hK.out _ _ ⟨HC0.out.trans z0, HC1.out.trans z1⟩ (fun hHeld => ?_)
      clear hK K
      try go_frame
      refine t0 9 3 ?_
      go_frame
      refine wpAnyH_done (by kernel_rfl) ?_ _
      clear z0 z1 hC hHeld hg3 hat3 hown3 hown0 hrd0 o5 hb5 hb1 hr1 hr6 bH
      go_wp2
      go_roundw
      case rel =>
        refine ⟨k + 1, by omega, by go_num, ?_, hbw⟩
        rw [HS.out]
        exact HR.out
      case measure => simp [intOf]; omega
    · have hd1 : decide ((k : Int) < (n : Int)) = false := by simp; omega
      rw [List.take_of_length_le (by omega)] at hr
      go_wp2
      go_ret
      exact ⟨_, rfl, hr, hb⟩
/-- what is held in some blocks is held in more -/
theorem HdRel.wide {α : Type} {R : Rel α} {size N : Nat} {K K' : Nat → Bool} {w : World} {v : Value} {l : List α} (hR : R.Mono) (h : HdRel R size (only K w) N v l) (hK : ∀ k, K k = true → k < N → K' k = true) : HdRel R size (only K' w) N v l :=
  h.mono hR fun p u hp hc => by
    obtain ⟨hk, hu⟩ := only_cell hc
    rw [only_cell_in (hK _ hk hp)]; exact hu
/-- headers merged read as histories merged, where only the blocks of K and those of the call's own are left -/
def orB (K : Nat → Bool) (b : Nat) : Nat → Bool := fun k => K k || decide (b ≤ k)
theorem merged_low {w w' : World} {K : Nat → Bool} {v : Value} {L1 L2 : List Hh} {l1 l2 : List Hs} (h1 : All2 (HhOk (only K w) w.heap.size) L1 l1) (h2 : All2 (HhOk (only K w) w.heap.size) L2 l2) (ho : OwnL Hh.cells 59 2 w.heap.size w' v (mergeL Hh.key L1 L2)) (hb : Below w.heap.size w w') (hK : ∀ k, K k = true → k < w.heap.size) : HdRel HsRel 2 (only (orB K w.heap.size) w') w'.heap.size v (mergeL Hs.key l1 l2) := by
  have ho' : OwnL Hh.cells 59 2 w.heap.size (only (orB K w.heap.size) w') v (mergeL Hh.key L1 L2) := owns_only ho fun k e => by unfold orB; simp only [Bool.or_eq_true, decide_eq_true_eq]; exact .inr (ho.lt k e).1
  obtain ⟨A, n, c, rfl, hn, hc, hs⟩ := ho'.sl (ok := fun _ => True) (by omega) hh_len (fun _ _ => trivial)
  rw [only_size] at hs
  have hm := (All2.merge hhOk_key _ L1 L2 l1 l2 (Nat.le_refl _) h1 h2).imp fun a b (h : HhOk (only K w) w.heap.size a b) => (⟨h.1, h.2.1, h.2.2.1, h.2.2.2.1, ((h.2.2.2.2.keep VnRel.kept fun p _ => only_same (K := K) (w' := w') (w := w) (fun k hk => hb.block k (hK k hk)) p).mono VnRel.mono fun p u _ hc => by
      obtain ⟨hk, hu⟩ := only_cell hc
      rw [only_cell_in (by unfold orB; rw [hk]; rfl)]; exact hu).more VnRel.kept hb.size⟩ : HhOk (only (orB K w.heap.size) w') w'.heap.size a b)
  exact ⟨A, n, c, rfl, hn, hc, hs.of_hhs hm⟩
theorem meetH_low (K : Nat → Bool) (A1 A2 : Option Addr) (n1 n2 c1 c2 : Nat) (l1 l2 : List Hs) (w : World) (hK : ∀ k, K k = true → k < w.heap.size) (h1 : Sl HsRel 2 (only K w) w.heap.size A1 n1 l1) (h2 : Sl HsRel 2 (only K w) w.heap.size A2 n2 l2) (hn1 : n1 ≤ 100000000) (hn2 : n2 ≤ 100000000) (r1 : RiseK Hs.key l1) (r2 : RiseK Hs.key l2) (hd : ∀ a ∈ l1, ∀ b ∈ l2, a.key ≠ b.key) :
    Calls Tryz.prog 24 #[.slice A1 n1 c1, .slice A2 n2 c2, .func (.func 25) #[] #[]] w fun e w' => ∃ v, e = .returned v ∧ HdRel HsRel 2 (only (orB K w.heap.size) w') w'.heap.size v (mergeL Hs.key l1 l2) ∧ Below w.heap.size w w' := by
  obtain ⟨L1, e1, x1, -, y1⟩ := h1.hhs
  obtain ⟨L2, e2, x2, -, y2⟩ := h2.hhs
  have z1 : Reads w w.heap.size 2 A1 n1 (L1.flatMap Hh.cells) := ⟨x1.1, fun h => by obtain ⟨ad, e, hb, hc⟩ := x1.2 h; exact ⟨ad, e, hb, fun i u hu => (only_cell (hc i u hu)).2⟩⟩
  have z2 : Reads w w.heap.size 2 A2 n2 (L2.flatMap Hh.cells) := ⟨x2.1, fun h => by obtain ⟨ad, e, hb, hc⟩ := x2.2 h; exact ⟨ad, e, hb, fun i u hu => (only_cell (hc i u hu)).2⟩⟩
  refine (meet_h A1 A2 n1 n2 c1 c2 L1 L2 w z1 z2 e1 e2 hn1 hn2).mono ?_
  rintro e w' ⟨v, l, rfl, ho, hm, hb⟩
  obtain rfl := met_merge hm (y1.rise hhOk_key r1) (y2.rise hhOk_key r2) (all2_apart y1 y2 hd)
  exact ⟨v, rfl, merged_low y1 y2 ho hb hK, hb⟩
theorem rmergeH_low (K : Nat → Bool) (A1 A2 : Option Addr) (n1 n2 c1 c2 : Nat) (l1 l2 : List Hs) (w : World) (hK : ∀ k, K k = true → k < w.heap.size) (h1 : Sl HsRel 2 (only K w) w.heap.size A1 n1 l1) (h2 : Sl HsRel 2 (only K w) w.heap.size A2 n2 l2) (hn1 : n1 ≤ 100000000) (hn2 : n2 ≤ 100000000) :
    Calls Tryz.prog 30 #[.slice A1 n1 c1, .slice A2 n2 c2] w fun e w' => ∃ v, e = .returned v ∧ HdRel HsRel 2 (only (orB K w.heap.size) w') w'.heap.size v (mergeL Hs.key l1 l2) ∧ Below w.heap.size w w' := by
  obtain ⟨L1, e1, -, x1, y1⟩ := h1.hhs
  obtain ⟨L2, e2, -, x2, y2⟩ := h2.hhs
  have hm : HhRel.Mono := Flat.mono _ _
  refine (rmerge_h A1 A2 n1 n2 c1 c2 L1 L2 w (x1.mono hm fun p u _ hc => (only_cell hc).2) (x2.mono hm fun p u _ hc => (only_cell hc).2) hn1 hn2).mono ?_
  rintro e w' ⟨v, rfl, ho, hb⟩
  exact ⟨v, rfl, merged_low y1 y2 ho hb hK, hb⟩
end Go.Proofs.YtipacjbegfingaaGreat
