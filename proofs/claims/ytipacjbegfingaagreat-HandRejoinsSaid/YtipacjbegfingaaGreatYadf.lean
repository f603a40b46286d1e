/- The document's Rejoin: plain law of its steps; a copy whose pending ones stand in a row of their own. -/
import Derived.Test.YtipacjbegfingaaGreatYadc
import Derived.Test.YtipacjbegfingaaGreatYadd
namespace Go.Proofs.YtipacjbegfingaaGreat
set_option linter.unusedVariables false
open Go.RowKit Fl
attribute [local go_sem] run_store_float

/-- the left's pending ones, joined with those of the right that came so far -/
def stP (l m : List Pn) : List Pn := l.map fun x => joinP x (m.find? fun p => decide (p.t = x.t))
theorem stP_nil (l : List Pn) : stP l [] = l := by
  unfold stP
  exact (List.map_congr_left fun x _ => rfl).trans (List.map_id l)
theorem stP_len (l m : List Pn) : (stP l m).length = l.length := List.length_map ..
theorem joinP_ts (x : Pn) (o : Option Pn) : (joinP x o).t = x.t ∧ (joinP x o).s = x.s := by cases o <;> exact ⟨rfl, rfl⟩
theorem stP_get {l m : List Pn} {i : Nat} {y : Pn} (h : (stP l m)[i]? = some y) : ∃ x, l[i]? = some x ∧ y.t = x.t ∧ y.s = x.s := by
  unfold stP at h
  rw [List.getElem?_map] at h
  cases hx : l[i]? with
  | none => rw [hx] at h; cases h
  | some x =>
    rw [hx] at h
    injection h with h
    subst h
    exact ⟨x, rfl, joinP_ts _ _⟩
theorem alikeP_ts {x y p : Pn} (h1 : y.t = x.t) (h2 : y.s = x.s) : alikeP y p = alikeP x p := by unfold alikeP; rw [h1, h2]
/-- one step: the like one is joined, once -/
theorem stP_snoc {l m : List Pn} {p x : Pn} {i : Nat} (hl : l.Pairwise fun a b => a.t ≠ b.t) (hm : ∀ y ∈ m, y.t ≠ p.t) (hx : l[i]? = some x) (ha : alikeP x p = true) :
    (stP l m)[i]? = some x ∧ stP l (m ++ [p]) = (stP l m).set i ⟨x.t, x.s, mergeL id x.r p.r, mergeL Wt.key x.w p.w⟩ := by
  have hxt : x.t = p.t := by unfold alikeP at ha; rw [Bool.and_eq_true, decide_eq_true_eq] at ha; exact ha.1
  have hi := (List.getElem?_eq_some_iff.1 hx).1
  have hn : (m.find? fun q => decide (q.t = x.t)) = none := List.find?_eq_none.2 fun q hq => by simp only [decide_eq_true_eq]; rw [hxt]; exact hm q hq
  refine ⟨?_, List.ext_getElem? fun j => ?_⟩
  · unfold stP
    rw [List.getElem?_map, hx]
    show some (joinP x (m.find? fun q => decide (q.t = x.t))) = some x
    rw [hn]; rfl
  · by_cases hj : i = j
    · subst hj
      rw [List.getElem?_set_self (by rw [stP_len]; exact hi)]
      unfold stP
      rw [List.getElem?_map, hx]
      show some (joinP x ((m ++ [p]).find? fun q => decide (q.t = x.t))) = _
      rw [List.find?_append, hn, Option.none_or, List.find?_cons_of_pos (by simp [hxt])]
      rfl
    · rw [List.getElem?_set_ne hj]
      unfold stP
      rw [List.getElem?_map, List.getElem?_map]
      cases hy : l[j]? with
      | none => rfl
      | some y =>
        have hne : y.t ≠ p.t := by
          obtain ⟨hj1, ej⟩ := List.getElem?_eq_some_iff.1 hy
          obtain ⟨hi1, ei⟩ := List.getElem?_eq_some_iff.1 hx
          have hp := List.pairwise_iff_getElem.1 hl
          intro e
          rcases Nat.lt_or_gt_of_ne hj with h | h
          · exact hp i j hi1 hj1 h (by rw [ei, ej, hxt, e])
          · exact hp j i hj1 hi1 h (by rw [ei, ej, hxt, e])
        show some (joinP y ((m ++ [p]).find? fun q => decide (q.t = y.t))) = some (joinP y (m.find? fun q => decide (q.t = y.t)))
        rw [List.find?_append, List.find?_cons_of_neg (by simp only [decide_eq_true_eq]; exact fun e => hne e.symm), List.find?_nil, Option.or_none]
theorem set_set_pn {l : List Pn} {i : Nat} {a b : Pn} : (l.set i a).set i b = l.set i b := List.set_set ..

def CopySRow (s : Stt) (w : World) : Ending → World → Prop := fun e w' => ∃ (B1 : Option Addr) (m1 d1 : Nat) (v4 : Value) (N : Nat), e = .returned (.agg (s.arr (.slice B1 m1 d1) v4)) ∧ m1 ≤ d1 ∧ d1 ≤ maxLen ∧ Sl HsRel 2 (only (rng w.heap.size N) w') w'.heap.size B1 m1 s.h ∧ Pair PnRel 45 8 N w' v4 (.slice none 0 0) s.p [] ∧ w.heap.size ≤ N ∧ N ≤ w'.heap.size ∧ Below w.heap.size w w'
set_option maxRecDepth 100000 in
set_option maxHeartbeats 4000000 in
theorem copyS_row (s : Stt) (A1 A2 : Option Addr) (n1 n2 c1 c2 : Nat) (w : World) (h1 : Sl HsRel 2 w w.heap.size A1 n1 s.h) (h2 : Sl PnRel 8 w w.heap.size A2 n2 s.p) (hH : SmallH s.h) (hQ : SmallP s.p) :
    Calls Tryz.prog 7 #[.agg (s.arr (.slice A1 n1 c1) (.slice A2 n2 c2))] w (CopySRow s w) := by
  have hX : Below w.heap.size w ((w.alloc (.cells (s.arr (.slice A1 n1 c1) (.slice A2 n2 c2)) 30)).alloc (.cells zeroSt 30)) := by go_grown
  have i1 : Blk ((w.alloc (.cells (s.arr (.slice A1 n1 c1) (.slice A2 n2 c2)) 30)).alloc (.cells zeroSt 30)) w.heap.size 30 (s.arr (.slice A1 n1 c1) (.slice A2 n2 c2)) := (Blk.new _ _ _).alloc _
  have i2 : Blk ((w.alloc (.cells (s.arr (.slice A1 n1 c1) (.slice A2 n2 c2)) 30)).alloc (.cells zeroSt 30)) (w.heap.size + 1) 30 zeroSt := Blk.new' _ _ (by simp)
  have hT := fun w' (hb : Below w.heap.size w w') => copyHs_any A1 n1 c1 s.h w' ((h1.below HsRel.kept hb).more HsRel.kept hb.size) hH
  have hW := fun w' (hb : Below w.heap.size w w') => copyPs_any A2 n2 c2 s.p w' ((h2.below PnRel.kept hb).more PnRel.kept hb.size) hQ
  go_enter Tryz.func7, Tryz.ntmps7
  go_wp2
  generalize ((w.alloc (.cells (s.arr (.slice A1 n1 c1) (.slice A2 n2 c2)) 30)).alloc (.cells zeroSt 30)) = w0 at *
  have l1 := i1.lt
  have l2 := i2.lt
  refine wp_region_held_drew (S := fun w' => Blk w' w.heap.size 30 (s.arr (.slice A1 n1 c1) (.slice A2 n2 c2))) (by kernel_rfl) i1.drew (fun hHeld => ?_)
  refine wpAnyH_take (i := 0) (oi := ⟨some 3, _, _, _, _, _⟩) (v := .pointer (some ⟨w.heap.size, 0, none⟩)) rfl (by kernel_rfl) (by kernel_rfl) (by kernel_rfl) (fun _ _ _ h => h) (Or.inl ⟨by kernel_rfl, fun W hSw => by clear hSw; go_simp⟩) hHeld ?_
  go_frame
  refine wpAnyH_take (i := 1) (oi := ⟨some 4, _, _, _, _, _⟩) rfl (by kernel_rfl) (by kernel_rfl) (by kernel_rfl) (fun _ _ _ h => h) (yieldsIf_load_mid (by kernel_rfl) _ _ rfl w.heap.size 0 rfl [.int .i64 s.r.id, .int .i64 s.r.ep, .float .f64 s.r.lo, .float .f64 s.r.hi] _ (fun W hSw => Blk.range hSw 0 _ (four_of rfl rfl rfl rfl)) rfl rfl (by kernel_rfl)) hHeld ?_
  go_frame
  refine wpAnyH_take (i := 2) (oi := ⟨some 5, _, _, _, _, _⟩) (v := .pointer (some ⟨w.heap.size, 4, none⟩)) rfl (by kernel_rfl) (by kernel_rfl) (by kernel_rfl) (fun _ _ _ h => h) (Or.inl ⟨by kernel_rfl, fun W hSw => by clear hSw; go_simp⟩) hHeld ?_
  go_frame
  refine wpAnyH_take (i := 3) (oi := ⟨some 6, _, _, _, _, _⟩) rfl (by kernel_rfl) (by kernel_rfl) (by kernel_rfl) (fun _ _ _ h => h) (yieldsIf_load_mid (by kernel_rfl) _ _ rfl w.heap.size 4 rfl [.int .i64 s.f.w, .int .i64 s.f.l, .int .i64 s.f.n] _ (fun W hSw => Blk.range hSw 4 _ (three_of rfl rfl rfl)) rfl rfl (by kernel_rfl)) hHeld ?_
  go_frame
  refine wpAnyH_take (i := 4) (oi := ⟨some 7, _, _, _, _, _⟩) (v := .pointer (some ⟨w.heap.size, 7, none⟩)) rfl (by kernel_rfl) (by kernel_rfl) (by kernel_rfl) (fun _ _ _ h => h) (Or.inl ⟨by kernel_rfl, fun W hSw => by clear hSw; go_simp⟩) hHeld ?_
  go_frame
  refine wpAnyH_take (i := 5) (oi := ⟨some 8, _, _, _, _, _⟩) rfl (by kernel_rfl) (by kernel_rfl) (by kernel_rfl) (fun _ _ _ h => h) (yieldsIf_load_mid (by kernel_rfl) _ _ rfl w.heap.size 7 rfl [.int .i64 s.c.w, .int .i64 s.c.l, .int .i64 s.c.n] _ (fun W hSw => Blk.range hSw 7 _ (three_of rfl rfl rfl)) rfl rfl (by kernel_rfl)) hHeld ?_
  go_frame
  refine wpAnyH_take (i := 6) (oi := ⟨some 9, _, _, _, _, _⟩) (v := .pointer (some ⟨w.heap.size, 10, none⟩)) rfl (by kernel_rfl) (by kernel_rfl) (by kernel_rfl) (fun _ _ _ h => h) (Or.inl ⟨by kernel_rfl, fun W hSw => by clear hSw; go_simp⟩) hHeld ?_
  go_frame
  refine wpAnyH_take (i := 7) (oi := ⟨some 10, _, _, _, _, _⟩) (v := .slice A1 n1 c1) rfl (by kernel_rfl) (by kernel_rfl) (by kernel_rfl) (fun _ _ _ h => h) (Or.inl ⟨by kernel_rfl, fun W hSw => by have z : W.cell? ⟨w.heap.size, 10, none⟩ = some (.slice A1 n1 c1) := Blk.cell hSw 10; clear hSw; go_simp⟩) hHeld ?_
  go_frame
  refine wpAnyH_take (i := 9) (oi := ⟨some 12, _, _, _, _, _⟩) (v := .pointer (some ⟨w.heap.size, 11, none⟩)) rfl (by kernel_rfl) (by kernel_rfl) (by kernel_rfl) (fun _ _ _ h => h) (Or.inl ⟨by kernel_rfl, fun W hSw => by clear hSw; go_simp⟩) hHeld ?_
  go_frame
  refine wpAnyH_take (i := 10) (oi := ⟨some 13, _, _, _, _, _⟩) (v := .slice A2 n2 c2) rfl (by kernel_rfl) (by kernel_rfl) (by kernel_rfl) (fun _ _ _ h => h) (Or.inl ⟨by kernel_rfl, fun W hSw => by have z : W.cell? ⟨w.heap.size, 11, none⟩ = some (.slice A2 n2 c2) := Blk.cell hSw 11; clear hSw; go_simp⟩) hHeld ?_
  go_frame
  refine wpAnyH_ready (rs := [8]) (by kernel_rfl) (by simp) ?_
  refine AllReadyH.cons rfl (fun K hK => ?_) AllReadyH.nil
  go_simp
  refine (hT _ hX.drew).mono ?_
  rintro e w3 ⟨v3, rfl, o3, hb3⟩
  have j1 := i1.drew.below hb3 l1
  have j2 := i2.drew.below hb3 l2
  have hY : Below w.heap.size w w3 := hX.drew.trans (hb3.mono hX.size)
  have o3 : Pair HsRel 59 2 w0.heap.size w3 v3 (.slice none 0 0) s.h [] := o3
  have hz0 : w0.heap.size ≤ w3.heap.size := hb3.size
  obtain ⟨A3, q3, rfl, hq3, hq3m⟩ := o3.form1
  clear hb3 i1 i2 hHeld
  refine hK.out _ _ j1 (fun hHeld => ?_)
  clear hK K
  try go_frame
  refine wpAnyH_ready (rs := [11]) (by kernel_rfl) (by simp) ?_
  refine AllReadyH.cons rfl (fun K hK => ?_) AllReadyH.nil
  go_simp
  refine (hW _ hY).mono ?_
  rintro e w4 ⟨v4, rfl, o4, hb4⟩
  have k1 := j1.below hb4 j1.lt
  have k2 := j2.below hb4 j2.lt
  have hZ : Below w.heap.size w w4 := hY.trans (hb4.mono hY.size)
  have hz3 := j2.lt
  have o4 : Pair PnRel 45 8 w3.heap.size w4 v4 (.slice none 0 0) s.p [] := o4
  have h3 := (o3.held HsRel.mono (by omega)).1.stay (w' := w4) HsRel.kept fun k hk => hb4.block k (rng_iff.1 hk).2
  have hz34 : w3.heap.size ≤ w4.heap.size := hb4.size
  obtain ⟨A4, q4, rfl, hq4, hq4m⟩ := o4.form1
  clear hb4 j1 j2 hHeld
  refine hK.out _ _ k1 (fun hHeld => ?_)
  clear hK K
  try go_frame
  refine wpAnyH_take (i := 12) (oi := ⟨some 15, _, _, _, _, _⟩) (v := .agg (s.arr (.slice A3 s.h.length q3) (.slice A4 s.p.length q4))) rfl (by kernel_rfl) (by kernel_rfl) (by kernel_rfl) (fun _ _ _ h => h) (Or.inl ⟨by kernel_rfl, fun W hSw => by clear hSw; go_simp⟩) hHeld ?_
  go_frame
  refine wpAnyH_store_rowE (i := 13) (by kernel_rfl) rfl rfl _ _ _ rfl (w.heap.size + 1) (s.arr (.slice A3 s.h.length q3) (.slice A4 s.p.length q4)) (by kernel_rfl) (by kernel_rfl) _ _ k2 (by kernel_rfl) rfl (by kernel_rfl) (k1.setRow_far _ (by omega)) ?_
  intro w5 hw5
  go_frame
  refine wpAnyH_done (by kernel_rfl) ?_ _
  go_wp2
  refine post_cell rfl (by kernel_rfl) (by rw [hw5]; exact k2.setRow _) rfl rfl (by kernel_rfl) ?_
  have hs5 : w5.heap.size = w4.heap.size := by rw [hw5, size_setRow]
  have hk5 : ∀ k, w.heap.size + 2 ≤ k → w5.heap[k]? = w4.heap[k]? := fun k hk => by rw [hw5]; exact setRow_other _ _ _ _ (by omega)
  have hz5 : w5.heap.size ≤ w5.heap.size := Nat.le_refl _
  have h5 := h3.stay (w' := w5) HsRel.kept fun k hk => hk5 k (by rw [rng_iff] at hk; omega)
  have p5 := o4.same (w' := w5) PnRel.kept PnRel.mono (by omega) fun k hk _ => hk5 k (by omega)
  obtain ⟨_, _, _, e3, -, -, r3⟩ := h5
  injection e3 with a1 a2 a3
  subst a1 a2 a3
  have r5 := (r3.mono (w' := only (rng w.heap.size w3.heap.size) w5) HsRel.mono fun p u _ hc => by
    obtain ⟨hk, hu⟩ := only_cell hc
    rw [only_cell_in (rng_iff.2 (by rw [rng_iff] at hk; omega))]; exact hu).more HsRel.kept (show w3.heap.size ≤ w5.heap.size by omega)
  rw [hw5] at r5 p5
  rw [hw5]
  exact ⟨_, _, _, _, w3.heap.size, rfl, hq3, hq3m, r5, p5, by omega, by rw [size_setRow]; omega, below_setRow hZ (by omega) _⟩


/-- the pending ones stand in block g, one behind the other; what they hold is read in the blocks of K -/
def PRow (K : Nat → Bool) (g : Nat) (A : Option Addr) (w : World) (P : List Pn) : Prop :=
  0 < P.length → A = some ⟨g, 0, none⟩ ∧ K g = false ∧ ∃ cur : Array Value, Blk w g 45 cur ∧ ∀ (i : Nat) (a : Pn), P[i]? = some a → ∃ v1 v2, (∀ j u, (a.cl v1 v2)[j]? = some u → cur[i * 8 + j]? = some u) ∧ a.t.ok ∧ a.s.ok ∧ HdRel KyRel 1 (only K w) w.heap.size v1 a.r ∧ HdRel WtRel 4 (only K w) w.heap.size v2 a.w
theorem only_keep {K : Nat → Bool} {w w' : World} {p : Addr} (h : w'.cell? p = w.cell? p) : (only K w').cell? p = (only K w).cell? p := by
  cases hk : K p.block
  · rw [only_cell_out hk, only_cell_out hk]
  · rw [only_cell_in hk, only_cell_in hk]; exact h
section
variable {K : Nat → Bool} {g : Nat} {A : Option Addr} {w w' : World} {P : List Pn}
theorem PRow.of_pair {N n c : Nat} (h : Pair PnRel 45 8 N w (.slice A n c) (.slice none 0 0) P []) : ∃ g, PRow (fun k => decide (N ≤ k) && decide (k ≠ g) && decide (k ≠ w.heap.size)) g A w P ∧ (0 < P.length → N ≤ g ∧ g < w.heap.size) := by
  obtain ⟨⟨css, ho, hlen, hl, hc⟩, -, -⟩ := h
  rcases ho.2 with ⟨e, hz⟩ | ⟨g, cap, cur, e, hN, hg, hn, hm, hs, ht⟩
  · exact ⟨0, fun h => by omega, fun h => by omega⟩
  · injection e with e1 e2 e3
    have hgl := (Array.getElem?_eq_some_iff.1 hg).1
    refine ⟨g, fun _ => ⟨e1, by simp, cur, hg, fun i a ha => ?_⟩, fun _ => ⟨hN, hgl⟩⟩
    have hi := (List.getElem?_eq_some_iff.1 ha).1
    have hcs : css[i]? = some css[i] := List.getElem?_eq_getElem (by omega)
    have hm' : css[i] ∈ css := List.getElem_mem _
    obtain ⟨r, q, e4, h1, h2, h3, h4⟩ := hc i _ a hcs ha
    have wide : ∀ p u, (only (freeB N w.heap.size (.slice A n c) (.slice none 0 0)) w).cell? p = some u → (only (fun k => decide (N ≤ k) && decide (k ≠ g) && decide (k ≠ w.heap.size)) w).cell? p = some u := fun p u hp => by
      obtain ⟨hk, hu⟩ := only_cell hp
      rw [freeB_iff] at hk
      rw [only_cell_in ?_]
      · exact hu
      · simp only [Bool.and_eq_true, decide_eq_true_eq]
        exact ⟨⟨hk.1, fun e5 => hk.2.2.1 (by rw [e1, e5]; rfl)⟩, by omega⟩
    refine ⟨r, q, fun j u hj => ?_, h1, h2, h3.mono KyRel.mono fun p u _ hp => wide p u hp, h4.mono WtRel.mono fun p u _ hp => wide p u hp⟩
    have hj8 : j < 8 := (List.getElem?_eq_some_iff.1 hj).1
    have hf := flatten_get 8 css i j hl hj8
    rw [hcs] at hf
    have hj' : css.flatten[i * 8 + j]? = some u := by rw [hf]; show (css[i])[j]? = some u; rw [e4]; exact hj
    rw [← ht, List.getElem?_take] at hj'
    split at hj'
    · rwa [Array.getElem?_toList] at hj'
    · cases hj'
theorem PRow.below (h : PRow K g A w P) (hb : Below w.heap.size w w') : PRow K g A w' P := fun h0 => by
  obtain ⟨e, hk, cur, hB, hP⟩ := h h0
  refine ⟨e, hk, cur, hB.below hb hB.lt, fun i a ha => ?_⟩
  obtain ⟨v1, v2, h1, h2, h3, h4, h5⟩ := hP i a ha
  exact ⟨v1, v2, h1, h2, h3, (h4.keep KyRel.kept fun p hp => only_keep (hb.cell hp)).more KyRel.kept hb.size, (h5.keep WtRel.kept fun p hp => only_keep (hb.cell hp)).more WtRel.kept hb.size⟩
theorem PRow.other {b o : Nat} (h : PRow K g A w P) (hbg : 0 < P.length → b ≠ g) (hKb : K b = false) (u : Value) : PRow K g A (w.setCell ⟨b, o, none⟩ u) P := fun h0 => by
  obtain ⟨e, hk, cur, hB, hP⟩ := h h0
  have hs : (w.setCell ⟨b, o, none⟩ u).heap.size = w.heap.size := by simp [World.setCell]
  have ho : ∀ p : Addr, (only K (w.setCell ⟨b, o, none⟩ u)).cell? p = (only K w).cell? p := only_same fun k hk => Below.heap_setCell _ _ _ _ (fun e2 => by have e3 : k = b := e2; rw [e3, hKb] at hk; cases hk)
  refine ⟨e, hk, cur, hB.far (p := ⟨b, o, none⟩) (fun e2 => hbg h0 e2.symm) u, fun i a ha => ?_⟩
  obtain ⟨v1, v2, h1, h2, h3, h4, h5⟩ := hP i a ha
  rw [hs]
  exact ⟨v1, v2, h1, h2, h3, h4.keep KyRel.kept fun p hp => ho p, h5.keep WtRel.kept fun p hp => ho p⟩
theorem PRow.row {b : Nat} {cs : Array Value} (h : PRow K g A w P) (hbg : 0 < P.length → b ≠ g) (hKb : K b = false) : PRow K g A (w.setRow b cs) P := fun h0 => by
  obtain ⟨e, hk, cur, hB, hP⟩ := h h0
  have ho : ∀ p : Addr, (only K (w.setRow b cs)).cell? p = (only K w).cell? p := only_same fun k hk => setRow_other _ _ _ _ (fun e3 => by rw [e3, hKb] at hk; cases hk)
  refine ⟨e, hk, cur, hB.setRow_far cs (fun e2 => hbg h0 e2), fun i a ha => ?_⟩
  obtain ⟨v1, v2, h1, h2, h3, h4, h5⟩ := hP i a ha
  rw [size_setRow]
  exact ⟨v1, v2, h1, h2, h3, h4.keep KyRel.kept fun p hp => ho p, h5.keep WtRel.kept fun p hp => ho p⟩
theorem Sl.wide {α : Type} {R : Rel α} {size n B : Nat} {K K' : Nat → Bool} {w : World} {A : Option Addr} {l : List α} (hR : R.Mono) (h : Sl R size (only K w) B A n l) (hK : ∀ k, K k = true → K' k = true) : Sl R size (only K' w) B A n l :=
  h.mono hR fun p u _ hc => by
    obtain ⟨hk, hu⟩ := only_cell hc
    rw [only_cell_in (hK _ hk)]; exact hu
/-- the reads (6) or the writes (7) of one are turned -/
theorem PRow.turn (h : PRow K g A w P) {i : Nat} {a a' : Pn} {v : Value} {o : Nat} (ha : P[i]? = some a) (ho : o = 6 ∨ o = 7) (ht : a'.t = a.t) (hs : a'.s = a.s)
    (h6 : o = 6 → a'.w = a.w ∧ HdRel KyRel 1 (only K w) w.heap.size v a'.r) (h7 : o = 7 → a'.r = a.r ∧ HdRel WtRel 4 (only K w) w.heap.size v a'.w) : PRow K g A (w.setCell ⟨g, i * 8 + o, none⟩ v) (P.set i a') := fun h0 => by
  rw [List.length_set] at h0
  obtain ⟨e, hk, cur, hB, hP⟩ := h h0
  have hsz : (w.setCell ⟨g, i * 8 + o, none⟩ v).heap.size = w.heap.size := by simp [World.setCell]
  have hon : ∀ p : Addr, (only K (w.setCell ⟨g, i * 8 + o, none⟩ v)).cell? p = (only K w).cell? p := only_same fun k hk2 => Below.heap_setCell _ _ _ _ (fun e2 => by have e3 : k = g := e2; rw [e3, hk] at hk2; cases hk2)
  have up1 : ∀ {u : Value} {l : List ByteArray}, HdRel KyRel 1 (only K w) w.heap.size u l → HdRel KyRel 1 (only K (w.setCell ⟨g, i * 8 + o, none⟩ v)) w.heap.size u l := fun h => h.keep KyRel.kept fun p _ => hon p
  have up2 : ∀ {u : Value} {l : List Wt}, HdRel WtRel 4 (only K w) w.heap.size u l → HdRel WtRel 4 (only K (w.setCell ⟨g, i * 8 + o, none⟩ v)) w.heap.size u l := fun h => h.keep WtRel.kept fun p _ => hon p
  have hi := (List.getElem?_eq_some_iff.1 ha).1
  rw [hsz]
  refine ⟨e, hk, cur.setIfInBounds (i * 8 + o) v, hB.set_ (i * 8 + o) v, fun j b hb => ?_⟩
  by_cases hj : i = j
  · subst hj
    rw [List.getElem?_set_self hi] at hb
    injection hb with hb
    subst hb
    obtain ⟨v1, v2, k1, k2, k3, k4, k5⟩ := hP i a ha
    rcases ho with rfl | rfl
    · obtain ⟨ew, hv⟩ := h6 rfl
      refine ⟨v, v2, fun j u hj => ?_, by rw [ht]; exact k2, by rw [hs]; exact k3, up1 hv, by rw [ew]; exact up2 k5⟩
      have hj8 : j < 8 := (List.getElem?_eq_some_iff.1 hj).1
      by_cases h6j : j = 6
      · subst h6j
        have : u = v := by simpa using hj.symm
        subst this
        have k6 := k1 6 v1 rfl
        rw [Array.getElem?_setIfInBounds_self_of_lt (Array.getElem?_eq_some_iff.1 k6).1]
      · rw [Array.getElem?_setIfInBounds_ne (by omega)]
        refine k1 j u ?_
        rw [← hj]
        match j, h6j, hj8 with
        | 0, _, _ => show some (Value.int .i64 a.t.c) = some (Value.int .i64 a'.t.c); rw [ht]
        | 1, _, _ => show some (Value.int .i64 a.t.l) = some (Value.int .i64 a'.t.l); rw [ht]
        | 2, _, _ => show some (Value.int .i64 a.t.s) = some (Value.int .i64 a'.t.s); rw [ht]
        | 3, _, _ => show some (Value.int .i64 a.s.w) = some (Value.int .i64 a'.s.w); rw [hs]
        | 4, _, _ => show some (Value.int .i64 a.s.l) = some (Value.int .i64 a'.s.l); rw [hs]
        | 5, _, _ => show some (Value.int .i64 a.s.n) = some (Value.int .i64 a'.s.n); rw [hs]
        | 6, h, _ => exact absurd rfl h
        | 7, _, _ => rfl
        | k + 8, _, h => omega
    · obtain ⟨er, hv⟩ := h7 rfl
      refine ⟨v1, v, fun j u hj => ?_, by rw [ht]; exact k2, by rw [hs]; exact k3, by rw [er]; exact up1 k4, up2 hv⟩
      have hj8 : j < 8 := (List.getElem?_eq_some_iff.1 hj).1
      by_cases h7j : j = 7
      · subst h7j
        have : u = v := by simpa using hj.symm
        subst this
        have k7 := k1 7 v2 rfl
        rw [Array.getElem?_setIfInBounds_self_of_lt (Array.getElem?_eq_some_iff.1 k7).1]
      · rw [Array.getElem?_setIfInBounds_ne (by omega)]
        refine k1 j u ?_
        rw [← hj]
        match j, h7j, hj8 with
        | 0, _, _ => show some (Value.int .i64 a.t.c) = some (Value.int .i64 a'.t.c); rw [ht]
        | 1, _, _ => show some (Value.int .i64 a.t.l) = some (Value.int .i64 a'.t.l); rw [ht]
        | 2, _, _ => show some (Value.int .i64 a.t.s) = some (Value.int .i64 a'.t.s); rw [ht]
        | 3, _, _ => show some (Value.int .i64 a.s.w) = some (Value.int .i64 a'.s.w); rw [hs]
        | 4, _, _ => show some (Value.int .i64 a.s.l) = some (Value.int .i64 a'.s.l); rw [hs]
        | 5, _, _ => show some (Value.int .i64 a.s.n) = some (Value.int .i64 a'.s.n); rw [hs]
        | 6, _, _ => rfl
        | 7, h, _ => exact absurd rfl h
        | k + 8, _, h => omega
  · rw [List.getElem?_set_ne hj] at hb
    obtain ⟨v1, v2, k1, k2, k3, k4, k5⟩ := hP j b hb
    refine ⟨v1, v2, fun q u hq => ?_, k2, k3, up1 k4, up2 k5⟩
    have hq8 : q < 8 := (List.getElem?_eq_some_iff.1 hq).1
    rw [Array.getElem?_setIfInBounds_ne (by omega)]
    exact k1 q u hq
/-- one of them -/
theorem PRow.get (h : PRow K g A w P) {i : Nat} {a : Pn} (ha : P[i]? = some a) : ∃ (A1 : Option Addr) (n1 c1 : Nat) (A2 : Option Addr) (n2 c2 : Nat), A = some ⟨g, 0, none⟩ ∧ g < w.heap.size ∧ w.cell? ⟨g, i * 8, none⟩ = some (.int .i64 a.t.c) ∧ w.cell? ⟨g, i * 8 + 1, none⟩ = some (.int .i64 a.t.l) ∧ w.cell? ⟨g, i * 8 + 2, none⟩ = some (.int .i64 a.t.s) ∧
    w.cell? ⟨g, i * 8 + 3, none⟩ = some (.int .i64 a.s.w) ∧ w.cell? ⟨g, i * 8 + 4, none⟩ = some (.int .i64 a.s.l) ∧ w.cell? ⟨g, i * 8 + 5, none⟩ = some (.int .i64 a.s.n) ∧ w.cell? ⟨g, i * 8 + 6, none⟩ = some (.slice A1 n1 c1) ∧ w.cell? ⟨g, i * 8 + 7, none⟩ = some (.slice A2 n2 c2) ∧
    (∀ o, w.frozen? ⟨g, o, none⟩ = false) ∧ n1 ≤ c1 ∧ c1 ≤ maxLen ∧ n2 ≤ c2 ∧ c2 ≤ maxLen ∧ Sl KyRel 1 (only K w) w.heap.size A1 n1 a.r ∧ Sl WtRel 4 (only K w) w.heap.size A2 n2 a.w := by
  obtain ⟨e, hk, cur, hB, hP⟩ := h (by have := (List.getElem?_eq_some_iff.1 ha).1; omega)
  obtain ⟨v1, v2, k1, k2, k3, ⟨A1, n1, c1, rfl, h1, h2, h3⟩, A2, n2, c2, rfl, h4, h5, h6⟩ := hP i a ha
  have c := fun o => hB.cell o
  exact ⟨A1, n1, c1, A2, n2, c2, e, hB.lt, by rw [hB.cell]; exact k1 0 _ rfl, by rw [hB.cell]; exact k1 1 _ rfl, by rw [hB.cell]; exact k1 2 _ rfl, by rw [hB.cell]; exact k1 3 _ rfl, by rw [hB.cell]; exact k1 4 _ rfl, by rw [hB.cell]; exact k1 5 _ rfl, by rw [hB.cell]; exact k1 6 _ rfl, by rw [hB.cell]; exact k1 7 _ rfl, fun o => hB.frozen o, h1, h2, h4, h5, h3, h6⟩
/-- all of them, as a list -/
theorem PRow.sl (h : PRow K g A w P) : Sl PnRel 8 w w.heap.size A P.length P :=
  ⟨rfl, fun i a ha => by
    obtain ⟨e, hk, cur, hB, hP⟩ := h (by have := (List.getElem?_eq_some_iff.1 ha).1; omega)
    obtain ⟨v1, v2, k1, k2, k3, k4, k5⟩ := hP i a ha
    refine ⟨⟨g, 0, none⟩, a.cl v1 v2, e, hB.lt, rfl, fun j u hj => ?_, v1, v2, rfl, k2, k3, k4.mono KyRel.mono fun p u _ hc => (only_cell hc).2, k5.mono WtRel.mono fun p u _ hc => (only_cell hc).2⟩
    rw [Addr.add_mid, Nat.zero_add, hB.cell]
    exact k1 j u hj⟩
end
end Go.Proofs.YtipacjbegfingaaGreat
