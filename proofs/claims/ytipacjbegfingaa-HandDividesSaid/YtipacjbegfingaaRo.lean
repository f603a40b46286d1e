/- Rows of structs that hold slices: what an element's slices read lies in blocks that the rows' own growth does not turn. Plain lemmas over any program. -/
import Derived.Test.YtipacjbegfingaaDd
namespace Go.Proofs.Ytipacjbegfingaa
set_option linter.unusedVariables false
open Go.RowKit

/-- the world with all blocks outside K struck out -/
def only (K : Nat → Bool) (w : World) : World := { w with heap := w.heap.mapIdx fun k o => if K k then o else .cells #[] 0 (0, 0) }
section
variable {K K' : Nat → Bool} {w w' : World} {p : Addr} {u : Value} {k : Nat}
theorem only_size : (only K w).heap.size = w.heap.size := by simp [only]
theorem only_in (h : K k = true) : (only K w).heap[k]? = w.heap[k]? := by
  unfold only
  simp only [Array.getElem?_mapIdx, h]
  cases w.heap[k]? <;> rfl
theorem only_cell_in (h : K p.block = true) : (only K w).cell? p = w.cell? p := World.cell?_of_block (only_in h)
theorem only_cell_out (h : K p.block = false) : (only K w).cell? p = none := by
  unfold only World.cell?
  simp only [Array.getElem?_mapIdx, h]
  cases w.heap[p.block]? <;> simp
theorem only_cell (h : (only K w).cell? p = some u) : K p.block = true ∧ w.cell? p = some u := by
  cases hk : K p.block
  · rw [only_cell_out hk] at h; cases h
  · rw [only_cell_in hk] at h; exact ⟨rfl, h⟩
theorem only_same (h : ∀ k, K k = true → w'.heap[k]? = w.heap[k]?) (p : Addr) : (only K w').cell? p = (only K w).cell? p := by
  cases hk : K p.block
  · rw [only_cell_out hk, only_cell_out hk]
  · rw [only_cell_in hk, only_cell_in hk]; exact World.cell?_of_block (h _ hk)
theorem owns_only {base e size n : Nat} {v : Value} {xs : List Value} (h : w.ownsRow base e size v n xs) (hK : ∀ k, v.ownBlock = some k → K k = true) : (only K w).ownsRow base e size v n xs := by
  refine ⟨h.1, ?_⟩
  rcases h.2 with hn | ⟨g, cap, cur, rfl, hb, hgg, rest⟩
  · exact .inl hn
  · exact .inr ⟨g, cap, cur, rfl, hb, by rw [only_in (hK g rfl)]; exact hgg, rest⟩
theorem owns_same {base e size n : Nat} {v : Value} {xs : List Value} (h : w.ownsRow base e size v n xs) (hb : ∀ k, base ≤ k → k < w.heap.size → w'.heap[k]? = w.heap[k]?) : w'.ownsRow base e size v n xs := by
  refine ⟨h.1, ?_⟩
  rcases h.2 with hn | ⟨g, cap, cur, rfl, hg, hgg, rest⟩
  · exact .inl hn
  · exact .inr ⟨g, cap, cur, rfl, hg, by rw [hb g hg (Array.getElem?_eq_some_iff.1 hgg).1]; exact hgg, rest⟩
end

/-- a relation that only asks for cells that are there -/
def Rel.Mono {α : Type} (R : Rel α) : Prop := ∀ w w' B cs a, R w B cs a → (∀ p u, p.block < B → w.cell? p = some u → w'.cell? p = some u) → R w' B cs a
section
variable {α : Type} {R : Rel α} {size n : Nat} {w w' : World} {B : Nat} {v : Value} {A : Option Addr} {l : List α}
theorem Sl.mono (hR : R.Mono) (h : Sl R size w B A n l) (hk : ∀ p u, p.block < B → w.cell? p = some u → w'.cell? p = some u) : Sl R size w' B A n l :=
  ⟨h.1, fun i a hi => by
    obtain ⟨ad, cs, e, hb, hl, hc, hr⟩ := h.2 i a hi
    exact ⟨ad, cs, e, hb, hl, fun j u hu => hk _ _ (by rw [block_of_add]; exact hb) (hc j u hu), hR _ _ _ _ _ hr hk⟩⟩
theorem HdRel.mono (hR : R.Mono) (h : HdRel R size w B v l) (hk : ∀ p u, p.block < B → w.cell? p = some u → w'.cell? p = some u) : HdRel R size w' B v l := by
  obtain ⟨A, n, c, e, h1, h2, h3⟩ := h
  exact ⟨A, n, c, e, h1, h2, h3.mono hR hk⟩
end
theorem Flat.mono {α : Type} (cells : α → List Value) (ok : α → Prop) : (Flat cells ok).Mono := fun _ _ _ _ _ h _ => h
theorem KyRel.mono : (KyRel).Mono := Flat.mono _ _
theorem WtRel.mono : (WtRel).Mono := Flat.mono _ _
theorem VnRel.mono : (VnRel).Mono := Flat.mono _ _
theorem HsRel.mono : (HsRel).Mono := fun _ _ _ _ _ ⟨v, e, hk, h⟩ hw => ⟨v, e, hk, h.mono VnRel.mono hw⟩
theorem PnRel.mono : (PnRel).Mono := fun _ _ _ _ _ ⟨r, q, e, h1, h2, h3, h4⟩ hw => ⟨r, q, e, h1, h2, h3.mono KyRel.mono hw, h4.mono WtRel.mono hw⟩

/-- an element that reads in the blocks of K alone -/
def Inn {α : Type} (R : Rel α) (K : Nat → Bool) (w : World) (cs : List Value) (a : α) : Prop := R (only K w) w.heap.size cs a
section
variable {α : Type} {R : Rel α} {K K' : Nat → Bool} {w w' : World} {cs : List Value} {a : α}
theorem Inn.keep (hR : R.Kept) (h : Inn R K w cs a) (hb : ∀ k, K k = true → w'.heap[k]? = w.heap[k]?) (hs : w.heap.size ≤ w'.heap.size) : Inn R K w' cs a :=
  hR.2 _ _ _ _ _ (hR.1 _ _ _ _ _ h fun p _ => only_same hb p) hs
theorem Inn.wider (hR : R.Mono) (h : Inn R K w cs a) (hK : ∀ k, K k = true → K' k = true) : Inn R K' w cs a :=
  hR _ _ _ _ _ h fun p u _ hc => by
    obtain ⟨hk, hw⟩ := only_cell hc
    rw [only_cell_in (hK _ hk)]; exact hw
theorem Inn.out (hR : R.Mono) (h : Inn R K w cs a) : R w w.heap.size cs a := hR _ _ _ _ _ h fun p u _ hc => (only_cell hc).2
end

theorem flatten_get (k : Nat) : ∀ (css : List (List Value)) (i r : Nat), (∀ cs ∈ css, cs.length = k) → r < k → css.flatten[i * k + r]? = (css[i]?).bind fun cs => cs[r]? := by
  intro css
  induction css with
  | nil => intro i r _ _; simp
  | cons cs css ih =>
    intro i r hl hr
    have h0 := hl cs (List.mem_cons_self ..)
    rw [List.flatten_cons]
    cases i with
    | zero => rw [Nat.zero_mul, Nat.zero_add, List.getElem?_append_left (by omega)]; rfl
    | succ i =>
      have e : (i + 1) * k + r = k + (i * k + r) := by rw [Nat.succ_mul]; omega
      rw [e, List.getElem?_append_right (by omega), h0, Nat.add_sub_cancel_left, ih i r (fun c hc => hl c (List.mem_cons_of_mem _ hc)) hr]
      rfl

/-- a row of structs of the call's own, from block base on; what its elements' slices read lies in the blocks of K -/
def RowR {α : Type} (R : Rel α) (E size base : Nat) (K : Nat → Bool) (w : World) (v : Value) (l : List α) : Prop :=
  ∃ css : List (List Value), w.ownsRow base E size v l.length css.flatten ∧ css.length = l.length ∧ (∀ cs ∈ css, cs.length = size) ∧ ∀ (i : Nat) (cs : List Value) (a : α), css[i]? = some cs → l[i]? = some a → Inn R K w cs a
section
variable {α : Type} {R : Rel α} {E size base : Nat} {K K' : Nat → Bool} {w w' : World} {v : Value} {l : List α}
theorem RowR.nil (w : World) : RowR R E size base K w (.slice none 0 0) [] := ⟨[], World.ownsRow_nil _ _ _ _, rfl, fun cs h => by simp at h, fun i cs a h => by simp at h⟩
theorem RowR.form (h : RowR R E size base K w v l) : ∃ A c, v = .slice A l.length c ∧ l.length ≤ c ∧ c ≤ maxLen := by
  obtain ⟨css, ho, _⟩ := h
  exact own_form ho
theorem RowR.lt (h : RowR R E size base K w v l) : ∀ k, v.ownBlock = some k → base ≤ k ∧ k < w.heap.size := by
  obtain ⟨css, ho, _⟩ := h
  exact ho.lt
/-- the row, read where only the blocks of K' are left -/
theorem RowR.held (hR : R.Mono) (hsz : 0 < size) (h : RowR R E size base K w v l) (hK : ∀ k, K k = true → K' k = true) (hv : ∀ k, v.ownBlock = some k → K' k = true) : HdRel R size (only K' w) w.heap.size v l := by
  obtain ⟨css, ho, hlen, hl, hc⟩ := h
  obtain ⟨A, c, rfl, h1, h2⟩ := own_form ho
  refine ⟨A, _, c, rfl, h1, h2, rfl, fun i a hi => ?_⟩
  have hlt := (List.getElem?_eq_some_iff.1 hi).1
  have hr := Reads.of_own (owns_only ho hv)
  obtain ⟨ad, e, hb, hcell⟩ := hr.2 (by omega)
  have hcs : css[i]? = some css[i] := List.getElem?_eq_getElem (by omega)
  have hm : css[i] ∈ css := List.getElem_mem _
  refine ⟨ad, css[i], e, by rw [only_size] at hb; exact hb, hl _ hm, fun j u hj => hcell _ u ?_, (hc i _ a hcs hi).wider hR hK⟩
  have hj' := (List.getElem?_eq_some_iff.1 hj).1
  rw [flatten_get size css i j hl (by rw [← hl _ hm]; exact hj'), hcs]
  exact hj
theorem RowR.sl (hR : R.Mono) (hsz : 0 < size) (h : RowR R E size base K w v l) : HdRel R size w w.heap.size v l :=
  (h.held (K' := fun _ => true) hR hsz (fun _ _ => rfl) fun _ _ => rfl).mono hR fun p u _ hc => (only_cell hc).2
theorem RowR.same (hR : R.Kept) (hRm : R.Mono) (h : RowR R E size base K w v l) (hs : w.heap.size ≤ w'.heap.size) (hb : ∀ k, base ≤ k → k < w.heap.size → w'.heap[k]? = w.heap[k]?) (hK : ∀ k, K k = true → base ≤ k ∧ k < w.heap.size ∧ K' k = true) : RowR R E size base K' w' v l := by
  obtain ⟨css, ho, hlen, hl, hc⟩ := h
  exact ⟨css, owns_same ho hb, hlen, hl, fun i cs a h1 h2 => ((hc i cs a h1 h2).keep hR (fun k hk => hb k (hK k hk).1 (hK k hk).2.1) hs).wider hRm fun k hk => (hK k hk).2.2⟩
end

/-- the blocks from base on that are neither row's -/
def freeB (base size : Nat) (v1 v2 : Value) : Nat → Bool := fun k => decide (base ≤ k) && decide (k < size) && decide (v1.ownBlock ≠ some k) && decide (v2.ownBlock ≠ some k)
theorem freeB_iff {base size k : Nat} {v1 v2 : Value} : freeB base size v1 v2 k = true ↔ base ≤ k ∧ k < size ∧ v1.ownBlock ≠ some k ∧ v2.ownBlock ≠ some k := by
  unfold freeB
  simp only [Bool.and_eq_true, decide_eq_true_eq, and_assoc]
/-- two rows that grow side by side -/
def Pair {α : Type} (R : Rel α) (E size base : Nat) (w : World) (v1 v2 : Value) (l1 l2 : List α) : Prop :=
  RowR R E size base (freeB base w.heap.size v1 v2) w v1 l1 ∧ RowR R E size base (freeB base w.heap.size v1 v2) w v2 l2 ∧ Dis v1 v2
section
variable {α : Type} {R : Rel α} {E size base : Nat} {w w' : World} {v1 v2 : Value} {l1 l2 : List α}
theorem freeB_symm (base size : Nat) (v1 v2 : Value) : freeB base size v1 v2 = freeB base size v2 v1 := by
  funext k
  rw [Bool.eq_iff_iff, freeB_iff, freeB_iff]
  exact ⟨fun ⟨a, b, c, d⟩ => ⟨a, b, d, c⟩, fun ⟨a, b, c, d⟩ => ⟨a, b, d, c⟩⟩
theorem Pair.nil (w : World) : Pair R E size base w (.slice none 0 0) (.slice none 0 0) [] [] := ⟨RowR.nil _, RowR.nil _, Dis.nil _⟩
theorem Pair.symm (h : Pair R E size base w v1 v2 l1 l2) : Pair R E size base w v2 v1 l2 l1 := by
  obtain ⟨h1, h2, h3⟩ := h
  rw [freeB_symm] at h1 h2
  exact ⟨h2, h1, h3.symm⟩
theorem Pair.same (hR : R.Kept) (hRm : R.Mono) (h : Pair R E size base w v1 v2 l1 l2) (hs : w.heap.size ≤ w'.heap.size) (hb : ∀ k, base ≤ k → k < w.heap.size → w'.heap[k]? = w.heap[k]?) : Pair R E size base w' v1 v2 l1 l2 := by
  obtain ⟨h1, h2, h3⟩ := h
  have hK : ∀ k, freeB base w.heap.size v1 v2 k = true → base ≤ k ∧ k < w.heap.size ∧ freeB base w'.heap.size v1 v2 k = true := fun k hk => by
    rw [freeB_iff] at *
    exact ⟨hk.1, hk.2.1, hk.1, by omega, hk.2.2⟩
  exact ⟨h1.same hR hRm hs hb hK, h2.same hR hRm hs hb hK, h3⟩
theorem Pair.below (hR : R.Kept) (hRm : R.Mono) (h : Pair R E size base w v1 v2 l1 l2) (hb : Below w.heap.size w w') : Pair R E size base w' v1 v2 l1 l2 := h.same hR hRm hb.size fun k _ hk => hb.block k hk
theorem Pair.far (hR : R.Kept) (hRm : R.Mono) (h : Pair R E size base w v1 v2 l1 l2) {p : Addr} (hp : p.block < base) (u : Value) : Pair R E size base (w.setCell p u) v1 v2 l1 l2 :=
  h.same hR hRm (by simp [World.setCell]) fun k hk _ => Below.heap_setCell _ _ _ _ (by omega)
/-- the first row's cells; what an append makes of the pair -/
theorem Pair.own1 (hR : R.Kept) (hRm : R.Mono) (h : Pair R E size base w v1 v2 l1 l2) : ∃ xs, w.ownsRow base E size v1 l1.length xs ∧
    ∀ (cs : List Value) (a : α) (w' : World) (v' : Value), cs.length = size → Inn R (freeB base w.heap.size v1 v2) w cs a → w'.ownsRow base E size v' (l1.length + 1) (xs ++ cs) → w.grownBy w' v1.ownBlock → (v'.ownBlock = v1.ownBlock ∨ v'.ownBlock = some w.heap.size) →
      Pair R E size base w' v' v2 (l1 ++ [a]) l2 := by
  obtain ⟨⟨css, ho, hlen, hl, hc⟩, ⟨ds, ho2, hlen2, hl2, hc2⟩, hd⟩ := h
  refine ⟨css.flatten, ho, fun cs a w' v' hcs hin hown hg hat => ?_⟩
  have hK : ∀ k, freeB base w.heap.size v1 v2 k = true → freeB base w'.heap.size v' v2 k = true := fun k hk => by
    rw [freeB_iff] at *
    have := hg.size
    refine ⟨hk.1, by omega, fun e => ?_, hk.2.2.2⟩
    rcases hat with e2 | e2
    · rw [e2] at e; exact hk.2.2.1 e
    · rw [e2] at e; injection e with e; omega
  have hB : ∀ k, freeB base w.heap.size v1 v2 k = true → w'.heap[k]? = w.heap[k]? := fun k hk => by
    rw [freeB_iff] at hk
    exact hg.block k hk.2.1 (fun e => hk.2.2.1 e.symm)
  have up : ∀ {cs : List Value} {a : α}, Inn R (freeB base w.heap.size v1 v2) w cs a → Inn R (freeB base w'.heap.size v' v2) w' cs a := fun hi => (hi.keep hR hB hg.size).wider hRm hK
  have hlt := ho2.lt
  refine ⟨⟨css ++ [cs], ?_, by simp [hlen], ?_, ?_⟩, ⟨ds, ?_, hlen2, hl2, fun i cs a h1 h2 => up (hc2 i cs a h1 h2)⟩, ?_⟩
  · rw [List.length_append, List.flatten_append]
    simpa using hown
  · intro c hc'
    rcases List.mem_append.1 hc' with h1 | h1
    · exact hl c h1
    · simp only [List.mem_cons, List.not_mem_nil, or_false] at h1
      rw [h1]; exact hcs
  · intro i c b h1 h2
    by_cases hi : i < l1.length
    · rw [List.getElem?_append_left (by omega)] at h1 h2
      exact up (hc i c b h1 h2)
    · have hi2 : i = l1.length := by
        have := (List.getElem?_eq_some_iff.1 h2).1
        rw [List.length_append, List.length_cons, List.length_nil] at this
        omega
      subst hi2
      rw [List.getElem?_append_right (Nat.le_refl _)] at h2
      rw [← hlen, List.getElem?_append_right (Nat.le_refl _)] at h1
      simp only [Nat.sub_self, List.getElem?_cons_zero, Option.some.injEq] at h1 h2
      subst h1 h2
      exact up hin
  · refine ho2.kept hg ?_
    cases e : v2.ownBlock with
    | none => exact .inl rfl
    | some k => exact .inr fun e2 => hd k e2.symm e
  · intro k e e2
    rcases hat with e3 | e3
    · exact hd k (e3.symm.trans e) e2
    · have := (hlt k e2).2
      rw [e3] at e; injection e; omega
theorem Pair.form1 (h : Pair R E size base w v1 v2 l1 l2) : ∃ A c, v1 = .slice A l1.length c ∧ l1.length ≤ c ∧ c ≤ maxLen := h.1.form
theorem Pair.form2 (h : Pair R E size base w v1 v2 l1 l2) : ∃ A c, v2 = .slice A l2.length c ∧ l2.length ≤ c ∧ c ≤ maxLen := h.2.1.form
theorem Pair.ne1 (h : Pair R E size base w v1 v2 l1 l2) {g : Nat} (hg : g < base) : some g ≠ v1.ownBlock := fun e => by have := (h.1.lt g e.symm).1; omega
/-- from block b on all is free -/
theorem Pair.fresh (h : Pair R E size base w v1 v2 l1 l2) (hs : w.heap.size ≤ w'.heap.size) {b : Nat} (hb : w.heap.size ≤ b) (hbb : base ≤ b) : ∀ k, b ≤ k → k < w'.heap.size → freeB base w'.heap.size v1 v2 k = true := fun k hk hk2 => by
  rw [freeB_iff]
  refine ⟨by omega, hk2, fun e => ?_, fun e => ?_⟩
  · have := (h.1.lt k e).2; omega
  · have := (h.2.1.lt k e).2; omega
end
/-- a slice of the call's own, read where only the blocks of K are left -/
theorem OwnL.inn {α : Type} {f : α → List Value} {ok : α → Prop} {E size b : Nat} {K : Nat → Bool} {w : World} {v : Value} {l : List α} (hk : 0 < size) (hf : ∀ a, (f a).length = size) (h : OwnL f E size b w v l) (hok : ∀ a ∈ l, ok a) (hK : ∀ k, b ≤ k → k < w.heap.size → K k = true) :
    HdRel (Flat f ok) size (only K w) w.heap.size v l := by
  have h' : OwnL f E size b (only K w) v l := owns_only h fun k e => hK k (h.lt k e).1 (h.lt k e).2
  have := h'.sl hk hf hok
  rw [only_size] at this
  exact this
def rng (a b : Nat) : Nat → Bool := fun k => decide (a ≤ k) && decide (k < b)
theorem rng_iff {a b k : Nat} : rng a b k = true ↔ a ≤ k ∧ k < b := by unfold rng; simp only [Bool.and_eq_true, decide_eq_true_eq]
/-- both rows, held in the blocks from base up to now -/
theorem Pair.held {α : Type} {R : Rel α} {E size base : Nat} {w : World} {v1 v2 : Value} {l1 l2 : List α} (hRm : R.Mono) (hsz : 0 < size) (h : Pair R E size base w v1 v2 l1 l2) :
    HdRel R size (only (rng base w.heap.size) w) w.heap.size v1 l1 ∧ HdRel R size (only (rng base w.heap.size) w) w.heap.size v2 l2 :=
  ⟨h.1.held hRm hsz (fun k hk => by rw [freeB_iff] at hk; rw [rng_iff]; exact ⟨hk.1, hk.2.1⟩) fun k e => rng_iff.2 (h.1.lt k e),
   h.2.1.held hRm hsz (fun k hk => by rw [freeB_iff] at hk; rw [rng_iff]; exact ⟨hk.1, hk.2.1⟩) fun k e => rng_iff.2 (h.2.1.lt k e)⟩
/-- what is held in blocks that stay -/
theorem HdRel.stay {α : Type} {R : Rel α} {size N : Nat} {K : Nat → Bool} {w w' : World} {v : Value} {l : List α} (hR : R.Kept) (h : HdRel R size (only K w) N v l) (hb : ∀ k, K k = true → w'.heap[k]? = w.heap[k]?) : HdRel R size (only K w') N v l := h.keep hR fun p _ => only_same hb p
theorem HdRel.out {α : Type} {R : Rel α} {size N : Nat} {K : Nat → Bool} {w : World} {v : Value} {l : List α} (hR : R.Kept) (hRm : R.Mono) (h : HdRel R size (only K w) N v l) (hN : N ≤ w.heap.size) : HdRel R size w w.heap.size v l :=
  (h.mono hRm fun p u _ hc => (only_cell hc).2).more hR hN
end Go.Proofs.Ytipacjbegfingaa
