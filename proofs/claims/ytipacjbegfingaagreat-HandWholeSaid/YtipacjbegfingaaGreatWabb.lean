/- Rows of structs that hold slices: what an element's slices read lies in blocks that the rows' own growth does not turn. Plain lemmas over any program. -/
import Derived.Deep.RegionLaw
import Derived.Test.YtipacjbegfingaaGreatWaad
import Derived.Test.YtipacjbegfingaaGreatWaah
import Derived.Test.YtipacjbegfingaaGreatWaaj
import Derived.Test.YtipacjbegfingaaGreatWaba
namespace Go.Proofs.YtipacjbegfingaaGreat
set_option linter.unusedVariables false
open Go.RowKit

/-- the world with all blocks outside K struck out -/
def only (K : Nat → Bool) (w : World) : World := { w with heap := w.heap.mapIdx fun k o => if K k then o else .cells #[] 0 (0, 0) }
section
variable {K K' : Nat → Bool} {w w' : World} {p : Addr} {u : Value} {k : Nat}
theorem only_size : (only K w).heap.size = w.heap.size := by simp [only]
theorem only_in (h : K k = true) : (only K w).heap[k]? = w.heap[k]? := by
  unfold only
  simp only [Array.getElem?_mapIdx, h]
  cases w.heap[k]? <;> rfl
theorem only_cell_in (h : K p.block = true) : (only K w).cell? p = w.cell? p := World.cell?_of_block (only_in h)
theorem only_cell_out (h : K p.block = false) : (only K w).cell? p = none := by
  unfold only World.cell?
  simp only [Array.getElem?_mapIdx, h]
  cases w.heap[p.block]? <;> simp
theorem only_cell (h : (only K w).cell? p = some u) : K p.block = true ∧ w.cell? p = some u := by
  cases hk : K p.block
  · rw [only_cell_out hk] at h; cases h
  · rw [only_cell_in hk] at h; exact ⟨rfl, h⟩
theorem only_same (h : ∀ k, K k = true → w'.heap[k]? = w.heap[k]?) (p : Addr) : (only K w').cell? p = (only K w).cell? p := by
  cases hk : K p.block
  · rw [only_cell_out hk, only_cell_out hk]
  · rw [only_cell_in hk, only_cell_in hk]; exact World.cell?_of_block (h _ hk)
theorem owns_only {base e size n : Nat} {v : Value} {xs : List Value} (h : w.ownsRow base e size v n xs) (hK : ∀ k, v.ownBlock = some k → K k = true) : (only K w).ownsRow base e size v n xs := by
  refine ⟨h.1, ?_⟩
  rcases h.2 with hn | ⟨g, cap, cur, rfl, hb, hgg, rest⟩
  · exact .inl hn
  · exact .inr ⟨g, cap, cur, rfl, hb, by rw [only_in (hK g rfl)]; exact hgg, rest⟩
theorem owns_same {base e size n : Nat} {v : Value} {xs : List Value} (h : w.ownsRow base e size v n xs) (hb : ∀ k, base ≤ k → k < w.heap.size → w'.heap[k]? = w.heap[k]?) : w'.ownsRow base e size v n xs := by
  refine ⟨h.1, ?_⟩
  rcases h.2 with hn | ⟨g, cap, cur, rfl, hg, hgg, rest⟩
  · exact .inl hn
  · exact .inr ⟨g, cap, cur, rfl, hg, by rw [hb g hg (Array.getElem?_eq_some_iff.1 hgg).1]; exact hgg, rest⟩
end

/-- a relation that only asks for cells that are there -/
def Rel.Mono {α : Type} (R : Rel α) : Prop := ∀ w w' B cs a, R w B cs a → (∀ p u, p.block < B → w.cell? p = some u → w'.cell? p = some u) → R w' B cs a
section
variable {α : Type} {R : Rel α} {size n : Nat} {w w' : World} {B : Nat} {v : Value} {A : Option Addr} {l : List α}
theorem Sl.mono (hR : R.Mono) (h : Sl R size w B A n l) (hk : ∀ p u, p.block < B → w.cell? p = some u → w'.cell? p = some u) : Sl R size w' B A n l :=
  ⟨h.1, fun i a hi => by
    obtain ⟨ad, cs, e, hb, hl, hc, hr⟩ := h.2 i a hi
    exact ⟨ad, cs, e, hb, hl, fun j u hu => hk _ _ (by rw [block_of_add]; exact hb) (hc j u hu), hR _ _ _ _ _ hr hk⟩⟩
theorem HdRel.mono (hR : R.Mono) (h : HdRel R size w B v l) (hk : ∀ p u, p.block < B → w.cell? p = some u → w'.cell? p = some u) : HdRel R size w' B v l := by
  obtain ⟨A, n, c, e, h1, h2, h3⟩ := h
  exact ⟨A, n, c, e, h1, h2, h3.mono hR hk⟩
end
theorem Flat.mono {α : Type} (cells : α → List Value) (ok : α → Prop) : (Flat cells ok).Mono := fun _ _ _ _ _ h _ => h
theorem KyRel.mono : (KyRel).Mono := Flat.mono _ _
theorem WtRel.mono : (WtRel).Mono := Flat.mono _ _
theorem VnRel.mono : (VnRel).Mono := Flat.mono _ _
theorem HsRel.mono : (HsRel).Mono := fun _ _ _ _ _ ⟨v, e, hk, h⟩ hw => ⟨v, e, hk, h.mono VnRel.mono hw⟩
theorem PnRel.mono : (PnRel).Mono := fun _ _ _ _ _ ⟨r, q, e, h1, h2, h3, h4⟩ hw => ⟨r, q, e, h1, h2, h3.mono KyRel.mono hw, h4.mono WtRel.mono hw⟩

/-- an element that reads in the blocks of K alone -/
def Inn {α : Type} (R : Rel α) (K : Nat → Bool) (w : World) (cs : List Value) (a : α) : Prop := R (only K w) w.heap.size cs a
section
variable {α : Type} {R : Rel α} {K K' : Nat → Bool} {w w' : World} {cs : List Value} {a : α}
theorem Inn.keep (hR : R.Kept) (h : Inn R K w cs a) (hb : ∀ k, K k = true → w'.heap[k]? = w.heap[k]?) (hs : w.heap.size ≤ w'.heap.size) : Inn R K w' cs a :=
  hR.2 _ _ _ _ _ (hR.1 _ _ _ _ _ h fun p _ => only_same hb p) hs
theorem Inn.wider (hR : R.Mono) (h : Inn R K w cs a) (hK : ∀ k, K k = true → K' k = true) : Inn R K' w cs a :=
  hR _ _ _ _ _ h fun p u _ hc => by
    obtain ⟨hk, hw⟩ := only_cell hc
    rw [only_cell_in (hK _ hk)]; exact hw
theorem Inn.out (hR : R.Mono) (h : Inn R K w cs a) : R w w.heap.size cs a := hR _ _ _ _ _ h fun p u _ hc => (only_cell hc).2
end

theorem flatten_get (k : Nat) : ∀ (css : List (List Value)) (i r : Nat), (∀ cs ∈ css, cs.length = k) → r < k → css.flatten[i * k + r]? = (css[i]?).bind fun cs => cs[r]? := by
  intro css
  induction css with
  | nil => intro i r _ _; simp
  | cons cs css ih =>
    intro i r hl hr
    have h0 := hl cs (List.mem_cons_self ..)
    rw [List.flatten_cons]
    cases i with
    | zero => rw [Nat.zero_mul, Nat.zero_add, List.getElem?_append_left (by omega)]; rfl
    | succ i =>
      have e : (i + 1) * k + r = k + (i * k + r) := by rw [Nat.succ_mul]; omega
      rw [e, List.getElem?_append_right (by omega), h0, Nat.add_sub_cancel_left, ih i r (fun c hc => hl c (List.mem_cons_of_mem _ hc)) hr]
      rfl

/-- a row of structs of the call's own, from block base on; what its elements' slices read lies in the blocks of K -/
def RowR {α : Type} (R : Rel α) (E size base : Nat) (K : Nat → Bool) (w : World) (v : Value) (l : List α) : Prop :=
  ∃ css : List (List Value), w.ownsRow base E size v l.length css.flatten ∧ css.length = l.length ∧ (∀ cs ∈ css, cs.length = size) ∧ ∀ (i : Nat) (cs : List Value) (a : α), css[i]? = some cs → l[i]? = some a → Inn R K w cs a
section
variable {α : Type} {R : Rel α} {E size base : Nat} {K K' : Nat → Bool} {w w' : World} {v : Value} {l : List α}
theorem RowR.nil (w : World) : RowR R E size base K w (.slice none 0 0) [] := ⟨[], World.ownsRow_nil _ _ _ _, rfl, fun cs h => by simp at h, fun i cs a h => by simp at h⟩
theorem RowR.form (h : RowR R E size base K w v l) : ∃ A c, v = .slice A l.length c ∧ l.length ≤ c ∧ c ≤ maxLen := by
  obtain ⟨css, ho, _⟩ := h
  exact own_form ho
theorem RowR.lt (h : RowR R E size base K w v l) : ∀ k, v.ownBlock = some k → base ≤ k ∧ k < w.heap.size := by
  obtain ⟨css, ho, _⟩ := h
  exact ho.lt
/-- the row, read where only the blocks of K' are left -/
theorem RowR.held (hR : R.Mono) (hsz : 0 < size) (h : RowR R E size base K w v l) (hK : ∀ k, K k = true → K' k = true) (hv : ∀ k, v.ownBlock = some k → K' k = true) : HdRel R size (only K' w) w.heap.size v l := by
  obtain ⟨css, ho, hlen, hl, hc⟩ := h
  obtain ⟨A, c, rfl, h1, h2⟩ := own_form ho
  refine ⟨A, _, c, rfl, h1, h2, rfl, fun i a hi => ?_⟩
  have hlt := (List.getElem?_eq_some_iff.1 hi).1
  have hr := Reads.of_own (owns_only ho hv)
  obtain ⟨ad, e, hb, hcell⟩ := hr.2 (by omega)
  have hcs : css[i]? = some css[i] := List.getElem?_eq_getElem (by omega)
  have hm : css[i] ∈ css := List.getElem_mem _
  refine ⟨ad, css[i], e, by rw [only_size] at hb; exact hb, hl _ hm, fun j u hj => hcell _ u ?_, (hc i _ a hcs hi).wider hR hK⟩
  have hj' := (List.getElem?_eq_some_iff.1 hj).1
  rw [flatten_get size css i j hl (by rw [← hl _ hm]; exact hj'), hcs]
  exact hj
theorem RowR.sl (hR : R.Mono) (hsz : 0 < size) (h : RowR R E size base K w v l) : HdRel R size w w.heap.size v l :=
  (h.held (K' := fun _ => true) hR hsz (fun _ _ => rfl) fun _ _ => rfl).mono hR fun p u _ hc => (only_cell hc).2
theorem RowR.same (hR : R.Kept) (hRm : R.Mono) (h : RowR R E size base K w v l) (hs : w.heap.size ≤ w'.heap.size) (hb : ∀ k, base ≤ k → k < w.heap.size → w'.heap[k]? = w.heap[k]?) (hK : ∀ k, K k = true → base ≤ k ∧ k < w.heap.size ∧ K' k = true) : RowR R E size base K' w' v l := by
  obtain ⟨css, ho, hlen, hl, hc⟩ := h
  exact ⟨css, owns_same ho hb, hlen, hl, fun i cs a h1 h2 => ((hc i cs a h1 h2).keep hR (fun k hk => hb k (hK k hk).1 (hK k hk).2.1) hs).wider hRm fun k hk => (hK k hk).2.2⟩
end

/-- the blocks from base on that are neither row's -/
def freeB (base size : Nat) (v1 v2 : Value) : Nat → Bool := fun k => decide (base ≤ k) && decide (k < size) && decide (v1.ownBlock ≠ some k) && decide (v2.ownBlock ≠ some k)
theorem freeB_iff {base size k : Nat} {v1 v2 : Value} : freeB base size v1 v2 k = true ↔ base ≤ k ∧ k < size ∧ v1.ownBlock ≠ some k ∧ v2.ownBlock ≠ some k := by
  unfold freeB
  simp only [Bool.and_eq_true, decide_eq_true_eq, and_assoc]
/-- two rows that grow side by side -/
def Pair {α : Type} (R : Rel α) (E size base : Nat) (w : World) (v1 v2 : Value) (l1 l2 : List α) : Prop :=
  RowR R E size base (freeB base w.heap.size v1 v2) w v1 l1 ∧ RowR R E size base (freeB base w.heap.size v1 v2) w v2 l2 ∧ Dis v1 v2
section
variable {α : Type} {R : Rel α} {E size base : Nat} {w w' : World} {v1 v2 : Value} {l1 l2 : List α}
theorem freeB_symm (base size : Nat) (v1 v2 : Value) : freeB base size v1 v2 = freeB base size v2 v1 := by
  funext k
  rw [Bool.eq_iff_iff, freeB_iff, freeB_iff]
  exact ⟨fun ⟨a, b, c, d⟩ => ⟨a, b, d, c⟩, fun ⟨a, b, c, d⟩ => ⟨a, b, d, c⟩⟩
theorem Pair.nil (w : World) : Pair R E size base w (.slice none 0 0) (.slice none 0 0) [] [] := ⟨RowR.nil _, RowR.nil _, Dis.nil _⟩
theorem Pair.symm (h : Pair R E size base w v1 v2 l1 l2) : Pair R E size base w v2 v1 l2 l1 := by
  obtain ⟨h1, h2, h3⟩ := h
  rw [freeB_symm] at h1 h2
  exact ⟨h2, h1, h3.symm⟩
theorem Pair.same (hR : R.Kept) (hRm : R.Mono) (h : Pair R E size base w v1 v2 l1 l2) (hs : w.heap.size ≤ w'.heap.size) (hb : ∀ k, base ≤ k → k < w.heap.size → w'.heap[k]? = w.heap[k]?) : Pair R E size base w' v1 v2 l1 l2 := by
  obtain ⟨h1, h2, h3⟩ := h
  have hK : ∀ k, freeB base w.heap.size v1 v2 k = true → base ≤ k ∧ k < w.heap.size ∧ freeB base w'.heap.size v1 v2 k = true := fun k hk => by
    rw [freeB_iff] at *
    exact ⟨hk.1, hk.2.1, hk.1, by omega, hk.2.2⟩
  exact ⟨h1.same hR hRm hs hb hK, h2.same hR hRm hs hb hK, h3⟩
theorem Pair.below (hR : R.Kept) (hRm : R.Mono) (h : Pair R E size base w v1 v2 l1 l2) (hb : Below w.heap.size w w') : Pair R E size base w' v1 v2 l1 l2 := h.same hR hRm hb.size fun k _ hk => hb.block k hk
theorem Pair.far (hR : R.Kept) (hRm : R.Mono) (h : Pair R E size base w v1 v2 l1 l2) {p : Addr} (hp : p.block < base) (u : Value) : Pair R E size base (w.setCell p u) v1 v2 l1 l2 :=
  h.same hR hRm (by simp [World.setCell]) fun k hk _ => Below.heap_setCell _ _ _ _ (by omega)
/-- the first row's cells; what an append makes of the pair -/
theorem Pair.own1 (hR : R.Kept) (hRm : R.Mono) (h : Pair R E size base w v1 v2 l1 l2) : ∃ xs, w.ownsRow base E size v1 l1.length xs ∧
    ∀ (cs : List Value) (a : α) (w' : World) (v' : Value), cs.length = size → Inn R (freeB base w.heap.size v1 v2) w cs a → w'.ownsRow base E size v' (l1.length + 1) (xs ++ cs) → w.grownBy w' v1.ownBlock → (v'.ownBlock = v1.ownBlock ∨ v'.ownBlock = some w.heap.size) →
      Pair R E size base w' v' v2 (l1 ++ [a]) l2 := by
  obtain ⟨⟨css, ho, hlen, hl, hc⟩, ⟨ds, ho2, hlen2, hl2, hc2⟩, hd⟩ := h
  refine ⟨css.flatten, ho, fun cs a w' v' hcs hin hown hg hat => ?_⟩
  have hK : ∀ k, freeB base w.heap.size v1 v2 k = true → freeB base w'.heap.size v' v2 k = true := fun k hk => by
    rw [freeB_iff] at *
    have := hg.size
    refine ⟨hk.1, by omega, fun e => ?_, hk.2.2.2⟩
    rcases hat with e2 | e2
    · rw [e2] at e; exact hk.2.2.1 e
    · rw [e2] at e; injection e with e; omega
  have hB : ∀ k, freeB base w.heap.size v1 v2 k = true → w'.heap[k]? = w.heap[k]? := fun k hk => by
    rw [freeB_iff] at hk
    exact hg.block k hk.2.1 (fun e => hk.2.2.1 e.symm)
  have up : ∀ {cs : List Value} {a : α}, Inn R (freeB base w.heap.size v1 v2) w cs a → Inn R (freeB base w'.heap.size v' v2) w' cs a := fun hi => (hi.keep hR hB hg.size).wider hRm hK
  have hlt := ho2.lt
  refine ⟨⟨css ++ [cs], ?_, by simp [hlen], ?_, ?_⟩, ⟨ds, ?_, hlen2, hl2, fun i cs a h1 h2 => up (hc2 i cs a h1 h2)⟩, ?_⟩
  · rw [List.length_append, List.flatten_append]
    simpa using hown
  · intro c hc'
    rcases List.mem_append.1 hc' with h1 | h1
    · exact hl c h1
    · simp only [List.mem_cons, List.not_mem_nil, or_false] at h1
      rw [h1]; exact hcs
  · intro i c b h1 h2
    by_cases hi : i < l1.length
    · rw [List.getElem?_append_left (by omega)] at h1 h2
      exact up (hc i c b h1 h2)
    · have hi2 : i = l1.length := by
        have := (List.getElem?_eq_some_iff.1 h2).1
        rw [List.length_append, List.length_cons, List.length_nil] at this
        omega
      subst hi2
      rw [List.getElem?_append_right (Nat.le_refl _)] at h2
      rw [← hlen, List.getElem?_append_right (Nat.le_refl _)] at h1
      simp only [Nat.sub_self, List.getElem?_cons_zero, Option.some.injEq] at h1 h2
      subst h1 h2
      exact up hin
  · refine ho2.kept hg ?_
    cases e : v2.ownBlock with
    | none => exact .inl rfl
    | some k => exact .inr fun e2 => hd k e2.symm e
  · intro k e e2
    rcases hat with e3 | e3
    · exact hd k (e3.symm.trans e) e2
    · have := (hlt k e2).2
      rw [e3] at e; injection e; omega
theorem Pair.form1 (h : Pair R E size base w v1 v2 l1 l2) : ∃ A c, v1 = .slice A l1.length c ∧ l1.length ≤ c ∧ c ≤ maxLen := h.1.form
theorem Pair.form2 (h : Pair R E size base w v1 v2 l1 l2) : ∃ A c, v2 = .slice A l2.length c ∧ l2.length ≤ c ∧ c ≤ maxLen := h.2.1.form
theorem Pair.ne1 (h : Pair R E size base w v1 v2 l1 l2) {g : Nat} (hg : g < base) : some g ≠ v1.ownBlock := fun e => by have := (h.1.lt g e.symm).1; omega
/-- from block b on all is free -/
theorem Pair.fresh (h : Pair R E size base w v1 v2 l1 l2) (hs : w.heap.size ≤ w'.heap.size) {b : Nat} (hb : w.heap.size ≤ b) (hbb : base ≤ b) : ∀ k, b ≤ k → k < w'.heap.size → freeB base w'.heap.size v1 v2 k = true := fun k hk hk2 => by
  rw [freeB_iff]
  refine ⟨by omega, hk2, fun e => ?_, fun e => ?_⟩
  · have := (h.1.lt k e).2; omega
  · have := (h.2.1.lt k e).2; omega
end
/-- a slice of the call's own, read where only the blocks of K are left -/
theorem OwnL.inn {α : Type} {f : α → List Value} {ok : α → Prop} {E size b : Nat} {K : Nat → Bool} {w : World} {v : Value} {l : List α} (hk : 0 < size) (hf : ∀ a, (f a).length = size) (h : OwnL f E size b w v l) (hok : ∀ a ∈ l, ok a) (hK : ∀ k, b ≤ k → k < w.heap.size → K k = true) :
    HdRel (Flat f ok) size (only K w) w.heap.size v l := by
  have h' : OwnL f E size b (only K w) v l := owns_only h fun k e => hK k (h.lt k e).1 (h.lt k e).2
  have := h'.sl hk hf hok
  rw [only_size] at this
  exact this
def rng (a b : Nat) : Nat → Bool := fun k => decide (a ≤ k) && decide (k < b)
theorem rng_iff {a b k : Nat} : rng a b k = true ↔ a ≤ k ∧ k < b := by unfold rng; simp only [Bool.and_eq_true, decide_eq_true_eq]
/-- both rows, held in the blocks from base up to now -/
theorem Pair.held {α : Type} {R : Rel α} {E size base : Nat} {w : World} {v1 v2 : Value} {l1 l2 : List α} (hRm : R.Mono) (hsz : 0 < size) (h : Pair R E size base w v1 v2 l1 l2) :
    HdRel R size (only (rng base w.heap.size) w) w.heap.size v1 l1 ∧ HdRel R size (only (rng base w.heap.size) w) w.heap.size v2 l2 :=
  ⟨h.1.held hRm hsz (fun k hk => by rw [freeB_iff] at hk; rw [rng_iff]; exact ⟨hk.1, hk.2.1⟩) fun k e => rng_iff.2 (h.1.lt k e),
   h.2.1.held hRm hsz (fun k hk => by rw [freeB_iff] at hk; rw [rng_iff]; exact ⟨hk.1, hk.2.1⟩) fun k e => rng_iff.2 (h.2.1.lt k e)⟩
/-- what is held in blocks that stay -/
theorem HdRel.stay {α : Type} {R : Rel α} {size N : Nat} {K : Nat → Bool} {w w' : World} {v : Value} {l : List α} (hR : R.Kept) (h : HdRel R size (only K w) N v l) (hb : ∀ k, K k = true → w'.heap[k]? = w.heap[k]?) : HdRel R size (only K w') N v l := h.keep hR fun p _ => only_same hb p
theorem HdRel.out {α : Type} {R : Rel α} {size N : Nat} {K : Nat → Bool} {w : World} {v : Value} {l : List α} (hR : R.Kept) (hRm : R.Mono) (h : HdRel R size (only K w) N v l) (hN : N ≤ w.heap.size) : HdRel R size w w.heap.size v l :=
  (h.mono hRm fun p u _ hc => (only_cell hc).2).more hR hN
end Go.Proofs.YtipacjbegfingaaGreat
/- The walk of Divide where it refuses. -/
namespace Go.Proofs.YtipacjbegfingaaGreat
set_option linter.unusedVariables false
open Go.RowKit Fl
attribute [local go_sem] run_store_float

/-- what Divide leaves -/
def DivPostS (w : World) (a b : Stt) (e : Int) : Ending → World → Prop := fun en w' => ∃ h1 p1 h2 p2, en = .returned (.tuple #[.agg (a.arr h1 p1), .agg (b.arr h2 p2), .int .i64 e]) ∧
  HdRel HsRel 2 w' w'.heap.size h1 a.h ∧ HdRel PnRel 8 w' w'.heap.size p1 a.p ∧ HdRel HsRel 2 w' w'.heap.size h2 b.h ∧ HdRel PnRel 8 w' w'.heap.size p2 b.p ∧ Below w.heap.size w w'
theorem DivPostS.zero {w w' : World} {e : Int} (hb : Below w.heap.size w w') : DivPostS w zeroS zeroS e (.returned (.tuple #[.agg zeroCells, .agg zeroCells, .int .i64 e])) w' :=
  ⟨_, _, _, _, rfl, HdRel.nil, HdRel.nil, HdRel.nil, HdRel.nil, hb⟩

section
variable (s : Stt) (A1 A2 : Option Addr) (n1 n2 c1 c2 : Nat) (x : Nat) (k : Int) (st fl : Sp) (w : World)
set_option maxRecDepth 100000 in
set_option maxHeartbeats 4000000 in
theorem divide_a (hok : s.r.ok) (h1 : Sl HsRel 2 w w.heap.size A1 n1 s.h) (h2 : Sl PnRel 8 w w.heap.size A2 n2 s.p) (hH : SmallH s.h) (hQ : SmallP s.p) (hm : mayS s = false) :
    Calls Tryz.prog 11 #[.agg (s.arr (.slice A1 n1 c1) (.slice A2 n2 c2)), .float .f64 x, .int .i64 k, st.val, fl.val] w (DivPostS w zeroS zeroS 4) := by
  have hst := fun w' (hb : Below w.heap.size w w') => stateMay_any s A1 A2 n1 n2 c1 c2 w' hok ((h1.below HsRel.kept hb).more HsRel.kept hb.size) ((h2.below PnRel.kept hb).more PnRel.kept hb.size) hH hQ
  rw [hm] at hst
  clear hm
  go_enter Tryz.func11, Tryz.ntmps11
  go_upto_region 2 with (first
    | ((with_reducible refine (hst _ (by go_grown)).mono ?_); rintro e w1 ⟨rfl, hb⟩
       obtain ⟨⟨b0, b1, b2, b3, b4⟩, hb0⟩ := five _ _ _ _ _ _ _ _ _ _ (by simp) hb
       have l4 := b4.lt
       clear hb))
  go_wp2_with (first
    | (refine wpList_store_row rfl 30 _ _ rfl _ _ rfl rfl _ _ b3 (by kernel_rfl) (by kernel_rfl) (by kernel_rfl) ?_)
    | (refine wpList_store_row rfl 30 _ _ rfl _ _ rfl rfl _ _ (b4.setRow_far _ (by omega)) (by kernel_rfl) (by kernel_rfl) (by kernel_rfl) ?_))
  have y3 := (b3.setRow zeroCells).setRow_far (g' := w.heap.size + 1 + 1 + 1 + 1) zeroCells (by omega)
  have y4 := (b4.setRow_far (g' := w.heap.size + 1 + 1 + 1) zeroCells (by omega)).setRow zeroCells
  refine post_cell_cell_tmp rfl (by rfl) (by rfl) y3 y4 rfl rfl (by kernel_rfl) rfl rfl (by kernel_rfl) ?_
  exact DivPostS.zero (below_setRow (below_setRow hb0 (by omega) _) (by omega) _)

set_option maxRecDepth 100000 in
set_option maxHeartbeats 4000000 in
theorem divide_b (hok : s.r.ok) (h1 : Sl HsRel 2 w w.heap.size A1 n1 s.h) (h2 : Sl PnRel 8 w w.heap.size A2 n2 s.p) (hH : SmallH s.h) (hQ : SmallP s.p) (hm : mayS s = true) (hsf : (!st.may || !fl.may) = true) :
    Calls Tryz.prog 11 #[.agg (s.arr (.slice A1 n1 c1) (.slice A2 n2 c2)), .float .f64 x, .int .i64 k, st.val, fl.val] w (DivPostS w zeroS zeroS 17) := by
  have hst := fun w' (hb : Below w.heap.size w w') => stateMay_any s A1 A2 n1 n2 c1 c2 w' hok ((h1.below HsRel.kept hb).more HsRel.kept hb.size) ((h2.below PnRel.kept hb).more PnRel.kept hb.size) hH hQ
  have hs := fun w => hmay_any st w
  have hq := fun w => hmay_any fl w
  rw [hm] at hst
  clear hm
  cases e1 : st.may
  · rw [e1] at hs
    clear hsf e1 hq
    go_enter Tryz.func11, Tryz.ntmps11
    go_upto_region 4 with (first
      | ((with_reducible refine (hst _ (by go_grown)).mono ?_); rintro e w1 ⟨rfl, hb⟩
         obtain ⟨⟨b0, b1, b2, b3, b4⟩, hb0⟩ := five _ _ _ _ _ _ _ _ _ _ (by simp) hb
         have l4 := b4.lt
         obtain ⟨g2, s0, s1, s2⟩ := b1.three
         obtain ⟨g3, q0, q1, q2⟩ := b2.three
         clear hb)
      | ((with_reducible refine (hs _).mono ?_); rintro e w3 ⟨rfl, rfl⟩))
    have b3 := b3.alloc (.cells st.arr 26)
    have b4 := b4.alloc (.cells st.arr 26)
    have hb0 := hb0.alloc (by omega) (.cells st.arr 26)
    go_wp2_with (first
      | (refine wpList_store_row rfl 30 _ _ rfl _ _ rfl rfl _ _ b3 (by kernel_rfl) (by kernel_rfl) (by kernel_rfl) ?_)
      | (refine wpList_store_row rfl 30 _ _ rfl _ _ rfl rfl _ _ (b4.setRow_far _ (by omega)) (by kernel_rfl) (by kernel_rfl) (by kernel_rfl) ?_))
    have y3 := (b3.setRow zeroCells).setRow_far (g' := w.heap.size + 1 + 1 + 1 + 1) zeroCells (by omega)
    have y4 := (b4.setRow_far (g' := w.heap.size + 1 + 1 + 1) zeroCells (by omega)).setRow zeroCells
    refine post_cell_cell_tmp rfl (by rfl) (by rfl) y3 y4 rfl rfl (by kernel_rfl) rfl rfl (by kernel_rfl) ?_
    exact DivPostS.zero (below_setRow (below_setRow hb0 (by omega) _) (by omega) _)
  · have e2 : fl.may = false := by rw [e1] at hsf; simpa using hsf
    rw [e1] at hs
    rw [e2] at hq
    clear hsf e1 e2
    go_enter Tryz.func11, Tryz.ntmps11
    go_upto_region 4 with (first
      | ((with_reducible refine (hst _ (by go_grown)).mono ?_); rintro e w1 ⟨rfl, hb⟩
         obtain ⟨⟨b0, b1, b2, b3, b4⟩, hb0⟩ := five _ _ _ _ _ _ _ _ _ _ (by simp) hb
         have l4 := b4.lt
         obtain ⟨g2, s0, s1, s2⟩ := b1.three
         obtain ⟨g3, q0, q1, q2⟩ := b2.three
         clear hb)
      | ((with_reducible refine (hs _).mono ?_); rintro e w3 ⟨rfl, rfl⟩)
      | ((with_reducible refine (hq _).mono ?_); rintro e w3 ⟨rfl, rfl⟩))
    have b3 := (b3.alloc (.cells st.arr 26)).alloc (.cells fl.arr 26)
    have b4 := (b4.alloc (.cells st.arr 26)).alloc (.cells fl.arr 26)
    have hb0 := (hb0.alloc (by omega) (.cells st.arr 26)).alloc (by simp; omega) (.cells fl.arr 26)
    go_wp2_with (first
      | (refine wpList_store_row rfl 30 _ _ rfl _ _ rfl rfl _ _ b3 (by kernel_rfl) (by kernel_rfl) (by kernel_rfl) ?_)
      | (refine wpList_store_row rfl 30 _ _ rfl _ _ rfl rfl _ _ (b4.setRow_far _ (by omega)) (by kernel_rfl) (by kernel_rfl) (by kernel_rfl) ?_))
    have y3 := (b3.setRow zeroCells).setRow_far (g' := w.heap.size + 1 + 1 + 1 + 1) zeroCells (by omega)
    have y4 := (b4.setRow_far (g' := w.heap.size + 1 + 1 + 1) zeroCells (by omega)).setRow zeroCells
    refine post_cell_cell_tmp rfl (by rfl) (by rfl) y3 y4 rfl rfl (by kernel_rfl) rfl rfl (by kernel_rfl) ?_
    exact DivPostS.zero (below_setRow (below_setRow hb0 (by omega) _) (by omega) _)

set_option maxRecDepth 100000 in
set_option maxHeartbeats 4000000 in
theorem divide_c (hok : s.r.ok) (hx : x < 18446744073709551616) (h1 : Sl HsRel 2 w w.heap.size A1 n1 s.h) (h2 : Sl PnRel 8 w w.heap.size A2 n2 s.p) (hH : SmallH s.h) (hQ : SmallP s.p) (hm : mayS s = true) (h4 : st.may = true) (h5 : fl.may = true) (hE : splitE s.r x k ≠ 0) :
    Calls Tryz.prog 11 #[.agg (s.arr (.slice A1 n1 c1) (.slice A2 n2 c2)), .float .f64 x, .int .i64 k, st.val, fl.val] w (DivPostS w zeroS zeroS (splitE s.r x k)) := by
  have hst := fun w' (hb : Below w.heap.size w w') => stateMay_any s A1 A2 n1 n2 c1 c2 w' hok ((h1.below HsRel.kept hb).more HsRel.kept hb.size) ((h2.below PnRel.kept hb).more PnRel.kept hb.size) hH hQ
  have hs := fun w => hmay_any st w
  have hq := fun w => hmay_any fl w
  have hsp := fun w => split_any s.r x k w hok hx
  rw [hm] at hst
  rw [h4] at hs
  rw [h5] at hq
  have hE1 : (splitE s.r x k != 0) = true := by simp [hE]
  clear hm h4 h5
  generalize splitE s.r x k = ee at *
  generalize splitL s.r x k = sl at *
  generalize splitU s.r x k = su at *
  go_enter Tryz.func11, Tryz.ntmps11
  go_upto_region 7 with (first
    | ((with_reducible refine (hst _ (by go_grown)).mono ?_); rintro e w1 ⟨rfl, hb⟩
       obtain ⟨⟨b0, b1, b2, b3, b4⟩, hb0⟩ := five _ _ _ _ _ _ _ _ _ _ (by simp) hb
       have l4 := b4.lt
       obtain ⟨g2, s0, s1, s2⟩ := b1.three
       obtain ⟨g3, q0, q1, q2⟩ := b2.three
       obtain ⟨g0, z0, z1, z2, z3, z4, z5, z6, z7, z8, z9, z10, z11⟩ := b0.dozen
       have g1 : w.heap.size < w1.heap.size + 1 := by omega
       clear hb)
    | ((with_reducible refine (hs _).mono ?_); rintro e w3 ⟨rfl, rfl⟩)
    | ((with_reducible refine (hq _).mono ?_); rintro e w3 ⟨rfl, rfl⟩)
    | ((with_reducible refine (hsp _).mono ?_); rintro e w2 ⟨rfl, hb2⟩
       have b3' := ((b3.alloc _).alloc _).below hb2 (by simp; omega)
       have b4' := ((b4.alloc _).alloc _).below hb2 (by simp; omega)))
  have b3 := (b3'.alloc (.cells #[.int .i64 sl.id, .int .i64 sl.ep, .float .f64 sl.lo, .float .f64 sl.hi] 24)).alloc (.cells #[.int .i64 su.id, .int .i64 su.ep, .float .f64 su.lo, .float .f64 su.hi] 24)
  have b4 := (b4'.alloc (.cells #[.int .i64 sl.id, .int .i64 sl.ep, .float .f64 sl.lo, .float .f64 sl.hi] 24)).alloc (.cells #[.int .i64 su.id, .int .i64 su.ep, .float .f64 su.lo, .float .f64 su.hi] 24)
  have hbz : Below w.heap.size w ((w2.alloc (.cells #[.int .i64 sl.id, .int .i64 sl.ep, .float .f64 sl.lo, .float .f64 sl.hi] 24)).alloc (.cells #[.int .i64 su.id, .int .i64 su.ep, .float .f64 su.lo, .float .f64 su.hi] 24)) := by
    refine (((hb0.alloc (by omega) _).alloc (by simp; omega) _).trans (hb2.mono (by simp; omega))).alloc ?_ _ |>.alloc ?_ _
    · have := b4'.lt; omega
    · have := b4'.lt; simp; omega
  generalize ((w2.alloc (.cells #[.int .i64 sl.id, .int .i64 sl.ep, .float .f64 sl.lo, .float .f64 sl.hi] 24)).alloc (.cells #[.int .i64 su.id, .int .i64 su.ep, .float .f64 su.lo, .float .f64 su.hi] 24)) = wz at *
  clear b3' b4' hb2 b0 b1 b2
  go_wp2_with (first
    | (refine wpList_store_row rfl 30 _ _ rfl _ _ rfl rfl _ _ b3 (by kernel_rfl) (by kernel_rfl) (by kernel_rfl) ?_)
    | (refine wpList_store_row rfl 30 _ _ rfl _ _ rfl rfl _ _ (b4.setRow_far _ (by omega)) (by kernel_rfl) (by kernel_rfl) (by kernel_rfl) ?_))
  have y3 := (b3.setRow zeroCells).setRow_far (g' := w.heap.size + 1 + 1 + 1 + 1) zeroCells (by omega)
  have y4 := (b4.setRow_far (g' := w.heap.size + 1 + 1 + 1) zeroCells (by omega)).setRow zeroCells
  refine post_cell_cell_tmp rfl (by rfl) (by rfl) y3 y4 rfl rfl (by kernel_rfl) rfl rfl (by kernel_rfl) ?_
  exact DivPostS.zero (below_setRow (below_setRow hbz (by omega) _) (by omega) _)
end
end Go.Proofs.YtipacjbegfingaaGreat
/- The walks of raceref's copies: Strings, CopyWrites, CopyPending, CopyPendings, CopyHistories, CopyState. -/
namespace Go.Proofs.YtipacjbegfingaaGreat
set_option linter.unusedVariables false
open Go.RowKit Fl
attribute [local go_sem] run_store_float

def CopyRel {α : Type} (f : α → List Value) (E size : Nat) (l : List α) (w : World) (v i : Value) (wr : World) : Prop := ∃ k : Nat, k ≤ l.length ∧ i = .int .i64 (k : Int) ∧ OwnL f E size w.heap.size wr v (l.take k) ∧ Below w.heap.size w wr
set_option maxRecDepth 100000 in
set_option maxHeartbeats 4000000 in
theorem strings_any (A : Option Addr) (n c : Nat) (l : List ByteArray) (w : World) (h : Sl KyRel 1 w w.heap.size A n l) (hn : n ≤ 1000000) :
    Calls Tryz.prog 75 #[.slice A n c] w fun e w' => ∃ v, e = .returned v ∧ OwnL keyCells 9 1 w.heap.size w' v l ∧ Below w.heap.size w w' := by
  obtain ⟨i0, hi0, hz0, hz1, hz2⟩ := info_parts ky_info
  have hl := h.1
  have hle : l.length ≤ n := by omega
  have hge : n ≤ l.length := by omega
  clear hl
  go_enter Tryz.func75, Tryz.ntmps75
  go_wp2
  go_loopw [3, 4] (fun v i wr => CopyRel keyCells 9 1 l w v i wr) (fun _ i _ => n - (intOf i).toNat)
  case atStart => exact ⟨0, by omega, rfl, OwnL.nil _, Below.refl _ _⟩
  case round =>
    obtain ⟨k, hk, rfl, ho, hb⟩ := hrel
    have hzz := hb.size
    by_cases hlt : k < n
    · obtain ⟨ad, a, rfl, ha, hbk, hok, c0⟩ := (h.below KyRel.kept hb).ky hlt
      have hd1 : decide ((k : Int) < (n : Int)) = true := by simp; omega
      have hk0 : (0 : Int) ≤ (k : Int) := by omega
      have hk1 : (k : Int) < (n : Int) := by omega
      have HS := Lib.hid (show l.take (k + 1) = l.take k ++ [a] by rw [List.take_add_one, ha]; rfl)
      have hln : (l.take k).length ≤ 1000000 := by simp; omega
      clear ha
      obtain ⟨A1, q1, rfl, hq1, hq1m⟩ := ho.form
      generalize l.take k = ks at *
      have hX : Below wr.heap.size wr (wr.alloc (.cells (keyCells a).toArray 9)) := (Below.refl _ _).alloc (Nat.le_refl _) _
      have hown0 := ho.below hX
      have hrd0 := reads_new' wr 9 (keyCells a) 1 rfl
      go_wp2_with (first
        | (at_builtin
           refine wpList_append_any _ rfl (.tmp 11) (.tmp 16) _ rfl w.heap.size 9 i0 _ 1 16 Tryz.underlying42 hi0 hz0 hz1 hz2 rfl (by omega) (.slice A1 ks.length q1) _ (ks.flatMap keyCells) (by rfl) hown0 _ (some ⟨wr.heap.size, 0, none⟩) 1 1 (keyCells a) (by rfl)
             hrd0 (ky_one a) (by unfold maxLen; omega) (by omega) (by simp; omega) ?_
           intro v3 w3 hown3 hg3 hat3
           obtain ⟨A3, q3, rfl, hq3, hq3m⟩ := own_form hown3))
      have hp := OwnL.push a hown3
      have hbw := (hb.trans (hX.mono hzz)).grown hg3 (by simp; omega) (fun q hq => (hown0.lt q hq).1)
      go_roundw
      case rel =>
        refine ⟨k + 1, by omega, by go_num, ?_, hbw⟩
        rw [HS.out]
        exact hp
      case measure => simp [intOf]; omega
    · have hd1 : decide ((k : Int) < (n : Int)) = false := by simp; omega
      rw [List.take_of_length_le (by omega)] at ho
      obtain ⟨A1, q1, rfl, hq1, hq1m⟩ := ho.form
      go_wp2
      go_ret
      exact ⟨_, rfl, ho, hb⟩
set_option maxRecDepth 100000 in
set_option maxHeartbeats 4000000 in
theorem copyW_any (A : Option Addr) (n c : Nat) (l : List Wt) (w : World) (h : Sl WtRel 4 w w.heap.size A n l) (hn : n ≤ 1000000) :
    Calls Tryz.prog 76 #[.slice A n c] w fun e w' => ∃ v, e = .returned v ∧ OwnL Wt.cells 86 4 w.heap.size w' v l ∧ Below w.heap.size w w' := by
  obtain ⟨i0, hi0, hz0, hz1, hz2⟩ := info_parts wt_info
  have hl := h.1
  have hle : l.length ≤ n := by omega
  have hge : n ≤ l.length := by omega
  clear hl
  go_enter Tryz.func76, Tryz.ntmps76
  go_wp2
  go_loopw [3, 4] (fun v i wr => CopyRel Wt.cells 86 4 l w v i wr) (fun _ i _ => n - (intOf i).toNat)
  case atStart => exact ⟨0, by omega, rfl, OwnL.nil _, Below.refl _ _⟩
  case round =>
    obtain ⟨k, hk, rfl, ho, hb⟩ := hrel
    have hzz := hb.size
    by_cases hlt : k < n
    · obtain ⟨ad, a, rfl, ha, hbk, hok, c0, c1, c2, c3⟩ := (h.below WtRel.kept hb).wt hlt
      have hd1 : decide ((k : Int) < (n : Int)) = true := by simp; omega
      have hk0 : (0 : Int) ≤ (k : Int) := by omega
      have hk1 : (k : Int) < (n : Int) := by omega
      have HS := Lib.hid (show l.take (k + 1) = l.take k ++ [a] by rw [List.take_add_one, ha]; rfl)
      have hln : (l.take k).length ≤ 1000000 := by simp; omega
      clear ha
      obtain ⟨A1, q1, rfl, hq1, hq1m⟩ := ho.form
      generalize l.take k = ks at *
      have hX : Below wr.heap.size wr (wr.alloc (.cells a.cells.toArray 86)) := (Below.refl _ _).alloc (Nat.le_refl _) _
      have hown0 := ho.below hX
      have hrd0 := reads_new' wr 86 a.cells 4 rfl
      go_wp2_with (first
        | (at_builtin
           refine wpList_append_any _ rfl (.tmp 11) (.tmp 16) _ rfl w.heap.size 86 i0 _ 4 48 Tryz.underlying43 hi0 hz0 hz1 hz2 rfl (by omega) (.slice A1 ks.length q1) _ (ks.flatMap Wt.cells) (by rfl) hown0 _ (some ⟨wr.heap.size, 0, none⟩) 1 1 a.cells (by rfl)
             hrd0 (wt_one a) (by unfold maxLen; omega) (by omega) (by simp; omega) ?_
           intro v3 w3 hown3 hg3 hat3
           obtain ⟨A3, q3, rfl, hq3, hq3m⟩ := own_form hown3))
      have hp := OwnL.push a hown3
      have hbw := (hb.trans (hX.mono hzz)).grown hg3 (by simp; omega) (fun q hq => (hown0.lt q hq).1)
      go_roundw
      case rel =>
        refine ⟨k + 1, by omega, by go_num, ?_, hbw⟩
        rw [HS.out]
        exact hp
      case measure => simp [intOf]; omega
    · have hd1 : decide ((k : Int) < (n : Int)) = false := by simp; omega
      rw [List.take_of_length_le (by omega)] at ho
      obtain ⟨A1, q1, rfl, hq1, hq1m⟩ := ho.form
      go_wp2
      go_ret
      exact ⟨_, rfl, ho, hb⟩

set_option maxRecDepth 100000 in
set_option maxHeartbeats 4000000 in
theorem copyP_any (p : Pn) (A1 A2 : Option Addr) (n1 n2 c1 c2 : Nat) (w : World) (hr : Sl KyRel 1 w w.heap.size A1 n1 p.r) (hw : Sl WtRel 4 w w.heap.size A2 n2 p.w) (hn1 : n1 ≤ 1000000) (hn2 : n2 ≤ 1000000) :
    Calls Tryz.prog 46 #[p.val (.slice A1 n1 c1) (.slice A2 n2 c2)] w (ClonePost p w) := by
  have hX : Below w.heap.size w ((w.alloc (.cells (p.arr (.slice A1 n1 c1) (.slice A2 n2 c2)) 45)).alloc (.cells zeroPn 45)) := by go_grown
  have i1 : Blk ((w.alloc (.cells (p.arr (.slice A1 n1 c1) (.slice A2 n2 c2)) 45)).alloc (.cells zeroPn 45)) w.heap.size 45 (p.arr (.slice A1 n1 c1) (.slice A2 n2 c2)) := (Blk.new _ _ _).alloc _
  have i2 : Blk ((w.alloc (.cells (p.arr (.slice A1 n1 c1) (.slice A2 n2 c2)) 45)).alloc (.cells zeroPn 45)) (w.heap.size + 1) 45 zeroPn := Blk.new' _ _ (by simp)
  have hT := fun w' (hb : Below w.heap.size w w') => strings_any A1 n1 c1 p.r w' ((hr.below KyRel.kept hb).more KyRel.kept hb.size) hn1
  have hW := fun w' (hb : Below w.heap.size w w') => copyW_any A2 n2 c2 p.w w' ((hw.below WtRel.kept hb).more WtRel.kept hb.size) hn2
  go_enter Tryz.func46, Tryz.ntmps46
  go_wp2
  generalize ((w.alloc (.cells (p.arr (.slice A1 n1 c1) (.slice A2 n2 c2)) 45)).alloc (.cells zeroPn 45)) = w0 at *
  have l1 := i1.lt
  have l2 := i2.lt
  refine wp_region_held_drew (S := fun w' => Blk w' w.heap.size 45 (p.arr (.slice A1 n1 c1) (.slice A2 n2 c2))) (by kernel_rfl) i1.drew (fun hHeld => ?_)
  refine wpAnyH_take (i := 0) (oi := ⟨some 3, _, _, _, _, _⟩) (v := .pointer (some ⟨w.heap.size, 0, none⟩)) rfl (by kernel_rfl) (by kernel_rfl) (by kernel_rfl) (fun _ _ _ h => h) (Or.inl ⟨by kernel_rfl, fun W hSw => by clear hSw; go_simp⟩) hHeld ?_
  go_frame
  refine wpAnyH_take (i := 1) (oi := ⟨some 4, _, _, _, _, _⟩) rfl (by kernel_rfl) (by kernel_rfl) (by kernel_rfl) (fun _ _ _ h => h) (yieldsIf_load_mid (by kernel_rfl) _ _ rfl w.heap.size 0 rfl [.int .i64 p.t.c, .int .i64 p.t.l, .int .i64 p.t.s] _ (fun W hSw => Blk.range hSw 0 _ (three_of rfl rfl rfl)) rfl rfl (by kernel_rfl)) hHeld ?_
  go_frame
  refine wpAnyH_take (i := 2) (oi := ⟨some 5, _, _, _, _, _⟩) (v := .pointer (some ⟨w.heap.size, 3, none⟩)) rfl (by kernel_rfl) (by kernel_rfl) (by kernel_rfl) (fun _ _ _ h => h) (Or.inl ⟨by kernel_rfl, fun W hSw => by clear hSw; go_simp⟩) hHeld ?_
  go_frame
  refine wpAnyH_take (i := 3) (oi := ⟨some 6, _, _, _, _, _⟩) rfl (by kernel_rfl) (by kernel_rfl) (by kernel_rfl) (fun _ _ _ h => h) (yieldsIf_load_mid (by kernel_rfl) _ _ rfl w.heap.size 3 rfl [.int .i64 p.s.w, .int .i64 p.s.l, .int .i64 p.s.n] _ (fun W hSw => Blk.range hSw 3 _ (three_of rfl rfl rfl)) rfl rfl (by kernel_rfl)) hHeld ?_
  go_frame
  refine wpAnyH_take (i := 4) (oi := ⟨some 7, _, _, _, _, _⟩) (v := .pointer (some ⟨w.heap.size, 6, none⟩)) rfl (by kernel_rfl) (by kernel_rfl) (by kernel_rfl) (fun _ _ _ h => h) (Or.inl ⟨by kernel_rfl, fun W hSw => by clear hSw; go_simp⟩) hHeld ?_
  go_frame
  refine wpAnyH_take (i := 5) (oi := ⟨some 8, _, _, _, _, _⟩) (v := .slice A1 n1 c1) rfl (by kernel_rfl) (by kernel_rfl) (by kernel_rfl) (fun _ _ _ h => h) (Or.inl ⟨by kernel_rfl, fun W hSw => by have z : W.cell? ⟨w.heap.size, 6, none⟩ = some (.slice A1 n1 c1) := Blk.cell hSw 6; clear hSw; go_simp⟩) hHeld ?_
  go_frame
  refine wpAnyH_take (i := 7) (oi := ⟨some 10, _, _, _, _, _⟩) (v := .pointer (some ⟨w.heap.size, 7, none⟩)) rfl (by kernel_rfl) (by kernel_rfl) (by kernel_rfl) (fun _ _ _ h => h) (Or.inl ⟨by kernel_rfl, fun W hSw => by clear hSw; go_simp⟩) hHeld ?_
  go_frame
  refine wpAnyH_take (i := 8) (oi := ⟨some 11, _, _, _, _, _⟩) (v := .slice A2 n2 c2) rfl (by kernel_rfl) (by kernel_rfl) (by kernel_rfl) (fun _ _ _ h => h) (Or.inl ⟨by kernel_rfl, fun W hSw => by have z : W.cell? ⟨w.heap.size, 7, none⟩ = some (.slice A2 n2 c2) := Blk.cell hSw 7; clear hSw; go_simp⟩) hHeld ?_
  go_frame
  refine wpAnyH_ready (rs := [6]) (by kernel_rfl) (by simp) ?_
  refine AllReadyH.cons rfl (fun K hK => ?_) AllReadyH.nil
  go_simp
  refine (hT _ hX.drew).mono ?_
  rintro e w3 ⟨v3, rfl, o3, hb3⟩
  have j1 := i1.drew.below hb3 l1
  have j2 := i2.drew.below hb3 l2
  have hY : Below w.heap.size w w3 := hX.drew.trans (hb3.mono hX.size)
  have o3 : OwnL _ _ _ (w.heap.size + 2) _ _ _ := o3.mono_base (by show w.heap.size + 2 ≤ w0.heap.size; omega)
  obtain ⟨A3, q3, rfl, hq3, hq3m⟩ := o3.form
  clear hb3 i1 i2 l1 l2 hHeld
  refine hK.out _ _ j1 (fun hHeld => ?_)
  clear hK K
  try go_frame
  refine wpAnyH_ready (rs := [9]) (by kernel_rfl) (by simp) ?_
  refine AllReadyH.cons rfl (fun K hK => ?_) AllReadyH.nil
  go_simp
  refine (hW _ hY).mono ?_
  rintro e w4 ⟨v4, rfl, o4, hb4⟩
  have k1 := j1.below hb4 j1.lt
  have k2 := j2.below hb4 j2.lt
  have hZ : Below w.heap.size w w4 := hY.trans (hb4.mono hY.size)
  have hz3 := j2.lt
  have o4 : OwnL _ _ _ (w.heap.size + 2) _ _ _ := o4.mono_base (by omega)
  have o3 := o3.below hb4
  obtain ⟨A4, q4, rfl, hq4, hq4m⟩ := o4.form
  clear hb4 j1 j2 hHeld
  refine hK.out _ _ k1 (fun hHeld => ?_)
  clear hK K
  try go_frame
  refine wpAnyH_take (i := 10) (oi := ⟨some 13, _, _, _, _, _⟩) (v := .agg (p.arr (.slice A3 p.r.length q3) (.slice A4 p.w.length q4))) rfl (by kernel_rfl) (by kernel_rfl) (by kernel_rfl) (fun _ _ _ h => h) (Or.inl ⟨by kernel_rfl, fun W hSw => by clear hSw; go_simp⟩) hHeld ?_
  go_frame
  refine wpAnyH_store_rowE (i := 11) (by kernel_rfl) rfl rfl _ _ _ rfl (w.heap.size + 1) (p.arr (.slice A3 p.r.length q3) (.slice A4 p.w.length q4)) (by kernel_rfl) (by kernel_rfl) _ _ k2 (by kernel_rfl) rfl (by kernel_rfl) (k1.setRow_far _ (by omega)) ?_
  intro w5 hw5
  go_frame
  refine wpAnyH_done (by kernel_rfl) ?_ _
  go_wp2
  refine post_cell rfl (by kernel_rfl) (by rw [hw5]; exact k2.setRow _) rfl rfl (by kernel_rfl) ?_
  subst hw5
  exact ⟨_, _, rfl, (o3.setRow_far (by omega) _).mono_base (by omega), (o4.setRow_far (by omega) _).mono_base (by omega), below_setRow hZ (by omega) _⟩

theorem pn_infoC : (Tryz.prog.info? 45).map (fun i => (i.zero, i.size, i.bytes)) = some (some (.agg zeroPn), 8, 96) := by kernel_rfl
theorem hs_infoC : (Tryz.prog.info? 59).map (fun i => (i.zero, i.size, i.bytes)) = some (some (.agg #[.string ⟨#[]⟩, .slice none 0 0]), 2, 40) := by kernel_rfl
abbrev Pn.cl (p : Pn) (r q : Value) : List Value := [.int .i64 p.t.c, .int .i64 p.t.l, .int .i64 p.t.s, .int .i64 p.s.w, .int .i64 p.s.l, .int .i64 p.s.n, r, q]
theorem pn_oneC (p : Pn) (A1 A2 : Option Addr) (n1 n2 c1 c2 : Nat) : ∀ u ∈ p.cl (.slice A1 n1 c1) (.slice A2 n2 c2), u.oneCell' = true := by
  intro u hu
  simp only [Pn.cl, List.mem_cons, List.not_mem_nil, or_false] at hu
  rcases hu with rfl | rfl | rfl | rfl | rfl | rfl | rfl | rfl <;> rfl
/-- one row that grows -/
def Single {α : Type} (R : Rel α) (E size base : Nat) (w : World) (v : Value) (l : List α) : Prop := Pair R E size base w v (.slice none 0 0) l []
def CopiesRel {α : Type} (R : Rel α) (E size : Nat) (l : List α) (w : World) (v i : Value) (wr : World) : Prop := ∃ k : Nat, k ≤ l.length ∧ i = .int .i64 (k : Int) ∧ Single R E size w.heap.size wr v (l.take k) ∧ Below w.heap.size w wr
/-- what a copy of a list of structs leaves -/
def CopiesPost {α : Type} (R : Rel α) (E size : Nat) (l : List α) (w : World) : Ending → World → Prop := fun e w' => ∃ v, e = .returned v ∧ Single R E size w.heap.size w' v l ∧ Below w.heap.size w w'
def CopyV (a : Hs) (W : World) (i : Value) (wr : World) : Prop := ∃ (k : Nat) (v : Value), k ≤ a.vs.length ∧ i = .int .i64 (k : Int) ∧ Blk wr W.heap.size 59 #[.string a.key, v] ∧ OwnL Vn.cells 64 6 (W.heap.size + 1) wr v (a.vs.take k) ∧ Below W.heap.size W wr
set_option maxRecDepth 100000 in
set_option maxHeartbeats 4000000 in
theorem copyHs_any (A : Option Addr) (n c : Nat) (l : List Hs) (w : World) (h : Sl HsRel 2 w w.heap.size A n l) (hQ : SmallH l) :
    Calls Tryz.prog 16 #[.slice A n c] w (CopiesPost HsRel 59 2 l w) := by
  obtain ⟨i1, hi1, iz0, iz1, iz2⟩ := info_parts hs_infoC
  obtain ⟨i0, hi0, hz0, hz1, hz2⟩ := info_parts vn_info
  have hl := h.1
  have hge : n ≤ l.length := by omega
  have hle : l.length ≤ n := by omega
  have hn : n ≤ 1000000 := Nat.le_trans hge hQ.1
  clear hl
  go_enter Tryz.func16, Tryz.ntmps16
  go_wp2
  go_loopw [3, 4] (fun v i wr => CopiesRel HsRel 59 2 l w v i wr) (fun _ i _ => n - (intOf i).toNat)
  case atStart => exact ⟨0, by omega, rfl, Pair.nil _, Below.refl _ _⟩
  case round =>
    obtain ⟨k, hk, rfl, hp, hb⟩ := hrel
    have hzz := hb.size
    have hlen : (l.take k).length ≤ 1000000 := Nat.le_trans (List.length_take_le k l) (by omega)
    obtain ⟨Av, qv, rfl, hqv, hqvm⟩ := Pair.form1 hp
    by_cases hlt : k < n
    · obtain ⟨ad, a, A1, n1, c1, rfl, ha, hbk, hkz, d0, d1, hn1, hc1, hs1⟩ := ((h.below HsRel.kept hb).more HsRel.kept hb.size).hs hlt
      have hd1 : decide ((k : Int) < (n : Int)) = true := by simp; omega
      have hk0 : (0 : Int) ≤ (k : Int) := by omega
      have hk1 : (k : Int) < (n : Int) := by omega
      have hsm := hQ.2 a (List.mem_of_getElem? ha)
      have hl1 := hs1.1
      have hsm1 : n1 ≤ 1000000 := by omega
      have hge1 : n1 ≤ a.vs.length := by omega
      have hle1 : a.vs.length ≤ n1 := by omega
      have HS := Lib.hid (show l.take (k + 1) = l.take k ++ [a] by rw [List.take_add_one, ha]; rfl)
      have K1 := Lib.hid (fun k hk => Sl.all_ok hs1 k hk : ∀ k ∈ a.vs, Vn.ok k)
      have HA := Lib.hid ha
      clear ha hsm hl1
      generalize l.take k = L at *
      have i5 := Blk.new wr 59 #[.string a.key, .slice none 0 0]
      have hX0 : Below wr.heap.size wr (wr.alloc (.cells #[.string a.key, .slice none 0 0] 59)) := by go_grown
      go_wp2
      obtain ⟨wo, rfl⟩ : ∃ wo, wo = wr := ⟨_, rfl⟩
      clear d0 d1 hs1
      go_loopw [6] (fun i wr => CopyV a wo i wr) (fun i _ => n1 - (intOf i).toNat)
      case atStart => exact ⟨0, _, by omega, rfl, i5, OwnL.nil _, hX0⟩
      case round =>
        clear i5 hX0
        obtain ⟨k2, v, hk2, rfl, i5, ho, hb2⟩ := hrel
        have hz2' := hb2.size
        have hw : Below w.heap.size w wr := hb.trans (hb2.mono hzz)
        have hwz := hw.size
        obtain ⟨ad1, a1, B1, m1, c3, ex, ha1, hbk1, hok1, d0, d1, hm1, hc3, hs1⟩ := ((h.below HsRel.kept hw).more HsRel.kept hw.size).hs hlt
        injection ex with ex
        subst ex
        obtain rfl : a = a1 := Option.some.inj (HA.out.symm.trans ha1)
        obtain rfl : n1 = m1 := by have := hs1.1; omega
        clear ha1
        have hlv : (a.vs.take k2).length ≤ 1000000 := Nat.le_trans (List.length_take_le _ _) (by omega)
        have l5 := i5.lt
        obtain ⟨Bv, qb, rfl, hqb, hqbm⟩ := ho.form
        have y0 : wr.cell? ⟨wo.heap.size, 0, none⟩ = some (.string a.key) := i5.cell 0
        have y1 : wr.cell? ⟨wo.heap.size, 1, none⟩ = some (.slice Bv (a.vs.take k2).length qb) := i5.cell 1
        by_cases hlt2 : k2 < n1
        · obtain ⟨bd, x, rfl, hx, hxb, hxo, x0, x1, x2, x3, x4, x5⟩ := hs1.vn hlt2
          have hd3 : decide ((k2 : Int) < (n1 : Int)) = true := by simp; omega
          have hk20 : (0 : Int) ≤ (k2 : Int) := by omega
          have hk21 : (k2 : Int) < (n1 : Int) := by omega
          have HT := Lib.hid (show a.vs.take (k2 + 1) = a.vs.take k2 ++ [x] by rw [List.take_add_one, hx]; rfl)
          clear hx
          generalize a.vs.take k2 = V at *
          have hX : Below wr.heap.size wr (wr.alloc (.cells x.cells.toArray 64)).drew := ((Below.refl _ _).alloc (Nat.le_refl _) _).drew
          have hown0 := ho.below hX
          have hrd0 := (reads_new' wr 64 x.cells 6 rfl).drew
          have l6 : wo.heap.size < wr.heap.size + 1 := by omega
          go_wp2
          go_region_law (refine step_append_any _ rfl (.tmp 30) (.tmp 39) _ rfl (wo.heap.size + 1) 64 i0 _ 6 56 Tryz.underlying57 hi0 hz0 hz1 hz2 rfl (by omega) (.slice Bv V.length qb) _ (V.flatMap Vn.cells) (by simp [Act.eval]) hown0 _ (some ⟨wr.heap.size, 0, none⟩) 1 1 x.cells (by simp [Act.eval]) hrd0 (vn_one x) (by unfold maxLen; omega) (by omega) (by simp; omega) ?_; intro v3 w3 hown3 hg3 hat3; have e5 := (i5.alloc (.cells x.cells.toArray 64)).drew.grown hg3 (ho.ne (by omega)); have z1 := e5.cell 1; simp only [List.getElem?_toArray, List.getElem?_cons_succ, List.getElem?_cons_zero] at z1; have f1 := e5.frozen 1; obtain ⟨A3, q3, rfl, hq3, hq3m⟩ := own_form hown3)
          all_goals
            have hp3 := (OwnL.push x hown3).set_far (p := ⟨wo.heap.size, 1, none⟩) (by simp) (.slice A3 (V.length + 1) q3)
            have hbw := ((hb2.trans (hX.mono hz2')).grown hg3 (by have := hX.size; omega) (fun q hq => by have := (hown0.lt q hq).1; omega)).setCell (p := ⟨wo.heap.size, 1, none⟩) (Nat.le_refl _) (.slice A3 (V.length + 1) q3)
            go_wp2
            go_roundw
            case rel =>
              refine ⟨k2 + 1, _, by omega, by go_num, e5.set_ 1 _, ?_, hbw⟩
              rw [HT.out]
              exact hp3
            case measure => simp [intOf]; omega
        · have hd3 : decide ((k2 : Int) < (n1 : Int)) = false := by simp; omega
          have ht : a.vs.take k2 = a.vs := List.take_of_length_le (by omega)
          rw [ht] at ho hqb y1 i5
          clear ht hlv
          have hX : Below wr.heap.size wr (wr.alloc (.cells #[.string a.key, .slice Bv a.vs.length qb] 59)) := by go_grown
          have pX := (Pair.below HsRel.kept HsRel.mono hp hb2).below HsRel.kept HsRel.mono hX
          have hK : ∀ k, wo.heap.size + 1 ≤ k → k < (wr.alloc (.cells #[.string a.key, .slice Bv a.vs.length qb] 59)).heap.size → freeB w.heap.size (wr.alloc (.cells #[.string a.key, .slice Bv a.vs.length qb] 59)).heap.size (.slice Av L.length qv) (.slice none 0 0) k = true := Pair.fresh hp (by simp; omega) (by omega) (by omega)
          have hin : Inn HsRel (freeB w.heap.size (wr.alloc (.cells #[.string a.key, .slice Bv a.vs.length qb] 59)).heap.size (.slice Av L.length qv) (.slice none 0 0)) (wr.alloc (.cells #[.string a.key, .slice Bv a.vs.length qb] 59)) [.string a.key, .slice Bv a.vs.length qb] a :=
            ⟨_, rfl, hkz, OwnL.inn (by omega) vn_len (ho.below hX) K1.out hK⟩
          have HI := Lib.hid hin
          obtain ⟨xs, hown0, hpush⟩ := Pair.own1 HsRel.kept HsRel.mono pX
          have HP := Lib.hid hpush
          have hrd0 := reads_new' wr 59 [.string a.key, .slice Bv a.vs.length qb] 2 rfl
          have hone : ∀ u ∈ [Value.string a.key, Value.slice Bv a.vs.length qb], u.oneCell' = true := by
            intro u hu
            simp only [List.mem_cons, List.not_mem_nil, or_false] at hu
            rcases hu with rfl | rfl <;> rfl
          have HO := Lib.hid hone
          clear hpush hin hK hone hs1
          go_wp2_with (first
            | (at_builtin
               refine wpList_append_any _ rfl (.tmp 42) (.tmp 44) _ rfl w.heap.size 59 i1 _ 2 40 Tryz.underlying27 hi1 iz0 iz1 iz2 rfl (by omega) (.slice Av L.length qv) _ xs (by rfl) hown0 _ (some ⟨wr.heap.size, 0, none⟩) 1 1 [.string a.key, .slice Bv a.vs.length qb] (by rfl)
                 hrd0 HO.out (by unfold maxLen; omega) (by omega) (by simp; omega) ?_
               intro v3 w3 hown3 hg3 hat3
               obtain ⟨A3, q3, rfl, hq3, hq3m⟩ := own_form hown3))
          have hpn := HP.out _ a w3 _ rfl HI.out hown3 hg3 hat3
          have hbw := (hw.trans (hX.mono hwz)).grown hg3 (by have := hX.size; omega) (fun q hq => (hown0.lt q hq).1)
          go_roundw
          case rel =>
            refine ⟨k + 1, by omega, by go_num, ?_, hbw⟩
            rw [HS.out]
            exact hpn
          case measure => simp [intOf]; omega
    · have hd1 : decide ((k : Int) < (n : Int)) = false := by simp; omega
      rw [List.take_of_length_le (by omega)] at hp hqv
      rw [List.take_of_length_le (by omega)]
      go_wp2
      go_ret
      exact ⟨_, rfl, hp, hb⟩

end Go.Proofs.YtipacjbegfingaaGreat
