/- The walks of racelaw15's some and alike. -/
import Derived.BigRegion
import Derived.Test.YtipacjbegfingaaKaae
import Derived.Test.YtipacjbegfingaaKaaf
import Derived.Test.YtipacjbegfingaaKaaj
namespace Go.Proofs.Ytipacjbegfingaa
set_option linter.unusedVariables false
open Go.RowKit Fl
attribute [local go_sem] run_store_float

section
variable {α : Type} {R : Rel α} {E size base : Nat} {K : Nat → Bool} {w w' : World} {v : Value} {l : List α}
/-- a row whose elements read below it: its cells; what an append makes of it -/
theorem RowR.own (hR : R.Kept) (h : RowR R E size base K w v l) (hK : ∀ k, K k = true → k < base) (hbs : base ≤ w.heap.size) : ∃ xs, w.ownsRow base E size v l.length xs ∧
    ∀ (cs : List Value) (a : α) (w' : World) (v' : Value), cs.length = size → Inn R K w cs a → w'.ownsRow base E size v' (l.length + 1) (xs ++ cs) → w.grownBy w' v.ownBlock → RowR R E size base K w' v' (l ++ [a]) := by
  obtain ⟨css, ho, hlen, hl, hc⟩ := h
  refine ⟨css.flatten, ho, fun cs a w' v' hcs hin hown hg => ?_⟩
  have hB : ∀ k, K k = true → w'.heap[k]? = w.heap[k]? := fun k hk => hg.block k (by have := hK k hk; omega) (fun e => by have := (ho.lt k e.symm).1; have := hK k hk; omega)
  refine ⟨css ++ [cs], ?_, by simp [hlen], ?_, ?_⟩
  · rw [List.length_append, List.flatten_append]
    simpa using hown
  · intro c hc'
    rcases List.mem_append.1 hc' with h1 | h1
    · exact hl c h1
    · simp only [List.mem_cons, List.not_mem_nil, or_false] at h1
      rw [h1]; exact hcs
  · intro i c b h1 h2
    by_cases hi : i < l.length
    · rw [List.getElem?_append_left (by omega)] at h1 h2
      exact (hc i c b h1 h2).keep hR hB hg.size
    · have hi2 : i = l.length := by
        have := (List.getElem?_eq_some_iff.1 h2).1
        rw [List.length_append, List.length_cons, List.length_nil] at this
        omega
      subst hi2
      rw [List.getElem?_append_right (Nat.le_refl _)] at h2
      rw [← hlen, List.getElem?_append_right (Nat.le_refl _)] at h1
      simp only [Nat.sub_self, List.getElem?_cons_zero, Option.some.injEq] at h1 h2
      subst h1 h2
      exact hin.keep hR hB hg.size
end
/-- the blocks below B -/
def lowB (B : Nat) : Nat → Bool := fun k => decide (k < B)
theorem Inn.low {α : Type} {R : Rel α} {w : World} {B : Nat} {cs : List Value} {a : α} (hR : R.Kept) (hRm : R.Mono) (h : R w B cs a) (hB : B ≤ w.heap.size) : Inn R (lowB B) w cs a :=
  hR.2 _ _ _ _ _ (hRm _ _ _ _ _ h fun p u hp hc => by rw [only_cell_in (by unfold lowB; simpa using hp)]; exact hc) hB
end Go.Proofs.Ytipacjbegfingaa
/- The walk of the document's put. -/
namespace Go.Proofs.Ytipacjbegfingaa
set_option linter.unusedVariables false
open Go.RowKit Fl
attribute [local go_sem] run_store_float

theorem flatten_len (k : Nat) : ∀ css : List (List Value), (∀ cs ∈ css, cs.length = k) → css.flatten.length = css.length * k := by
  intro css
  induction css with
  | nil => intro _; simp
  | cons cs css ih =>
    intro h
    rw [List.flatten_cons, List.length_append, h cs (List.mem_cons_self ..), ih (fun c hc => h c (List.mem_cons_of_mem _ hc)), List.length_cons, Nat.succ_mul]
    omega
/-- the cells of a slice's elements -/
theorem Sl.css {α : Type} {R : Rel α} {size n B : Nat} {w : World} {A : Option Addr} {l : List α} (hsz : 0 < size) (h : Sl R size w B A n l) :
    ∃ css : List (List Value), css.length = n ∧ (∀ cs ∈ css, cs.length = size) ∧ Reads w B size A n css.flatten ∧ ∀ (i : Nat) (cs : List Value) (a : α), css[i]? = some cs → l[i]? = some a → R w B cs a := by
  have hall : ∀ i, i < n → ∃ cs : List Value, cs.length = size ∧ (∃ ad, A = some ad ∧ ad.block < B ∧ ∀ j u, cs[j]? = some u → w.cell? (ad.add (i * size + j)) = some u) ∧ ∀ a, l[i]? = some a → R w B cs a := fun i hi => by
    obtain ⟨ad, cs, a, e, hl, hb, hlen, hc, hr⟩ := h.at_ hi
    exact ⟨cs, hlen, ⟨ad, e, hb, hc⟩, fun b hb => by rw [hl] at hb; injection hb with hb; rw [← hb]; exact hr⟩
  obtain ⟨f, hf⟩ := Go.Deep.choose_lt hall
  have hget : ∀ (i : Nat) (cs : List Value), ((List.range n).map f)[i]? = some cs → i < n ∧ cs = f i := fun i cs hi => by
    have hin : i < n := by have := (List.getElem?_eq_some_iff.1 hi).1; simpa using this
    rw [List.getElem?_map, List.getElem?_range hin] at hi
    exact ⟨hin, (Option.some.inj hi).symm⟩
  have hlen : ∀ cs ∈ (List.range n).map f, cs.length = size := fun cs hcs => by
    obtain ⟨i, hi, rfl⟩ := List.mem_map.1 hcs
    exact (hf i (List.mem_range.1 hi)).1
  refine ⟨(List.range n).map f, by simp, hlen, ⟨by rw [flatten_len size _ hlen]; simp, fun hn => ?_⟩, fun i cs a h1 h2 => ?_⟩
  · obtain ⟨_, ⟨ad, e, hb, _⟩, _⟩ := hf 0 hn
    refine ⟨ad, e, hb, fun j u hj => ?_⟩
    have e2 : j = j / size * size + j % size := (Nat.div_add_mod' j size).symm
    rw [e2, flatten_get size _ _ _ hlen (Nat.mod_lt _ hsz)] at hj
    cases hl : ((List.range n).map f)[j / size]? with
    | none => rw [hl] at hj; cases hj
    | some cs =>
      rw [hl] at hj
      obtain ⟨hin, rfl⟩ := hget _ _ hl
      obtain ⟨_, ⟨ad', e3, _, hc⟩, _⟩ := hf _ hin
      rw [e] at e3
      injection e3 with e3
      subst e3
      rw [e2]
      exact hc _ u hj
  · obtain ⟨hin, rfl⟩ := hget i cs h1
    exact (hf i hin).2.2 a h2

/-- all blocks but g and the row's own -/
def gB (g size : Nat) (v : Value) : Nat → Bool := fun k => decide (k < size) && decide (k ≠ g) && decide (v.ownBlock ≠ some k)
theorem gB_iff {g size k : Nat} {v : Value} : gB g size v k = true ↔ k < size ∧ k ≠ g ∧ v.ownBlock ≠ some k := by
  unfold gB
  simp only [Bool.and_eq_true, decide_eq_true_eq, and_assoc]
section
variable {α : Type} {R : Rel α} {E size base g : Nat} {w w' : World} {v : Value} {l : List α}
end
/-- a pending one in its place -/
def putL (l : List Pn) (p : Pn) : List Pn := l.takeWhile (fun x => x.t.less p.t) ++ p :: l.dropWhile fun x => x.t.less p.t
theorem putL_at {l : List Pn} {p : Pn} {k : Nat} (hk : k ≤ l.length) (hall : ∀ x ∈ l.take k, x.t.less p.t = true) (hend : ∀ a, l[k]? = some a → a.t.less p.t = false) : putL l p = l.take k ++ p :: l.drop k := by
  have h1 : l.takeWhile (fun x => x.t.less p.t) = l.take k ∧ l.dropWhile (fun x => x.t.less p.t) = l.drop k := by
    induction l generalizing k with
    | nil => simp
    | cons a l ih =>
      cases k with
      | zero =>
        have := hend a rfl
        simp [this]
      | succ k =>
        have ha := hall a (by simp)
        obtain ⟨e1, e2⟩ := ih (k := k) (by simpa using hk) (fun x hx => hall x (by simp [hx])) (fun b hb => hend b (by simpa using hb))
        simp [ha, e1, e2]
  unfold putL
  rw [h1.1, h1.2]
end Go.Proofs.Ytipacjbegfingaa
