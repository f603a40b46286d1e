/- The walk of the document's put. -/
import Derived.Test.YtipacjbegfingaaSo
import Derived.Test.YtipacjbegfingaaEj
import Derived.Test.YtipacjbegfingaaEk
namespace Go.Proofs.Ytipacjbegfingaa
set_option linter.unusedVariables false
open Go.RowKit Fl
attribute [local go_sem] run_store_float

theorem flatten_len (k : Nat) : ∀ css : List (List Value), (∀ cs ∈ css, cs.length = k) → css.flatten.length = css.length * k := by
  intro css
  induction css with
  | nil => intro _; simp
  | cons cs css ih =>
    intro h
    rw [List.flatten_cons, List.length_append, h cs (List.mem_cons_self ..), ih (fun c hc => h c (List.mem_cons_of_mem _ hc)), List.length_cons, Nat.succ_mul]
    omega
/-- the cells of a slice's elements -/
theorem Sl.css {α : Type} {R : Rel α} {size n B : Nat} {w : World} {A : Option Addr} {l : List α} (hsz : 0 < size) (h : Sl R size w B A n l) :
    ∃ css : List (List Value), css.length = n ∧ (∀ cs ∈ css, cs.length = size) ∧ Reads w B size A n css.flatten ∧ ∀ (i : Nat) (cs : List Value) (a : α), css[i]? = some cs → l[i]? = some a → R w B cs a := by
  have hall : ∀ i, i < n → ∃ cs : List Value, cs.length = size ∧ (∃ ad, A = some ad ∧ ad.block < B ∧ ∀ j u, cs[j]? = some u → w.cell? (ad.add (i * size + j)) = some u) ∧ ∀ a, l[i]? = some a → R w B cs a := fun i hi => by
    obtain ⟨ad, cs, a, e, hl, hb, hlen, hc, hr⟩ := h.at_ hi
    exact ⟨cs, hlen, ⟨ad, e, hb, hc⟩, fun b hb => by rw [hl] at hb; injection hb with hb; rw [← hb]; exact hr⟩
  obtain ⟨f, hf⟩ := Go.Deep.choose_lt hall
  have hget : ∀ (i : Nat) (cs : List Value), ((List.range n).map f)[i]? = some cs → i < n ∧ cs = f i := fun i cs hi => by
    have hin : i < n := by have := (List.getElem?_eq_some_iff.1 hi).1; simpa using this
    rw [List.getElem?_map, List.getElem?_range hin] at hi
    exact ⟨hin, (Option.some.inj hi).symm⟩
  have hlen : ∀ cs ∈ (List.range n).map f, cs.length = size := fun cs hcs => by
    obtain ⟨i, hi, rfl⟩ := List.mem_map.1 hcs
    exact (hf i (List.mem_range.1 hi)).1
  refine ⟨(List.range n).map f, by simp, hlen, ⟨by rw [flatten_len size _ hlen]; simp, fun hn => ?_⟩, fun i cs a h1 h2 => ?_⟩
  · obtain ⟨_, ⟨ad, e, hb, _⟩, _⟩ := hf 0 hn
    refine ⟨ad, e, hb, fun j u hj => ?_⟩
    have e2 : j = j / size * size + j % size := (Nat.div_add_mod' j size).symm
    rw [e2, flatten_get size _ _ _ hlen (Nat.mod_lt _ hsz)] at hj
    cases hl : ((List.range n).map f)[j / size]? with
    | none => rw [hl] at hj; cases hj
    | some cs =>
      rw [hl] at hj
      obtain ⟨hin, rfl⟩ := hget _ _ hl
      obtain ⟨_, ⟨ad', e3, _, hc⟩, _⟩ := hf _ hin
      rw [e] at e3
      injection e3 with e3
      subst e3
      rw [e2]
      exact hc _ u hj
  · obtain ⟨hin, rfl⟩ := hget i cs h1
    exact (hf i hin).2.2 a h2

/-- all blocks but g and the row's own -/
def gB (g size : Nat) (v : Value) : Nat → Bool := fun k => decide (k < size) && decide (k ≠ g) && decide (v.ownBlock ≠ some k)
theorem gB_iff {g size k : Nat} {v : Value} : gB g size v k = true ↔ k < size ∧ k ≠ g ∧ v.ownBlock ≠ some k := by
  unfold gB
  simp only [Bool.and_eq_true, decide_eq_true_eq, and_assoc]
section
variable {α : Type} {R : Rel α} {E size base g : Nat} {w w' : World} {v : Value} {l : List α}
theorem RowR.keepG (hR : R.Kept) (hRm : R.Mono) (h : RowR R E size base (gB g w.heap.size v) w v l) (hg : g < base) (hs : w.heap.size ≤ w'.heap.size) (hb : ∀ k, k < w.heap.size → k ≠ g → w'.heap[k]? = w.heap[k]?) : RowR R E size base (gB g w'.heap.size v) w' v l := by
  obtain ⟨css, ho, hlen, hl, hc⟩ := h
  refine ⟨css, owns_same ho (fun k h1 h2 => hb k h2 (by omega)), hlen, hl, fun i cs a h1 h2 => ((hc i cs a h1 h2).keep hR (fun k hk => ?_) hs).wider hRm fun k hk => ?_⟩
  · rw [gB_iff] at hk; exact hb k hk.1 hk.2.1
  · rw [gB_iff] at *; exact ⟨by omega, hk.2⟩
theorem RowR.ownG (hR : R.Kept) (hRm : R.Mono) (h : RowR R E size base (gB g w.heap.size v) w v l) (hgb : g < base) : ∃ xs, w.ownsRow base E size v l.length xs ∧
    ∀ (ds : List (List Value)) (es : List α) (w' : World) (v' : Value), ds.length = es.length → (∀ cs ∈ ds, cs.length = size) → (∀ (i : Nat) (cs : List Value) (a : α), ds[i]? = some cs → es[i]? = some a → Inn R (gB g w.heap.size v) w cs a) → w'.ownsRow base E size v' (l.length + es.length) (xs ++ ds.flatten) → w.grownBy w' v.ownBlock → (v'.ownBlock = v.ownBlock ∨ v'.ownBlock = some w.heap.size) →
      RowR R E size base (gB g w'.heap.size v') w' v' (l ++ es) := by
  obtain ⟨css, ho, hlen, hl, hc⟩ := h
  refine ⟨css.flatten, ho, fun ds es w' v' hds hdl hin hown hg hat => ?_⟩
  have hK : ∀ k, gB g w.heap.size v k = true → gB g w'.heap.size v' k = true := fun k hk => by
    rw [gB_iff] at *
    have := hg.size
    refine ⟨by omega, hk.2.1, fun e => ?_⟩
    rcases hat with e2 | e2
    · rw [e2] at e; exact hk.2.2 e
    · rw [e2] at e; injection e with e; omega
  have hB : ∀ k, gB g w.heap.size v k = true → w'.heap[k]? = w.heap[k]? := fun k hk => by
    rw [gB_iff] at hk
    exact hg.block k hk.1 (fun e => hk.2.2 e.symm)
  have up : ∀ {cs : List Value} {a : α}, Inn R (gB g w.heap.size v) w cs a → Inn R (gB g w'.heap.size v') w' cs a := fun hi => (hi.keep hR hB hg.size).wider hRm hK
  refine ⟨css ++ ds, ?_, by simp [hlen, hds], ?_, ?_⟩
  · rw [List.length_append, List.flatten_append]; exact hown
  · intro c hc'
    rcases List.mem_append.1 hc' with h1 | h1
    · exact hl c h1
    · exact hdl c h1
  · intro i c b h1 h2
    by_cases hi : i < l.length
    · rw [List.getElem?_append_left (by omega)] at h1 h2
      exact up (hc i c b h1 h2)
    · rw [List.getElem?_append_right (by omega)] at h1 h2
      rw [hlen] at h1
      exact up (hin _ c b h1 h2)
end
/-- a pending one in its place -/
def putL (l : List Pn) (p : Pn) : List Pn := l.takeWhile (fun x => x.t.less p.t) ++ p :: l.dropWhile fun x => x.t.less p.t
theorem putL_at {l : List Pn} {p : Pn} {k : Nat} (hk : k ≤ l.length) (hall : ∀ x ∈ l.take k, x.t.less p.t = true) (hend : ∀ a, l[k]? = some a → a.t.less p.t = false) : putL l p = l.take k ++ p :: l.drop k := by
  have h1 : l.takeWhile (fun x => x.t.less p.t) = l.take k ∧ l.dropWhile (fun x => x.t.less p.t) = l.drop k := by
    induction l generalizing k with
    | nil => simp
    | cons a l ih =>
      cases k with
      | zero =>
        have := hend a rfl
        simp [this]
      | succ k =>
        have ha := hall a (by simp)
        obtain ⟨e1, e2⟩ := ih (k := k) (by simpa using hk) (fun x hx => hall x (by simp [hx])) (fun b hb => hend b (by simpa using hb))
        simp [ha, e1, e2]
  unfold putL
  rw [h1.1, h1.2]
end Go.Proofs.Ytipacjbegfingaa
