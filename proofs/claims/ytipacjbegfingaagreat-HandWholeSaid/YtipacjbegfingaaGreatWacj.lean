/- The document's merges of two rows. -/
import Derived.Test.YtipacjbegfingaaGreatWaci
namespace Go.Proofs.YtipacjbegfingaaGreat
set_option linter.unusedVariables false
open Go.RowKit
attribute [local go_sem] run_store_float

abbrev HhRel : Rel Hh := Flat Hh.cells fun _ => True
theorem HhRel.kept : HhRel.Kept := Flat.kept _ _
theorem Sl.hh {w : World} {B n : Nat} {A : Option Addr} {l : List Hh} (h : Sl HhRel 2 w B A n l) {k : Nat} (hk : k < n) : ∃ ad a, A = some ad ∧ l[k]? = some a ∧ (ad.add (k * 2)).block < B ∧ True ∧ w.cell? (ad.add (k * 2)) = some (.string a.key) ∧
    w.cell? ⟨(ad.add (k * 2)).block, (ad.add (k * 2)).off + 1, none⟩ = some a.hd := by
  obtain ⟨ad, cs, a, e, hl, hb, _, hc, rfl, -⟩ := h.at_ hk
  have e0 : ∀ j, ad.add (k * 2 + j) = (ad.add (k * 2)).add j := fun j => (add_of_add _ _ _).symm
  have c0 := hc 0 _ rfl
  have c1 := hc 1 _ rfl
  rw [e0] at c1
  exact ⟨ad, a, e, hl, by rw [block_of_add]; exact hb, trivial, c0, c1⟩
end Go.Proofs.YtipacjbegfingaaGreat
