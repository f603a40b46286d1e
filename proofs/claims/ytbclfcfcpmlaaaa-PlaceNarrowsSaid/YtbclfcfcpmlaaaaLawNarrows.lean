/- PlaceNarrows: for any two floats and any turns the law returns true: halving a piece again and again ends below 1100 times. No condition. -/
import Derived.Test.YtbclfcfcpmlaaaaFrame
import Derived.Test.YtbclfcfcpmlaaaaPg
import Derived.WalkLawsBesides
namespace Go.Proofs.Ytbclfcfcpmlaaaa.placeNarrows
open Go.ChangeShapes Go.WideShapes Go.ChangeAt Go.RowKit Go.Proofs.Ytbclfcfcpmlaaaa
set_option linter.unusedVariables false
theorem bools_of {w : World} {B n : Nat} {A : Option Addr} {l : List Bool} (h : Sl (Flat (fun b : Bool => [.bool b]) fun _ => True) 1 w B A n l) : Bools w B A n := fun k hk => by
  obtain ⟨ad, cs, b, e, _, hb, _, hc, rfl, _⟩ := h.at_ hk
  exact ⟨ad, b, e, hb, by simpa using hc 0 _ rfl⟩
set_option maxRecDepth 100000 in
theorem lifted (os : Os) (started : os.Started) (H : Type) (enc : TypeId × Value → H) :
    ReturnsInHanded {} Try.checked os 5 .any (Rows.placeNarrowsSpec.pre6 enc Try.prog Try.f5 Rows.placeNarrowsRow.domain false) (Rows.placeNarrowsSpec.post enc Try.prog Try.f5 false true false false) := by
  refine returnsInHanded_of_change (C := Try.checked) Try.own started (by kernel_rfl) Try.func5
    (ChangeSpec.witness6 (enc := enc) (C := Try.checked) false ⟨#[], #[.float .f64 0, .float .f64 0, .slice none 0 0], []⟩ 8 (by kernel_rfl) (by kernel_rfl) (by kernel_rfl) (by kernel_rfl)) ?_
  intro W base args ds gs before hval0 hW hcnd _
  have hval : ∀ (j : Nat) t v, Try.f5.params[j]? = some t → args[j]? = some v → Value.okWide Try.prog W .any base t v := hval0
  have hW' : DataW.Whole enc Try.prog Try.f5.params.toList Rows.placeNarrowsSpec.vars false W args.toList ds gs before := hW
  obtain ⟨p, q, hA0, hV, rfl, hfz, hnd⟩ := hW
  have hA : DataW.TrodAll enc Try.prog W 0 (fun _ => true) true Try.f5.params.toList args.toList ds p := hA0
  rw [Try.params5] at hA hval
  obtain ⟨v0, v1, v2, d0, d1, d2, p0, p1, p2, rfl, rfl, rfl, h0, h1, h2⟩ := trodAll_three hA
  obtain ⟨a, rfl, rfl, rfl, wa⟩ := open_float Try.underlying23 (hval 0 23 v0 rfl rfl) h0
  obtain ⟨b, rfl, rfl, rfl, wb⟩ := open_float Try.underlying23 (hval 1 23 v1 rfl rfl) h1
  obtain ⟨A, n, c, tl, rfl, hn, hnc, hcm, hsl⟩ := open_sl (Flat (fun b : Bool => [.bool b]) fun _ => True) 1 (by omega) Try.underlying33 (by kernel_rfl) (fun f cs x _ hx => by (obtain ⟨b, rfl, _⟩ := DataW.trod_bool Try.underlying4 hx; exact ⟨b, rfl, trivial⟩)) (hval 2 33 v2 rfl rfl) h2
  refine (narrows_walk a b A n c W (by simpa [Lit.wf] using wa) (by simpa [Lit.wf] using wb) hn (bools_of hsl)).mono fun e W' ⟨he, hb⟩ => ?_
  subst he
  exact ⟨_, rfl, law_post Try.laidOut rfl (by kernel_rfl) Try.underlying4 (by rw [Try.params5]; decide +kernel) rfl hW' hb⟩

theorem proved : Rows.PlaceNarrowsSaid :=
  OpenClaim.holds_of_wide 5 Try.f5 rfl rfl rfl rfl rfl rfl rfl ⟨rfl, rfl, rfl, rfl, rfl⟩ rfl rfl rfl rfl rfl (by kernel_rfl) Try.func5 (by kernel_rfl)
    (of_decide_eq_true (by kernel_rfl)) (by unfold Func.isWrapper; rw [if_neg (of_decide_eq_false (by kernel_rfl))]; exact ⟨rfl, rfl⟩)
    (fun os started H enc _ => lifted os started H enc)
end Go.Proofs.Ytbclfcfcpmlaaaa.placeNarrows
