/- PlaceTurns: for any list of ranges, any numbers, the law returns true: a cover in any order; one less, one twice. No condition. -/
import Derived.Test.YtbclfcfcpmlaaaaFrame
import Derived.Test.YtbclfcfcpmlaaaaPq
import Derived.Test.YtbclfcfcpmlaaaaOpen
import Derived.WalkLawsBesides
namespace Go.Proofs.Ytbclfcfcpmlaaaa.placeTurns
open Go.ChangeShapes Go.WideShapes Go.ChangeAt Go.RowKit Go.Proofs.Ytbclfcfcpmlaaaa
set_option linter.unusedVariables false

set_option maxRecDepth 100000 in
theorem lifted (os : Os) (started : os.Started) (H : Type) (enc : TypeId × Value → H) :
    ReturnsInHanded {} Try.checked os 6 .any (Rows.placeTurnsSpec.pre6 enc Try.prog Try.f6 Rows.placeTurnsRow.domain false) (Rows.placeTurnsSpec.post enc Try.prog Try.f6 false true false false) := by
  refine returnsInHanded_of_change (C := Try.checked) Try.own started (by kernel_rfl) Try.func6
    (ChangeSpec.witness6 (enc := enc) (C := Try.checked) false ⟨#[], #[.slice none 0 0, .slice none 0 0, .int .i64 0], []⟩ 8 (by kernel_rfl) (by kernel_rfl) (by kernel_rfl) (by kernel_rfl)) ?_
  intro W base args ds gs before hval0 hW hcnd _
  have hval : ∀ (j : Nat) t v, Try.f6.params[j]? = some t → args[j]? = some v → Value.okWide Try.prog W .any base t v := hval0
  have hW' : DataW.Whole enc Try.prog Try.f6.params.toList Rows.placeTurnsSpec.vars false W args.toList ds gs before := hW
  obtain ⟨p, q, hA0, hV, rfl, hfz, hnd⟩ := hW
  have hA : DataW.TrodAll enc Try.prog W 0 (fun _ => true) true Try.f6.params.toList args.toList ds p := hA0
  rw [Try.params6] at hA hval
  obtain ⟨v0, v1, v2, d0, d1, d2, p0, p1, p2, rfl, rfl, rfl, h0, h1, h2⟩ := trodAll_three hA
  obtain ⟨A, n, c, l, rfl, hn, hnc, hcm, hsl⟩ := open_rgs (hval 0 35 v0 rfl rfl) h0
  obtain ⟨A2, n2, c2, t, rfl, hn2, hnc2, hcm2, hsl2⟩ := open_sl IntRel 1 (by omega) Try.underlying36 (by kernel_rfl) (fun f cs x _ hx => by (obtain ⟨b, rfl, _, hb⟩ := DataW.trod_int Try.underlying3 hx; exact ⟨b, rfl, by simpa [Lit.wf, i64ok, IntKind.min, IntKind.max, IntKind.signed, IntKind.bits] using hb⟩)) (hval 1 36 v1 rfl rfl) h1
  obtain ⟨k, rfl, rfl, rfl, wk⟩ := open_int Try.underlying3 (hval 2 3 v2 rfl rfl) h2
  refine (turns_walk A n c l A2 n2 c2 t k W hsl hnc hcm hsl2 hn2 (by simpa [Lit.wf, i64ok, IntKind.min, IntKind.max, IntKind.signed, IntKind.bits] using wk)).mono fun e W' ⟨he, hb⟩ => ?_
  subst he
  exact ⟨_, rfl, law_post Try.laidOut rfl (by kernel_rfl) Try.underlying4 (by rw [Try.params6]; decide +kernel) rfl hW' hb⟩

theorem proved : Rows.PlaceTurnsSaid :=
  OpenClaim.holds_of_wide 6 Try.f6 rfl rfl rfl rfl rfl rfl rfl ⟨rfl, rfl, rfl, rfl, rfl⟩ rfl rfl rfl rfl rfl (by kernel_rfl) Try.func6 (by kernel_rfl)
    (of_decide_eq_true (by kernel_rfl)) (by unfold Func.isWrapper; rw [if_neg (of_decide_eq_false (by kernel_rfl))]; exact ⟨rfl, rfl⟩)
    (fun os started H enc _ => lifted os started H enc)
end Go.Proofs.Ytbclfcfcpmlaaaa.placeTurns
