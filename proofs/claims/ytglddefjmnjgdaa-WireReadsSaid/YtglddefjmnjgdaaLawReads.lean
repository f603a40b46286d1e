/- WireReads: for any bytes and any reads the law returns true: what each read tells, the place and the fault behind it are what the document says. No condition. -/
import Derived.Test.YtglddefjmnjgdaaFrame
import Derived.Test.YtglddefjmnjgdaaWv
import Derived.Test.YtglddefjmnjgdaaOpen
import Derived.WalkLawsBesides
namespace Go.Proofs.Ytglddefjmnjgdaa.wireReads
open Go.ChangeShapes Go.WideShapes Go.ChangeAt Go.RowKit Go.Proofs.Ytglddefjmnjgdaa
set_option linter.unusedVariables false

set_option maxRecDepth 100000 in
theorem lifted (os : Os) (started : os.Started) (H : Type) (enc : TypeId × Value → H) :
    ReturnsInHanded {} Try.checked os 9 .any (Rows.wireReadsSpec.pre6 enc Try.prog Try.f9 Rows.wireReadsRow.domain false) (Rows.wireReadsSpec.post enc Try.prog Try.f9 false true false false) := by
  refine returnsInHanded_of_change (C := Try.checked) Try.own started (by kernel_rfl) Try.func9
    (ChangeSpec.witness6 (enc := enc) (C := Try.checked) false ⟨#[], #[.slice none 0 0, .slice none 0 0], []⟩ 8 (by kernel_rfl) (by kernel_rfl) (by kernel_rfl) (by kernel_rfl)) ?_
  intro W base args ds gs before hval0 hW hcnd _
  have hval : ∀ (j : Nat) t v, Try.f9.params[j]? = some t → args[j]? = some v → Value.okWide Try.prog W .any base t v := hval0
  have hW' : DataW.Whole enc Try.prog Try.f9.params.toList Rows.wireReadsSpec.vars false W args.toList ds gs before := hW
  obtain ⟨p, q, hA0, hV, rfl, hfz, hnd⟩ := hW
  have hA : DataW.TrodAll enc Try.prog W 0 (fun _ => true) true Try.f9.params.toList args.toList ds p := hA0
  rw [Try.params9] at hA hval
  obtain ⟨v0, v1, d0, d1, p0, p1, rfl, rfl, rfl, h0, h1⟩ := trodAll_two hA
  obtain ⟨A, n, c, b, rfl, hn, hnc, hnm, hr⟩ := open_bytes (hval 0 31 v0 rfl rfl) h0
  obtain ⟨A2, n2, c2, l2, rfl, hn2, hn2c, hn2m, hsl2⟩ := open_its (hval 1 22 v1 rfl rfl) h1
  refine (reads_walk A n c b A2 n2 c2 l2 W hr hn hnc hnm hsl2 hn2).mono fun e W' ⟨he, hb⟩ => ?_
  subst he
  exact ⟨_, rfl, law_post Try.laidOut rfl (by kernel_rfl) Try.underlying4 (by rw [Try.params9]; decide +kernel) rfl hW' hb⟩

theorem proved : Rows.WireReadsSaid :=
  OpenClaim.holds_of_wide 9 Try.f9 rfl rfl rfl rfl rfl rfl rfl ⟨rfl, rfl, rfl, rfl, rfl⟩ rfl rfl rfl rfl rfl (by kernel_rfl) Try.func9 (by kernel_rfl)
    (of_decide_eq_true (by kernel_rfl)) (by unfold Func.isWrapper; rw [if_neg (of_decide_eq_false (by kernel_rfl))]; exact ⟨rfl, rfl⟩)
    (fun os started H enc _ => lifted os started H enc)
end Go.Proofs.Ytglddefjmnjgdaa.wireReads
