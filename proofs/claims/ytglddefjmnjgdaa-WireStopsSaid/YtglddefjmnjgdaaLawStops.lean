/- WireStops: for any bytes and any reads the law returns true: behind a fault nothing is told and nothing moves, and the fault stays. No condition. -/
import Derived.Test.YtglddefjmnjgdaaFrame
import Derived.Test.YtglddefjmnjgdaaWx
import Derived.Test.YtglddefjmnjgdaaOpen
import Derived.WalkLawsBesides
namespace Go.Proofs.Ytglddefjmnjgdaa.wireStops
open Go.ChangeShapes Go.WideShapes Go.ChangeAt Go.RowKit Go.Proofs.Ytglddefjmnjgdaa
set_option linter.unusedVariables false

set_option maxRecDepth 100000 in
theorem lifted (os : Os) (started : os.Started) (H : Type) (enc : TypeId × Value → H) :
    ReturnsInHanded {} Try.checked os 10 .any (Rows.wireStopsSpec.pre6 enc Try.prog Try.f10 Rows.wireStopsRow.domain false) (Rows.wireStopsSpec.post enc Try.prog Try.f10 false true false false) := by
  refine returnsInHanded_of_change (C := Try.checked) Try.own started (by kernel_rfl) Try.func10
    (ChangeSpec.witness6 (enc := enc) (C := Try.checked) false ⟨#[], #[.slice none 0 0, .slice none 0 0, .slice none 0 0], []⟩ 8 (by kernel_rfl) (by kernel_rfl) (by kernel_rfl) (by kernel_rfl)) ?_
  intro W base args ds gs before hval0 hW hcnd _
  have hval : ∀ (j : Nat) t v, Try.f10.params[j]? = some t → args[j]? = some v → Value.okWide Try.prog W .any base t v := hval0
  have hW' : DataW.Whole enc Try.prog Try.f10.params.toList Rows.wireStopsSpec.vars false W args.toList ds gs before := hW
  obtain ⟨p, q, hA0, hV, rfl, hfz, hnd⟩ := hW
  have hA : DataW.TrodAll enc Try.prog W 0 (fun _ => true) true Try.f10.params.toList args.toList ds p := hA0
  rw [Try.params10] at hA hval
  obtain ⟨v0, v1, v2, d0, d1, d2, p0, p1, p2, rfl, rfl, rfl, h0, h1, h2⟩ := trodAll_three hA
  obtain ⟨A, n, c, b, rfl, hn, hnc, hnm, hr⟩ := open_bytes (hval 0 31 v0 rfl rfl) h0
  obtain ⟨A2, n2, c2, l2, rfl, hn2, hn2c, hn2m, hsl2⟩ := open_its (hval 1 22 v1 rfl rfl) h1
  obtain ⟨A3, n3, c3, l3, rfl, hn3, hn3c, hn3m, hsl3⟩ := open_its (hval 2 22 v2 rfl rfl) h2
  refine (stops_walk A n c b A2 n2 c2 l2 A3 n3 c3 l3 W hr hn hnc hnm hsl2 hn2 hsl3 hn3).mono fun e W' ⟨he, hb⟩ => ?_
  subst he
  exact ⟨_, rfl, law_post Try.laidOut rfl (by kernel_rfl) Try.underlying4 (by rw [Try.params10]; decide +kernel) rfl hW' hb⟩

theorem proved : Rows.WireStopsSaid :=
  OpenClaim.holds_of_wide 10 Try.f10 rfl rfl rfl rfl rfl rfl rfl ⟨rfl, rfl, rfl, rfl, rfl⟩ rfl rfl rfl rfl rfl (by kernel_rfl) Try.func10 (by kernel_rfl)
    (of_decide_eq_true (by kernel_rfl)) (by unfold Func.isWrapper; rw [if_neg (of_decide_eq_false (by kernel_rfl))]; exact ⟨rfl, rfl⟩)
    (fun os started H enc _ => lifted os started H enc)
end Go.Proofs.Ytglddefjmnjgdaa.wireStops
