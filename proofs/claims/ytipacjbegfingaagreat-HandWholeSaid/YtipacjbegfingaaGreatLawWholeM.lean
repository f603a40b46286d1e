/- HandWhole: for any state, any float, any number and any two stamps the law returns true: what was divided, rejoined, is what it was; both halves may be, and each pending read and write lies in its half. No condition. -/
import Derived.Test.YtipacjbegfingaaGreatWaaa
import Derived.Test.YtipacjbegfingaaGreatWaea
import Derived.Test.YtipacjbegfingaaGreatWaeb
namespace Go.Proofs.YtipacjbegfingaaGreat.handWhole
open Go.ChangeShapes Go.WideShapes Go.ChangeAt Go.RowKit Go.Proofs.YtipacjbegfingaaGreat
set_option linter.unusedVariables false

set_option maxRecDepth 100000 in
theorem lifted (os : Os) (started : os.Started) (H : Type) (enc : TypeId × Value → H) :
    ReturnsInHanded {} Tryz.checked os 4 .any (Rows.handWholeSpec.pre6 enc Tryz.prog Tryz.f4 Rows.handWholeRow.domain false) (Rows.handWholeSpec.post enc Tryz.prog Tryz.f4 false true false false) := by
  refine returnsInHanded_of_change_sized (C := Tryz.checked) Tryz.own started (by kernel_rfl) Tryz.func4
    (ChangeSpec.witness6 (enc := enc) (C := Tryz.checked) false ⟨#[], #[.agg #[.int .i64 0, .int .i64 0, .float .f64 0, .float .f64 0, .int .i64 0, .int .i64 0, .int .i64 0, .int .i64 0, .int .i64 0, .int .i64 0, .slice none 0 0, .slice none 0 0], .float .f64 0, .int .i64 0, .agg #[.int .i64 0, .int .i64 0, .int .i64 0], .agg #[.int .i64 0, .int .i64 0, .int .i64 0]], []⟩ 8 (by kernel_rfl) (by kernel_rfl) (by kernel_rfl) (by kernel_rfl)) ?_
  intro W base args ds gs before hval0 hW hcnd hsz _
  have hval : ∀ (j : Nat) t v, Tryz.f4.params[j]? = some t → args[j]? = some v → Value.okWide Tryz.prog W .any base t v := hval0
  have hW' : DataW.Whole enc Tryz.prog Tryz.f4.params.toList Rows.handWholeSpec.vars false W args.toList ds gs before := hW
  obtain ⟨p, q, hA0, hV, rfl, hfz, hnd⟩ := hW
  have hA : DataW.TrodAll enc Tryz.prog W 0 (fun _ => true) true Tryz.f4.params.toList args.toList ds p := hA0
  rw [Tryz.params4] at hA hval
  obtain ⟨v0, vs0, d0, ds0, p0, q0, hargs, rfl, rfl, h0, r0⟩ := trodAll_cons hA
  obtain ⟨v1, vs1, d1, ds1, p1, q1, rfl, rfl, rfl, h1, r1⟩ := trodAll_cons r0
  obtain ⟨v2, vs2, d2, ds2, p2, q2, rfl, rfl, rfl, h2, r2⟩ := trodAll_cons r1
  obtain ⟨v3, vs3, d3, ds3, p3, q3, rfl, rfl, rfl, h3, r3⟩ := trodAll_cons r2
  obtain ⟨v4, vs4, d4, ds4, p4, q4, rfl, rfl, rfl, h4, r4⟩ := trodAll_cons r3
  obtain ⟨rfl, rfl, rfl⟩ := trodAll_nil r4
  obtain rfl : args = #[v0, v1, v2, v3, v4] := by cases args; simp_all
  obtain ⟨s, A1, n1, c1, A2, n2, c2, rfl, hok, hof, hoc, hn1, hn2, hh1, hh2⟩ := open_st (hval 0 30 v0 rfl rfl) h0 (Szd.top hsz (j := 0) (t := 30) (d := d0) rfl rfl)
  obtain ⟨x, rfl, rfl, rfl, wx⟩ := open_float Tryz.underlying22 (hval 1 22 v1 rfl rfl) h1
  obtain ⟨k, rfl, rfl, rfl, wk⟩ := open_int Tryz.underlying3 (hval 2 3 v2 rfl rfl) h2
  obtain ⟨st, rfl, wst⟩ := open_sp (hval 3 26 v3 rfl rfl) h3 (Szd.top hsz (j := 3) (t := 26) (d := d3) rfl rfl)
  obtain ⟨q, rfl, wq⟩ := open_sp (hval 4 26 v4 rfl rfl) h4 (Szd.top hsz (j := 4) (t := 26) (d := d4) rfl rfl)
  refine (whole_any s A1 A2 n1 n2 c1 c2 x k st q W hok (by simpa [Lit.wf] using wx) hh1 hh2 hn1 hn2).mono fun e W' ⟨he, hb⟩ => ?_
  subst he
  exact ⟨_, rfl, law_post Tryz.laidOut rfl (by kernel_rfl) Tryz.underlying4 (by rw [Tryz.params4]; decide +kernel) rfl hW' hb⟩

theorem proved : Rows.HandWholeSaid :=
  OpenClaim.holds_of_wide 4 Tryz.f4 rfl rfl rfl rfl rfl rfl rfl ⟨rfl, rfl, rfl, rfl, rfl⟩ rfl rfl rfl rfl rfl (by kernel_rfl) Tryz.func4 (by kernel_rfl)
    (of_decide_eq_true (by kernel_rfl)) (by unfold Func.isWrapper; rw [if_neg (of_decide_eq_false (by kernel_rfl))]; exact ⟨rfl, rfl⟩)
    (fun os started H enc _ => lifted os started H enc)
end Go.Proofs.YtipacjbegfingaaGreat.handWhole
