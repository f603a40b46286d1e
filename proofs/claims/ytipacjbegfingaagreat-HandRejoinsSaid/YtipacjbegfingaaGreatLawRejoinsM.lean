/- HandRejoins: for any two states the law returns true: Rejoin is what the document says, and its inputs stay. No condition. -/
import Derived.Test.YtipacjbegfingaaGreatYaaa
import Derived.Test.YtipacjbegfingaaGreatYaec
import Derived.Test.YtipacjbegfingaaGreatYaed
namespace Go.Proofs.YtipacjbegfingaaGreat.handRejoins
open Go.ChangeShapes Go.WideShapes Go.ChangeAt Go.RowKit Go.Proofs.YtipacjbegfingaaGreat
set_option linter.unusedVariables false

set_option maxRecDepth 100000 in
theorem lifted (os : Os) (started : os.Started) (H : Type) (enc : TypeId × Value → H) :
    ReturnsInHanded {} Tryz.checked os 3 .any (Rows.handRejoinsSpec.pre6 enc Tryz.prog Tryz.f3 Rows.handRejoinsRow.domain false) (Rows.handRejoinsSpec.post enc Tryz.prog Tryz.f3 false true false false) := by
  refine returnsInHanded_of_change_sized (C := Tryz.checked) Tryz.own started (by kernel_rfl) Tryz.func3
    (ChangeSpec.witness6 (enc := enc) (C := Tryz.checked) false ⟨#[], #[.agg #[.int .i64 0, .int .i64 0, .float .f64 0, .float .f64 0, .int .i64 0, .int .i64 0, .int .i64 0, .int .i64 0, .int .i64 0, .int .i64 0, .slice none 0 0, .slice none 0 0], .agg #[.int .i64 0, .int .i64 0, .float .f64 0, .float .f64 0, .int .i64 0, .int .i64 0, .int .i64 0, .int .i64 0, .int .i64 0, .int .i64 0, .slice none 0 0, .slice none 0 0]], []⟩ 8 (by kernel_rfl) (by kernel_rfl) (by kernel_rfl) (by kernel_rfl)) ?_
  intro W base args ds gs before hval0 hW hcnd hsz _
  have hval : ∀ (j : Nat) t v, Tryz.f3.params[j]? = some t → args[j]? = some v → Value.okWide Tryz.prog W .any base t v := hval0
  have hW' : DataW.Whole enc Tryz.prog Tryz.f3.params.toList Rows.handRejoinsSpec.vars false W args.toList ds gs before := hW
  obtain ⟨p, q, hA0, hV, rfl, hfz, hnd⟩ := hW
  have hA : DataW.TrodAll enc Tryz.prog W 0 (fun _ => true) true Tryz.f3.params.toList args.toList ds p := hA0
  rw [Tryz.params3] at hA hval
  obtain ⟨v0, v1, d0, d1, p0, p1, rfl, rfl, rfl, h0, h1⟩ := trodAll_two hA
  obtain ⟨a, A1, n1, c1, A2, n2, c2, rfl, hok, hof, hoc, hn1, hn2, hh1, hh2⟩ := open_st (hval 0 30 v0 rfl rfl) h0 (Szd.top hsz (j := 0) (t := 30) (d := d0) rfl rfl)
  obtain ⟨b, A3, n3, c3, A4, n4, c4, rfl, hok2, hof2, hoc2, hn3, hn4, hh3, hh4⟩ := open_st (hval 1 30 v1 rfl rfl) h1 (Szd.top hsz (j := 1) (t := 30) (d := d1) rfl rfl)
  refine (rejoins_any (a := a) (b := b) (A1 := A1) (A2 := A2) (A3 := A3) (A4 := A4) (n1 := n1) (n2 := n2) (n3 := n3) (n4 := n4) (c1 := c1) (c2 := c2) (c3 := c3) (c4 := c4) (w := W) hok hok2 hh1 hh2 hh3 hh4 hn1 hn2 hn3 hn4).mono fun e W' ⟨he, hb⟩ => ?_
  subst he
  exact ⟨_, rfl, law_post Tryz.laidOut rfl (by kernel_rfl) Tryz.underlying4 (by rw [Tryz.params3]; decide +kernel) rfl hW' hb⟩

theorem proved : Rows.HandRejoinsSaid :=
  OpenClaim.holds_of_wide 3 Tryz.f3 rfl rfl rfl rfl rfl rfl rfl ⟨rfl, rfl, rfl, rfl, rfl⟩ rfl rfl rfl rfl rfl (by kernel_rfl) Tryz.func3 (by kernel_rfl)
    (of_decide_eq_true (by kernel_rfl)) (by unfold Func.isWrapper; rw [if_neg (of_decide_eq_false (by kernel_rfl))]; exact ⟨rfl, rfl⟩)
    (fun os started H enc _ => lifted os started H enc)
end Go.Proofs.YtipacjbegfingaaGreat.handRejoins
