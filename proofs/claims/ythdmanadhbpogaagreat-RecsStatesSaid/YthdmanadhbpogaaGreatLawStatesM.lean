/- RecsStates: for any state and any bytes the law returns true: the state's bytes are the document's, it comes back out of them; what is told of any bytes, written again, is what was read. No condition. -/
import Derived.Test.YthdmanadhbpogaaGreatJaaa
import Derived.Test.YthdmanadhbpogaaGreatJadj
namespace Go.Proofs.YthdmanadhbpogaaGreat.recsStates
open Go.ChangeShapes Go.WideShapes Go.ChangeAt Go.RowKit
set_option linter.unusedVariables false
set_option maxRecDepth 100000 in
theorem lifted (os:Os) (started:os.Started) (H:Type) (enc:TypeId×Value→H):
 ReturnsInHanded {} Tryz.checked os 8 .any (Rows.recsStatesSpec.pre6 enc Tryz.prog Tryz.f8 Rows.recsStatesRow.domain false) (Rows.recsStatesSpec.post enc Tryz.prog Tryz.f8 false true false false):=by
 refine returnsInHanded_of_change_sized (C:=Tryz.checked) Tryz.own started (by kernel_rfl) Tryz.func8
  (ChangeSpec.witness6 (enc:=enc) (C:=Tryz.checked) false ⟨#[],#[.agg #[.int .i64 0,.int .i64 0,.float .f64 0,.float .f64 0,.int .i64 0,.int .i64 0,.int .i64 0,.int .i64 0,.int .i64 0,.int .i64 0,.slice none 0 0,.slice none 0 0],.slice none 0 0],[]⟩ 8 (by kernel_rfl) (by kernel_rfl) (by kernel_rfl) (by kernel_rfl)) ?_
 intro W base args ds gs before hval0 hW hcnd hsz _
 have hval:∀(j:Nat) t v,Tryz.f8.params[j]?=some t→args[j]?=some v→Value.okWide Tryz.prog W .any base t v:=hval0
 have hW':DataW.Whole enc Tryz.prog Tryz.f8.params.toList Rows.recsStatesSpec.vars false W args.toList ds gs before:=hW
 obtain⟨p,q,hA0,hV,rfl,hfz,hnd⟩:=hW
 have hA:DataW.TrodAll enc Tryz.prog W 0 (fun _=>true) true Tryz.f8.params.toList args.toList ds p:=hA0
 rw[Tryz.params8]at hA hval
 obtain⟨v0,v1,d0,d1,p0,p1,rfl,rfl,rfl,h0,h1⟩:=trodAll_two hA
 obtain⟨s,A1,n1,c1,A2,n2,c2,rfl,i⟩:=open_stC (hval 0 36 v0 rfl rfl) h0 (Szd.top hsz (j:=0) (t:=36) (d:=d0) rfl rfl)
 obtain⟨A,n,c,b,rfl,hn,hnc,hnm,hr⟩:=open_bytesS (hval 1 48 v1 rfl rfl) h1
 refine(states_in s A1 A2 n1 n2 c1 c2 A n c b W i hr hnc hnm).mono fun e W' ⟨he,hb⟩=>?_
 subst he
 exact⟨_,rfl,law_post Tryz.laidOut rfl (by kernel_rfl) Tryz.underlying4 (by rw[Tryz.params8];decide+kernel) rfl hW' hb⟩
theorem proved:Rows.RecsStatesSaid:=
 OpenClaim.holds_of_wide 8 Tryz.f8 rfl rfl rfl rfl rfl rfl rfl ⟨rfl,rfl,rfl,rfl,rfl⟩ rfl rfl rfl rfl rfl (by kernel_rfl) Tryz.func8 (by kernel_rfl)
  (of_decide_eq_true (by kernel_rfl)) (by unfold Func.isWrapper;rw[if_neg (of_decide_eq_false (by kernel_rfl))];exact⟨rfl,rfl⟩)
  (fun os started H enc _=>lifted os started H enc)
end Go.Proofs.YthdmanadhbpogaaGreat.recsStates
