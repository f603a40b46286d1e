/- MsgsOwn: for any message and any number the law returns true: with a field too many, or one that may not be, a message is none; without it, it is as it was. No condition. -/
import Derived.Test.YtcalkfgibflbnaaGreatKaaa
import Derived.Test.YtcalkfgibflbnaaGreatKafd
namespace Go.Proofs.YtcalkfgibflbnaaGreat.msgsOwn
open Go.ChangeShapes Go.WideShapes Go.ChangeAt Go.RowKit
set_option linter.unusedVariables false
set_option maxRecDepth 100000 in
theorem lifted (os:Os) (started:os.Started) (H:Type) (enc:TypeId×Value→H):
 ReturnsInHanded {} Tryz.checked os 7 .any (Rows.msgsOwnSpec.pre6 enc Tryz.prog Tryz.f7 Rows.msgsOwnRow.domain false) (Rows.msgsOwnSpec.post enc Tryz.prog Tryz.f7 false true false false):=by
 refine returnsInHanded_of_change_sized (C:=Tryz.checked) Tryz.own started (by kernel_rfl) Tryz.func7
  (ChangeSpec.witness6 (enc:=enc) (C:=Tryz.checked) false ⟨#[],#[.agg #[.int .i64 0,.int .i64 0,.int .i64 0,.int .i64 0,.int .i64 0,.int .i64 0,.int .i64 0,.int .i64 0,.int .i64 0,.int .i64 0,.int .i64 0,.int .i64 0,.int .i64 0,.int .i64 0,.int .i64 0,.bool false,.int .i64 0,.int .i64 0,.slice none 0 0,.slice none 0 0,.slice none 0 0,.slice none 0 0,.slice none 0 0,.slice none 0 0,.int .i64 0,.int .i64 0,.float .f64 0,.float .f64 0,.int .i64 0,.int .i64 0,.int .i64 0,.int .i64 0,.int .i64 0,.int .i64 0,.slice none 0 0,.slice none 0 0],.int .i64 0],[]⟩ 8 (by kernel_rfl) (by kernel_rfl) (by kernel_rfl) (by kernel_rfl)) ?_
 intro W base args ds gs before hval0 hW hcnd hsz _
 have hval:∀(j:Nat) t v,Tryz.f7.params[j]?=some t→args[j]?=some v→Value.okWide Tryz.prog W .any base t v:=hval0
 have hW':DataW.Whole enc Tryz.prog Tryz.f7.params.toList Rows.msgsOwnSpec.vars false W args.toList ds gs before:=hW
 obtain⟨p,q,hA0,hV,rfl,hfz,hnd⟩:=hW
 have hA:DataW.TrodAll enc Tryz.prog W 0 (fun _=>true) true Tryz.f7.params.toList args.toList ds p:=hA0
 rw[Tryz.params7]at hA hval
 obtain⟨v0,v1,d0,d1,p0,p1,rfl,rfl,rfl,h0,h1⟩:=trodAll_two hA
 obtain⟨m,h,rfl,ok,cp,i⟩:=open_mg (hval 0 41 v0 rfl rfl) h0 (Szd.top hsz (j:=0) (t:=41) (d:=d0) rfl rfl)
 obtain⟨n,rfl,rfl,rfl,wm⟩:=open_int Tryz.underlying3 (hval 1 3 v1 rfl rfl) h1
 refine(msgsOwn_any m h n W ok i cp).mono fun e W' ⟨he,hb⟩=>?_
 subst he
 exact⟨_,rfl,law_post Tryz.laidOut rfl (by kernel_rfl) Tryz.underlying4 (by rw[Tryz.params7];decide+kernel) rfl hW' hb⟩
theorem proved:Rows.MsgsOwnSaid:=
 OpenClaim.holds_of_wide 7 Tryz.f7 rfl rfl rfl rfl rfl rfl rfl ⟨rfl,rfl,rfl,rfl,rfl⟩ rfl rfl rfl rfl rfl (by kernel_rfl) Tryz.func7 (by kernel_rfl)
  (of_decide_eq_true (by kernel_rfl)) (by unfold Func.isWrapper;rw[if_neg (of_decide_eq_false (by kernel_rfl))];exact⟨rfl,rfl⟩)
  (fun os started H enc _=>lifted os started H enc)
end Go.Proofs.YtcalkfgibflbnaaGreat.msgsOwn
