/- MsgsBack: for any message, any number and any byte the law returns true: of the document's bytes of a message Decode tells that message; cut off, longer or turned, none or another. No condition. -/
import Derived.Test.YtcalkfgibflbnaaGreatBafe
namespace Go.Proofs.YtcalkfgibflbnaaGreat.msgsBack
open Go.ChangeShapes Go.WideShapes Go.ChangeAt Go.RowKit
set_option linter.unusedVariables false
set_option maxRecDepth 100000 in
theorem lifted (os:Os) (started:os.Started) (H:Type) (enc:TypeId×Value->H):
 ReturnsInHanded {} Tryz.checked os 6 .any (Rows.msgsBackSpec.pre6 enc Tryz.prog Tryz.f6 Rows.msgsBackRow.domain false) (Rows.msgsBackSpec.post enc Tryz.prog Tryz.f6 false true false false):=by
 refine returnsInHanded_of_change_sized (C:=Tryz.checked) Tryz.own started ah Tryz.func6
  (ChangeSpec.witness6 (enc:=enc) (C:=Tryz.checked) false ⟨#[],#[.agg #[.int .i64 0,.int .i64 0,.int .i64 0,.int .i64 0,.int .i64 0,.int .i64 0,.int .i64 0,.int .i64 0,.int .i64 0,.int .i64 0,.int .i64 0,.int .i64 0,.int .i64 0,.int .i64 0,.int .i64 0,.bool false,.int .i64 0,.int .i64 0,.slice none 0 0,.slice none 0 0,.slice none 0 0,.slice none 0 0,.slice none 0 0,.slice none 0 0,.int .i64 0,.int .i64 0,.float .f64 0,.float .f64 0,.int .i64 0,.int .i64 0,.int .i64 0,.int .i64 0,.int .i64 0,.int .i64 0,.slice none 0 0,.slice none 0 0],.int .i64 0,.int .u8 0],[]⟩ 8 ah ah ah ah) ?_
 intro W base args ds gs before hval0 hW hcnd hsz _;have hval:∀(j:Nat) t v,Tryz.f6.params[j]?=some t->args[j]?=some v->Value.okWide Tryz.prog W .any base t v:=hval0;have hW':DataW.Whole enc Tryz.prog Tryz.f6.params.toList Rows.msgsBackSpec.vars false W args.toList ds gs before:=hW;obtain⟨p,q,hA0,hV,rfl,hfz,hnd⟩:=hW;have hA:DataW.TrodAll enc Tryz.prog W 0 (fun _=>true) true Tryz.f6.params.toList args.toList ds p:=hA0;rw[Tryz.params6]at hA hval;obtain⟨v0,v1,v2,d0,d1,d2,p0,p1,p2,rfl,rfl,rfl,h0,h1,h2⟩:=trodAll_three hA;obtain⟨m,h,rfl,ok,cp,i⟩:=acF (hval 0 41 v0 rfl rfl) h0 (vK.top hsz (j:=0) (t:=41) (d:=d0) rfl rfl);obtain⟨n,rfl,rfl,rfl,wm⟩:=open_int Tryz.underlying3 (hval 1 3 v1 rfl rfl) h1;obtain⟨x,rfl,rfl,rfl,wx⟩:=open_int Tryz.underlying5 (hval 2 5 v2 rfl rfl) h2;obtain⟨b,rfl⟩:=ai6 wx;refine(ai8 m h n b W ok i cp (ajc wm)).mono fun e W' ⟨he,hb⟩=>?_
 subst he;exact⟨_,rfl,Xx Tryz.laidOut rfl ah Tryz.underlying4 (by rw[Tryz.params6];decide+kernel) rfl hW' hb⟩
theorem proved:Rows.MsgsBackSaid:=
 OpenClaim.holds_of_wide 6 Tryz.f6 rfl rfl rfl rfl rfl rfl rfl ⟨rfl,rfl,rfl,rfl,rfl⟩ rfl rfl rfl rfl rfl ah Tryz.func6 ah
  (of_decide_eq_true ah) (by unfold Func.isWrapper;rw[if_neg (of_decide_eq_false ah)];exact⟨rfl,rfl⟩)
  (fun os started H enc _=>lifted os started H enc)
end Go.Proofs.YtcalkfgibflbnaaGreat.msgsBack
