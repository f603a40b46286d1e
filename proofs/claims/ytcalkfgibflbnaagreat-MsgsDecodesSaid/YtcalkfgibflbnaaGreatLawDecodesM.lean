/- MsgsDecodes: for any bytes the law returns true: what Decode tells of them may be, and its bytes, by the document, are these; else it tells nothing, and ErrForm. No condition. -/
import Derived.Test.YtcalkfgibflbnaaGreatDafe
namespace Go.Proofs.YtcalkfgibflbnaaGreat.msgsDecodes
open Go.ChangeShapes Go.WideShapes Go.ChangeAt Go.RowKit
set_option linter.unusedVariables false
set_option maxRecDepth 100000 in
theorem lifted (os:Os) (started:os.Started) (H:Type) (enc:TypeId×Value→H):
 ReturnsInHanded {} Tryz.checked os 5 .any (Rows.msgsDecodesSpec.pre6 enc Tryz.prog Tryz.f5 Rows.msgsDecodesRow.domain false) (Rows.msgsDecodesSpec.post enc Tryz.prog Tryz.f5 false true false false):=by
 refine returnsInHanded_of_change (C:=Tryz.checked) Tryz.own started (by kernel_rfl) Tryz.func5
  (ChangeSpec.witness6 (enc:=enc) (C:=Tryz.checked) false ⟨#[],#[.slice none 0 0],[]⟩ 8 (by kernel_rfl) (by kernel_rfl) (by kernel_rfl) (by kernel_rfl)) ?_
 intro W base args ds gs before hval0 hW hcnd _
 have hval:∀(j:Nat) t v,Tryz.f5.params[j]?=some t→args[j]?=some v→Value.okWide Tryz.prog W .any base t v:=hval0
 have hW':DataW.Whole enc Tryz.prog Tryz.f5.params.toList Rows.msgsDecodesSpec.vars false W args.toList ds gs before:=hW
 obtain⟨p,q,hA0,hV,rfl,hfz,hnd⟩:=hW
 have hA:DataW.TrodAll enc Tryz.prog W 0 (fun _=>true) true Tryz.f5.params.toList args.toList ds p:=hA0
 rw[Tryz.params5]at hA hval
 obtain⟨v0,d0,rfl,rfl,h0⟩:=trodAll_one hA
 obtain⟨A,n,c,b,rfl,hn,hnc,hnm,hr⟩:=open_bytes (hval 0 49 v0 rfl rfl) h0
 refine(mdecodes_any A n c b W hr hnc hnm).mono fun e W' ⟨he,hb⟩=>?_
 subst he
 exact⟨_,rfl,law_post Tryz.laidOut rfl (by kernel_rfl) Tryz.underlying4 (by rw[Tryz.params5];decide+kernel) rfl hW' hb⟩
theorem proved:Rows.MsgsDecodesSaid:=
 OpenClaim.holds_of_wide 5 Tryz.f5 rfl rfl rfl rfl rfl rfl rfl ⟨rfl,rfl,rfl,rfl,rfl⟩ rfl rfl rfl rfl rfl (by kernel_rfl) Tryz.func5 (by kernel_rfl)
  (of_decide_eq_true (by kernel_rfl)) (by unfold Func.isWrapper;rw[if_neg (of_decide_eq_false (by kernel_rfl))];exact⟨rfl,rfl⟩)
  (fun os started H enc _=>lifted os started H enc)
end Go.Proofs.YtcalkfgibflbnaaGreat.msgsDecodes
