/- Plain law: what the program asks of a record's fields is what the document asks. -/
import Derived.Test.YtcalkfgibflbnaaGreatKaaj
import Derived.Test.YtcalkfgibflbnaaGreatKada
import Derived.Test.YtcalkfgibflbnaaGreatKadc
namespace Go.Proofs.YtcalkfgibflbnaaGreat
set_option linter.unusedVariables false
open Go.RowKit Fl
theorem zero_may {s:Sp} (h:s.zero=true):s.may=true:=by
 unfold Sp.zero at h
 simp only[Bool.and_eq_true,beq_iff_eq]at h
 obtain⟨⟨h1,h2⟩,h3⟩:=h
 unfold Sp.may
 rw[h1,h2,h3];rfl
theorem cmp_not_zero {a s:Sp} (ha:a.may=true) (h:a.cmp s<0):s.zero=false:=by
 cases hz:s.zero
 · rfl
 · exfalso
   unfold Sp.zero at hz
   simp only[Bool.and_eq_true,beq_iff_eq]at hz
   obtain⟨⟨h1,h2⟩,h3⟩:=hz
   unfold Sp.may at ha
   simp only[Bool.and_eq_true,decide_eq_true_eq]at ha
   unfold Sp.cmp ordI at h
   rw[h1,h2,h3]at h
   repeat' split at h
   all_goals omega
theorem apply_eq (pv s:Sp) (t:Tx) (l:List Wt):applyB pv s t l=rappliesB pv s t l:=by
 unfold applyB rappliesB
 rw[show (pendE ⟨t,s,[],l⟩==0)=decide (pendE ⟨t,s,[],l⟩=0) from rfl]
 have hp:pendE ⟨t,s,[],l⟩=0↔t.may=true∧s.may=true∧s.zero=false∧riseB []=true∧riseB (l.map (·.key))=true∧allMay l=true:=pendE_zero
 have hr:riseB []=true:=rfl
 have hw:wrsB l=true↔riseB (l.map (·.key))=true∧allMay l=true:=by unfold wrsB;rw[Bool.and_eq_true]
 rw[Bool.eq_iff_iff]
 simp only[Bool.and_eq_true,decide_eq_true_eq]
 rw[hp,hw]
 constructor
 · rintro⟨⟨⟨h1,h2⟩,h3⟩,h4,h5,h6,-,h7,h8⟩
   exact⟨⟨⟨⟨⟨h1,h5⟩,h2⟩,h4⟩,h3⟩,h7,h8⟩
 · rintro⟨⟨⟨⟨⟨h1,h5⟩,h2⟩,h4⟩,h3⟩,h7,h8⟩
   exact⟨⟨⟨h1,h2⟩,h3⟩,h4,h5,cmp_not_zero h1 h2,hr,h7,h8⟩
theorem point_eq {a:Nat} (ha:a<18446744073709551616):((pointE a==0)&&fgt (pointV a) 0&&flt (pointV a) 4607182418800017408)=(fgt a 0&&flt a 4607182418800017408):=by
 have h:=is_is a ha
 cases hp:ptB a
 · by_cases hz:a=9223372036854775808
   · subst hz;exact(by kernel_rfl:((pointE 9223372036854775808==0)&&fgt (pointV 9223372036854775808) 0&&flt (pointV 9223372036854775808) 4607182418800017408)=(fgt 9223372036854775808 0&&flt 9223372036854775808 4607182418800017408))
   · rw[hp]at h
     simp only[Bool.or_eq_false_iff]at h
     have h2:(fgt a 0&&flt a 4607182418800017408)=false:=by
        have:=h.2
        cases h3:fgt a 0
        · rfl
        · rw[h3]at this
          cases h4:flt a 4607182418800017408
          · rfl
          · rw[h4]at this;cases this
     rw[h2,pe_no hp hz];rfl
 · rw[pv_yes hp,pe_yes hp];rfl
theorem fields_good (r:Rc) (ok:r.ok):fieldsB r=goodB r:=by
 unfold fieldsB goodB
 by_cases h1:r.k=1
 · rw[if_pos h1,if_pos h1]
 rw[if_neg h1,if_neg h1]
 by_cases h2:r.k=2
 · rw[if_pos h2,if_pos h2]
 rw[if_neg h2,if_neg h2]
 by_cases h3:r.k=3
 · rw[if_pos h3,if_pos h3]
 rw[if_neg h3,if_neg h3]
 by_cases h4:r.k=4
 · rw[if_pos h4,if_pos h4]
   unfold decB Sp.mom
   cases r.t.may
   · rfl
   · cases r.cm
     · cases hz:r.s.zero
       · cases r.s.may<;>rfl
       · rw[zero_may hz];rfl
     · cases r.s.zero<;>cases r.s.may<;>rfl
 rw[if_neg h4,if_neg h4]
 by_cases h5:r.k=5
 · rw[if_pos h5,if_pos h5]
 rw[if_neg h5,if_neg h5]
 by_cases h6:r.k=6
 · rw[if_pos h6,if_pos h6,point_eq ok.pt]
   unfold rangesB
   simp only[Bool.and_assoc]
 rw[if_neg h6,if_neg h6]
 by_cases h7:r.k=7
 · rw[if_pos h7,if_pos h7];rfl
 rw[if_neg h7,if_neg h7]
 by_cases h8:r.k=8
 · rw[if_pos h8,if_pos h8]
 rw[if_neg h8,if_neg h8]
 by_cases h9:r.k=9
 · rw[if_pos h9,if_pos h9]
   unfold Sp.mom
   rw[←Bool.and_assoc r.t.may]
 rw[if_neg h9,if_neg h9]
 by_cases h10:r.k=10
 · rw[if_pos h10,if_pos h10]
 rw[if_neg h10,if_neg h10]
 by_cases h11:r.k=11
 · rw[if_pos h11,if_pos h11,apply_eq]
 rw[if_neg h11,if_neg h11]
end Go.Proofs.YtcalkfgibflbnaaGreat
/- Plain law: what the program asks of a message's fields is what the document asks. -/
namespace Go.Proofs.YtcalkfgibflbnaaGreat
set_option linter.unusedVariables false
open Go.RowKit Fl
def goodM (m:Mg):Bool:=
 if m.k=1 then (m.t.may&&rgI m.rg&&decide (0≤m.ep)&&m.s.may&&decide (1≤(m.ks.length:Int))&&riseB m.ks) else
 if m.k=2 then (if m.cd=0 then m.t.may&&rgI m.rg&&m.s.may&&decide (1≤(m.sn.length:Int))&&seenB m.sn&&((m.rs.length:Int)==0) else m.t.may&&rgI m.rg&&m.s.may&&(decide (0≤m.cd)&&decide (m.cd≤25))&&((m.sn.length:Int)==0)&&covB m.rs) else
 if m.k=3 then (m.t.may&&rgI m.rg&&decide (0≤m.ep)&&m.s.may&&seenB m.sn&&wrsB m.ws&&partsB m.ps&&hasN m.rg m.ps) else
 if m.k=4 then (m.t.may&&rgI m.rg&&m.s.may&&(decide (0≤m.cd)&&decide (m.cd≤25))&&covB m.rs&&(m.cd !=0||((m.rs.length:Int)==0))) else
 if m.k=5 then (m.t.may&&rgI m.rg&&m.s.may&&(m.s.zero== !m.cm)) else
 if m.k=6 then (m.t.may&&rgI m.rg) else
 if m.k=7 then (m.t.may&&rgI m.rg) else
 if m.k=8 then (rgI m.rg&&decide (1≤m.n)&&decide (0≤m.mx)&&decide (m.mx≤8)&&m.s.may) else
 if m.k=9 then rgI m.rg&&decide (1≤m.n)&&batchB m.rc else
 if m.k=10 then (rgI m.rg&&mayS m.st&&(m.st.r.id==m.rg)) else
 if m.k=11 then rgI m.rg else
 if m.k=12 then (rappliesB m.pv m.s m.t m.ws) else
 if m.k=14 then m.s.may else
 true
theorem cov_nil:covB []=true:=rfl
theorem allMay_all:∀l:List Wt,allMay l=l.all fun a=>a.v.may
 |[]=>rfl
 |a::l=>by show (a.v.may&&allMay l)=_;rw[allMay_all l];rfl
theorem wrt_wrs (l:List Wt):wrtB l=wrsB l:=by
 unfold wrtB wrsB
 rw[Bool.and_comm,allMay_all]
theorem fine_2 (t g s f n0:Bool) (cd:Int) (l:List Rg):
 (t&&g&&(codeB cd (f&& !n0) l&&s&&(cd==0||n0)))=(if cd=0 then t&&g&&s&& !n0&&f&&((l.length:Int)==0) else t&&g&&s&&(decide (0≤cd)&&decide (cd≤25))&&n0&&covB l):=by
 unfold codeB
 by_cases h:cd=0
 · rw[if_pos h,if_pos h,h,show decide (l.length=0)=((l.length:Int)==0) by rw[Bool.eq_iff_iff];simp]
   cases t<;>cases g<;>cases s<;>cases f<;>cases n0<;>simp
 · rw[if_neg h,if_neg h,show (cd==0)=false by simp[h],show decide (0<cd)=decide (0≤cd) by rw[decide_eq_decide];omega]
   cases t<;>cases g<;>cases s<;>cases n0<;>simp
theorem fine_4 (t g s:Bool) (cd:Int) (l:List Rg):
 (t&&g&&(codeB cd true l&&s))=(t&&g&&s&&(decide (0≤cd)&&decide (cd≤25))&&covB l&&(cd !=0||((l.length:Int)==0))):=by
 unfold codeB
 by_cases h:cd=0
 · rw[if_pos h,h,show decide (l.length=0)=((l.length:Int)==0) by rw[Bool.eq_iff_iff];simp]
   cases l with
   |nil=>rw[cov_nil];cases t<;>cases g<;>cases s<;>rfl
   |cons a l=>rw[show (((a::l).length:Int)==0)=false by rw[beq_eq_false_iff_ne];simp only[List.length_cons];omega];cases t<;>cases g<;>cases s<;>simp
 · rw[if_neg h,show (cd !=0)=true by simp[h],show decide (0<cd)=decide (0≤cd) by rw[decide_eq_decide];omega]
   cases t<;>cases g<;>cases s<;>simp
theorem fine_5 (t g cm:Bool) (s:Sp):(t&&g&&(if cm=true then s.may&& !s.zero else s.zero))=(t&&g&&s.may&&(s.zero== !cm)):=by
 cases hz:s.zero
 · cases t<;>cases g<;>cases cm<;>cases s.may<;>rfl
 · rw[zero_may hz]
   cases t<;>cases g<;>cases cm<;>rfl
theorem fields_goodM (m:Mg) (hk:kindM m.k=true):fieldsM m=goodM m:=by
 unfold kindM at hk
 rw[decide_eq_true_eq]at hk
 have l1:∀n:Nat,decide (0<n)=decide (1≤(n:Int)):=fun n=>by rw[decide_eq_decide];omega
 have hc:m.k=1∨m.k=2∨m.k=3∨m.k=4∨m.k=5∨m.k=6∨m.k=7∨m.k=8∨m.k=9∨m.k=10∨m.k=11∨m.k=12∨m.k=13∨m.k=14:=by omega
 rcases hc with e|e|e|e|e|e|e|e|e|e|e|e|e|e
 all_goals
  unfold fieldsM goodM dealtX
  simp only[e]
 · show (_&&_&&(_&&_&&_&&decide (0<m.ks.length)))=(_&&_&&_&&_&&decide (1≤(m.ks.length:Int))&&_)
   rw[l1]
   cases m.t.may<;>cases rgI m.rg<;>cases decide (0≤m.ep)<;>cases m.s.may<;>cases riseB m.ks<;>simp
 · show (_&&_&&(codeB m.cd (seenB m.sn&&decide (0<m.sn.length)) m.rs&&_&&(_||decide (m.sn.length=0))))=_
   have h:=fine_2 m.t.may (rgI m.rg) m.s.may (seenB m.sn) ((m.sn.length:Int)==0) m.cd m.rs
   rw[show (!((m.sn.length:Int)==0))=decide (1≤(m.sn.length:Int)) by rw[Bool.eq_iff_iff];simp only[Bool.not_eq_true',beq_eq_false_iff_ne,decide_eq_true_eq];omega]at h
   rw[l1,show decide (m.sn.length=0)=((m.sn.length:Int)==0) by rw[Bool.eq_iff_iff];simp]
   exact h
 · rw[wrt_wrs]
   show (_&&_&&(_&&_&&_&&_&&_&&_))=_
   simp only[Bool.and_assoc]
   rfl
 · exact fine_4 _ _ _ _ _
 · exact fine_5 _ _ _ _
 · show (_&&_&&true)=_
   rw[Bool.and_true];rfl
 · show (_&&_&&true)=_
   rw[Bool.and_true];rfl
 · rfl
 · rfl
 · rfl
 · rfl
 · exact apply_eq _ _ _ _
 · rfl
 · rfl
end Go.Proofs.YtcalkfgibflbnaaGreat
/- Plain law: a record without the fields that its kind names is nothing just if it is alike to itself with these alone. -/
namespace Go.Proofs.YtcalkfgibflbnaaGreat
set_option linter.unusedVariables false
open Go.RowKit Fl
theorem sameL_nil {α:Type} (f:α→α→Bool) (l:List α):sameL f l []=((l.length:Int)==0):=by
 cases l with
 |nil=>rfl
 |cons a l=>show false=_;symm;rw[beq_eq_false_iff_ne];simp only[List.length_cons];omega
theorem sp_zero (s:Sp):decide (s=⟨0,0,0⟩)=s.zero:=by
 obtain⟨a,b,c⟩:=s
 unfold Sp.zero
 rw[Bool.eq_iff_iff]
 simp[and_assoc]
theorem keys_self (l:List ByteArray):sameL (fun x y=>x.toList==y.toList) l l=true:=sameL_self (fun a=>by simp) l
theorem nums_self (l:List Int):sameL (fun x y=>x==y) l l=true:=sameL_self (fun a=>by simp) l
theorem wts_self (l:List Wt):sameL Wt.same l l=true:=sameL_self Wt.same_self l
theorem zeroS_zero:zeroS.zeroB=true:=by kernel_rfl
theorem zeroSp:(⟨0,0,0⟩:Sp).zero=true:=rfl
theorem wipe_own (r:Rc) (hk:kindB r.k=true):(wipe r).zeroB=recSame r (ownR r) (decide (r.k=1)||r.st.zeroB):=by
 unfold kindB at hk
 rw[decide_eq_true_eq]at hk
 have hc:r.k=1∨r.k=2∨r.k=3∨r.k=4∨r.k=5∨r.k=6∨r.k=7∨r.k=8∨r.k=9∨r.k=10∨r.k=11∨r.k=12:=by omega
 rcases hc with e|e|e|e|e|e|e|e|e|e|e|e
 all_goals
  unfold wipe ownR
  simp[e,Rc.zeroB,recSame,sp_zero,keys_self,nums_self,wts_self,sameL_nil,zeroS_zero,zeroSp]
end Go.Proofs.YtcalkfgibflbnaaGreat
/- Plain: a record with a field too many, or one that may not be, is none. -/
namespace Go.Proofs.YtcalkfgibflbnaaGreat
set_option linter.unusedVariables false
open Go.RowKit Fl
theorem key_nil:keyB ⟨#[]⟩=false:=by decide
theorem rise_bad:∀(l:List ByteArray) (q:Option ByteArray),riseFrom q (l++[⟨#[]⟩])=false:=by
 intro l
 induction l with
 |nil=>intro q;show (keyB _&&_&&_)=false;rw[key_nil];rfl
 |cons a l ih=>intro q;show (_&&riseFrom (some a) (l++[⟨#[]⟩]))=false;rw[ih,Bool.and_false]
theorem riseB_bad (l:List ByteArray):riseB (l++[⟨#[]⟩])=false:=by unfold riseB;rw[rise_bad];rfl
theorem nums_bad:∀(l:List Int) (q:Option Int),numsFrom q (l++[0])=false:=by
 intro l
 induction l with
 |nil=>intro q;show (_&&_&&_&&_)=false;rw[show decide (1≤(0:Int))=false from rfl];rfl
 |cons a l ih=>intro q;show (_&&numsFrom (some a) (l++[0]))=false;rw[ih,Bool.and_false]
theorem partsB_bad (l:List Int):partsB (l++[0])=false:=by unfold partsB;rw[nums_bad];rfl
theorem tx_bad (c l:Int):(⟨c,l,-1⟩:Tx).may=false:=by unfold Tx.may;simp
theorem sp_badN (c l:Int):(⟨c,l,-1⟩:Sp).may=false:=by unfold Sp.may;simp
theorem sp_badW (l n:Int):(⟨-1,l,n⟩:Sp).may=false:=by unfold Sp.may;simp
theorem sp_zeroN (c l:Int):(⟨c,l,-1⟩:Sp).zero=false:=by unfold Sp.zero;simp
theorem sp_zeroW (l n:Int):(⟨-1,l,n⟩:Sp).zero=false:=by unfold Sp.zero;simp
theorem pend_bad {p:Pn} (h:p.t.may=false∨p.s.may=false∨riseB p.r=false∨riseB (p.w.map (·.key))=false):(pendE p==0)=false:=by
 rw[beq_eq_false_iff_ne]
 intro e
 obtain⟨h1,h2,h3,h4,h5,h6⟩:=pendE_zero.1 e
 rcases h with h|h|h|h
 · rw[h1]at h;cases h
 · rw[h2]at h;cases h
 · rw[h4]at h;cases h
 · rw[h5]at h;cases h
end Go.Proofs.YtcalkfgibflbnaaGreat
