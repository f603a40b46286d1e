/- Plain law: what the program asks of a record's fields is what the document asks. -/
import Derived.Test.YtcalkfgibflbnaaGreatDadh
import Derived.Test.YtcalkfgibflbnaaGreatDadi
namespace Go.Proofs.YtcalkfgibflbnaaGreat
set_option linter.unusedVariables false
open Go.RowKit Fl
theorem zero_may {s:Sp} (h:s.zero=true):s.may=true:=by
 unfold Sp.zero at h
 simp only[Bool.and_eq_true,beq_iff_eq]at h
 obtain⟨⟨h1,h2⟩,h3⟩:=h
 unfold Sp.may
 rw[h1,h2,h3];rfl
theorem cmp_not_zero {a s:Sp} (ha:a.may=true) (h:a.cmp s<0):s.zero=false:=by
 cases hz:s.zero
 · rfl
 · exfalso
   unfold Sp.zero at hz
   simp only[Bool.and_eq_true,beq_iff_eq]at hz
   obtain⟨⟨h1,h2⟩,h3⟩:=hz
   unfold Sp.may at ha
   simp only[Bool.and_eq_true,decide_eq_true_eq]at ha
   unfold Sp.cmp ordI at h
   rw[h1,h2,h3]at h
   repeat' split at h
   all_goals omega
theorem apply_eq (pv s:Sp) (t:Tx) (l:List Wt):applyB pv s t l=rappliesB pv s t l:=by
 unfold applyB rappliesB
 rw[show (pendE ⟨t,s,[],l⟩==0)=decide (pendE ⟨t,s,[],l⟩=0) from rfl]
 have hp:pendE ⟨t,s,[],l⟩=0↔t.may=true∧s.may=true∧s.zero=false∧riseB []=true∧riseB (l.map (·.key))=true∧allMay l=true:=pendE_zero
 have hr:riseB []=true:=rfl
 have hw:wrsB l=true↔riseB (l.map (·.key))=true∧allMay l=true:=by unfold wrsB;rw[Bool.and_eq_true]
 rw[Bool.eq_iff_iff]
 simp only[Bool.and_eq_true,decide_eq_true_eq]
 rw[hp,hw]
 constructor
 · rintro⟨⟨⟨h1,h2⟩,h3⟩,h4,h5,h6,-,h7,h8⟩
   exact⟨⟨⟨⟨⟨h1,h5⟩,h2⟩,h4⟩,h3⟩,h7,h8⟩
 · rintro⟨⟨⟨⟨⟨h1,h5⟩,h2⟩,h4⟩,h3⟩,h7,h8⟩
   exact⟨⟨⟨h1,h2⟩,h3⟩,h4,h5,cmp_not_zero h1 h2,hr,h7,h8⟩
theorem point_eq {a:Nat} (ha:a<18446744073709551616):((pointE a==0)&&fgt (pointV a) 0&&flt (pointV a) 4607182418800017408)=(fgt a 0&&flt a 4607182418800017408):=by
 have h:=is_is a ha
 cases hp:ptB a
 · by_cases hz:a=9223372036854775808
   · subst hz;exact(by kernel_rfl:((pointE 9223372036854775808==0)&&fgt (pointV 9223372036854775808) 0&&flt (pointV 9223372036854775808) 4607182418800017408)=(fgt 9223372036854775808 0&&flt 9223372036854775808 4607182418800017408))
   · rw[hp]at h
     simp only[Bool.or_eq_false_iff]at h
     have h2:(fgt a 0&&flt a 4607182418800017408)=false:=by
        have:=h.2
        cases h3:fgt a 0
        · rfl
        · rw[h3]at this
          cases h4:flt a 4607182418800017408
          · rfl
          · rw[h4]at this;cases this
     rw[h2,pe_no hp hz];rfl
 · rw[pv_yes hp,pe_yes hp];rfl
theorem fields_good (r:Rc) (ok:r.ok):fieldsB r=goodB r:=by
 unfold fieldsB goodB
 by_cases h1:r.k=1
 · rw[if_pos h1,if_pos h1]
 rw[if_neg h1,if_neg h1]
 by_cases h2:r.k=2
 · rw[if_pos h2,if_pos h2]
 rw[if_neg h2,if_neg h2]
 by_cases h3:r.k=3
 · rw[if_pos h3,if_pos h3]
 rw[if_neg h3,if_neg h3]
 by_cases h4:r.k=4
 · rw[if_pos h4,if_pos h4]
   unfold decB Sp.mom
   cases r.t.may
   · rfl
   · cases r.cm
     · cases hz:r.s.zero
       · cases r.s.may<;>rfl
       · rw[zero_may hz];rfl
     · cases r.s.zero<;>cases r.s.may<;>rfl
 rw[if_neg h4,if_neg h4]
 by_cases h5:r.k=5
 · rw[if_pos h5,if_pos h5]
 rw[if_neg h5,if_neg h5]
 by_cases h6:r.k=6
 · rw[if_pos h6,if_pos h6,point_eq ok.pt]
   unfold rangesB
   simp only[Bool.and_assoc]
 rw[if_neg h6,if_neg h6]
 by_cases h7:r.k=7
 · rw[if_pos h7,if_pos h7];rfl
 rw[if_neg h7,if_neg h7]
 by_cases h8:r.k=8
 · rw[if_pos h8,if_pos h8]
 rw[if_neg h8,if_neg h8]
 by_cases h9:r.k=9
 · rw[if_pos h9,if_pos h9]
   unfold Sp.mom
   rw[←Bool.and_assoc r.t.may]
 rw[if_neg h9,if_neg h9]
 by_cases h10:r.k=10
 · rw[if_pos h10,if_pos h10]
 rw[if_neg h10,if_neg h10]
 by_cases h11:r.k=11
 · rw[if_pos h11,if_pos h11,apply_eq]
 rw[if_neg h11,if_neg h11]
theorem sameL_nil {α:Type} (f:α→α→Bool) (l:List α):sameL f l []=((l.length:Int)==0):=by
 cases l with
 |nil=>rfl
 |cons a l=>show false=_;symm;rw[beq_eq_false_iff_ne];simp only[List.length_cons];omega
theorem sp_zero (s:Sp):decide (s=⟨0,0,0⟩)=s.zero:=by
 obtain⟨a,b,c⟩:=s
 unfold Sp.zero
 rw[Bool.eq_iff_iff]
 simp[and_assoc]
theorem keys_self (l:List ByteArray):sameL (fun x y=>x.toList==y.toList) l l=true:=sameL_self (fun a=>by simp) l
theorem nums_self (l:List Int):sameL (fun x y=>x==y) l l=true:=sameL_self (fun a=>by simp) l
theorem wts_self (l:List Wt):sameL Wt.same l l=true:=sameL_self Wt.same_self l
theorem zeroS_zero:zeroS.zeroB=true:=by kernel_rfl
theorem zeroSp:(⟨0,0,0⟩:Sp).zero=true:=rfl
theorem wipe_own (r:Rc) (hk:kindB r.k=true):(wipe r).zeroB=recSame r (ownR r) (decide (r.k=1)||r.st.zeroB):=by
 unfold kindB at hk
 rw[decide_eq_true_eq]at hk
 have hc:r.k=1∨r.k=2∨r.k=3∨r.k=4∨r.k=5∨r.k=6∨r.k=7∨r.k=8∨r.k=9∨r.k=10∨r.k=11∨r.k=12:=by omega
 rcases hc with e|e|e|e|e|e|e|e|e|e|e|e
 all_goals
  unfold wipe ownR
  simp[e,Rc.zeroB,recSame,sp_zero,keys_self,nums_self,wts_self,sameL_nil,zeroS_zero,zeroSp]
end Go.Proofs.YtcalkfgibflbnaaGreat
