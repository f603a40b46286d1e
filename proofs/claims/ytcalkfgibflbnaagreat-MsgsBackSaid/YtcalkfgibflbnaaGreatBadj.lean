/- Plain law: what the program asks of a record's fields is what the document asks. -/
import Derived.Test.YtcalkfgibflbnaaGreatBach
import Derived.Test.YtcalkfgibflbnaaGreatBadi
namespace Go.Proofs.YtcalkfgibflbnaaGreat
set_option linter.unusedVariables false
open Go.RowKit Fl
theorem WL {s:Sp} (h:s.zero=true):s.may=true:=by
 unfold Sp.zero at h;simp only[Bool.and_eq_true,beq_iff_eq]at h;obtain⟨⟨h1,h2⟩,h3⟩:=h;unfold Sp.may;rw[h1,h2,h3];rfl
theorem ahV {a s:Sp} (ha:a.may=true) (h:a.cmp s<0):s.zero=false:=by
 cases hz:s.zero
 · rfl
 · exfalso;unfold Sp.zero at hz;simp only[Bool.and_eq_true,beq_iff_eq]at hz;obtain⟨⟨h1,h2⟩,h3⟩:=hz;unfold Sp.may at ha;simp only[Bool.and_eq_true,decide_eq_true_eq]at ha;unfold Sp.cmp oP at h;rw[h1,h2,h3]at h
   repeat' split at h
   all_goals omega
theorem WO (pv s:Sp) (t:Tx) (l:List Wt):qp pv s t l=qY pv s t l:=by
 unfold qp qY;rw[show (dw ⟨t,s,[],l⟩==0)=decide (dw ⟨t,s,[],l⟩=0) from rfl];have hp:dw ⟨t,s,[],l⟩=0↔t.may=true/\s.may=true/\s.zero=false/\cu []=true/\cu (l.map (·.key))=true/\lG l=true:=TT;have hr:cu []=true:=rfl;have hw:jY l=true↔cu (l.map (·.key))=true/\lG l=true:=by unfold jY;rw[Bool.and_eq_true]
 rw[Bool.eq_iff_iff];simp only[Bool.and_eq_true,decide_eq_true_eq];rw[hp,hw];constructor
 · rintro⟨⟨⟨h1,h2⟩,h3⟩,h4,h5,h6,-,h7,h8⟩;exact⟨⟨⟨⟨⟨h1,h5⟩,h2⟩,h4⟩,h3⟩,h7,h8⟩
 · rintro⟨⟨⟨⟨⟨h1,h5⟩,h2⟩,h4⟩,h3⟩,h7,h8⟩;exact⟨⟨⟨h1,h2⟩,h3⟩,h4,h5,ahV h1 h2,hr,h7,h8⟩
theorem ahW {a:Nat} (ha:a<18446744073709551616):((uH a==0)&&ku (mV a) 0&&jS (mV a) 4607182418800017408)=(ku a 0&&jS a 4607182418800017408):=by
 have h:=PK a ha;cases hp:lF a
 · by_cases hz:a=9223372036854775808
   · subst hz;exact(by kernel_rfl:((uH 9223372036854775808==0)&&ku (mV 9223372036854775808) 0&&jS (mV 9223372036854775808) 4607182418800017408)=(ku 9223372036854775808 0&&jS 9223372036854775808 4607182418800017408))
   · rw[hp]at h;simp only[Bool.or_eq_false_iff]at h;have h2:(ku a 0&&jS a 4607182418800017408)=false:=by
        have:=h.2;cases h3:ku a 0
        · rfl
        · rw[h3]at this;cases h4:jS a 4607182418800017408
          · rfl
          · rw[h4]at this;cases this
     rw[h2,Ue hp hz];rfl
 · rw[Uc hp,Ud hp];rfl
theorem ahX (r:Rc) (ok:r.ok):fieldsB r=jQ r:=by
 unfold fieldsB jQ;by_cases h1:r.k=1
 · rw[if_pos h1,if_pos h1]
 rw[if_neg h1,if_neg h1];by_cases h2:r.k=2
 · rw[if_pos h2,if_pos h2]
 rw[if_neg h2,if_neg h2];by_cases h3:r.k=3
 · rw[if_pos h3,if_pos h3]
 rw[if_neg h3,if_neg h3];by_cases h4:r.k=4
 · rw[if_pos h4,if_pos h4];unfold zq Sp.uV;cases r.t.may
   · rfl
   · cases r.cm
     · cases hz:r.s.zero
       · cases r.s.may<;>rfl
       · rw[WL hz];rfl
     · cases r.s.zero<;>cases r.s.may<;>rfl
 rw[if_neg h4,if_neg h4];by_cases h5:r.k=5
 · rw[if_pos h5,if_pos h5]
 rw[if_neg h5,if_neg h5];by_cases h6:r.k=6
 · rw[if_pos h6,if_pos h6,ahW ok.pt];unfold rP;simp only[Bool.and_assoc]
 rw[if_neg h6,if_neg h6];by_cases h7:r.k=7
 · rw[if_pos h7,if_pos h7];rfl
 rw[if_neg h7,if_neg h7];by_cases h8:r.k=8
 · rw[if_pos h8,if_pos h8]
 rw[if_neg h8,if_neg h8];by_cases h9:r.k=9
 · rw[if_pos h9,if_pos h9];unfold Sp.uV;rw[<-Bool.and_assoc r.t.may]
 rw[if_neg h9,if_neg h9];by_cases h10:r.k=10
 · rw[if_pos h10,if_pos h10]
 rw[if_neg h10,if_neg h10];by_cases h11:r.k=11
 · rw[if_pos h11,if_pos h11,WO]
 rw[if_neg h11,if_neg h11]
theorem WQ {α:Type} (f:α->α->Bool) (l:List α):aT f l []=((l.length:Int)==0):=by
 cases l with
 |nil=>rfl
 |cons a l=>show false=_;symm;rw[beq_eq_false_iff_ne];simp only[List.length_cons];omega
theorem WR (s:Sp):decide (s=⟨0,0,0⟩)=s.zero:=by
 obtain⟨a,b,c⟩:=s;unfold Sp.zero;rw[Bool.eq_iff_iff];simp[and_assoc]
theorem He (l:List ByteArray):aT (fun x y=>x.toList==y.toList) l l=true:=tX (fun a=>aA) l
theorem JW (l:List Int):aT (fun x y=>x==y) l l=true:=tX (fun a=>aA) l
theorem JX (l:List Wt):aT Wt.same l l=true:=tX Wt.kL l
theorem WT:zeroS.eH=true:=ah
theorem WU:(⟨0,0,0⟩:Sp).zero=true:=rfl
theorem ahY (r:Rc) (hk:gy r.k=true):(wipe r).eH=vT r (iy r) (decide (r.k=1)||r.st.eH):=by
 unfold gy at hk;rw[decide_eq_true_eq]at hk;have hc:r.k=1∨r.k=2∨r.k=3∨r.k=4∨r.k=5∨r.k=6∨r.k=7∨r.k=8∨r.k=9∨r.k=10∨r.k=11∨r.k=12:=byOmega;rcases hc with e|e|e|e|e|e|e|e|e|e|e|e
 all_goals
  unfold wipe iy;simp[e,Rc.eH,vT,WR,He,JW,JX,WQ,WT,WU]
def kR (m:Mg):Bool:=
 if m.k=1 then (m.t.may&&bY m.rg&&decide (0<=m.ep)&&m.s.may&&decide (1<=(m.ks.length:Int))&&cu m.ks) else
 if m.k=2 then (if m.cd=0 then m.t.may&&bY m.rg&&m.s.may&&decide (1<=(m.sn.length:Int))&&iJ m.sn&&((m.rs.length:Int)==0) else m.t.may&&bY m.rg&&m.s.may&&(decide (0<=m.cd)&&decide (m.cd<=25))&&((m.sn.length:Int)==0)&&jI m.rs) else
 if m.k=3 then (m.t.may&&bY m.rg&&decide (0<=m.ep)&&m.s.may&&iJ m.sn&&jY m.ws&&dQ m.ps&&rG m.rg m.ps) else
 if m.k=4 then (m.t.may&&bY m.rg&&m.s.may&&(decide (0<=m.cd)&&decide (m.cd<=25))&&jI m.rs&&(m.cd !=0||((m.rs.length:Int)==0))) else
 if m.k=5 then (m.t.may&&bY m.rg&&m.s.may&&(m.s.zero== !m.cm)) else
 if m.k=6 then (m.t.may&&bY m.rg) else
 if m.k=7 then (m.t.may&&bY m.rg) else
 if m.k=8 then (bY m.rg&&decide (1<=m.n)&&decide (0<=m.mx)&&decide (m.mx<=8)&&m.s.may) else
 if m.k=9 then bY m.rg&&decide (1<=m.n)&&uF m.rc else
 if m.k=10 then (bY m.rg&&dV m.st&&(m.st.r.id==m.rg)) else
 if m.k=11 then bY m.rg else
 if m.k=12 then (qY m.pv m.s m.t m.ws) else
 if m.k=14 then m.s.may else
 true
theorem ahZ:jI []=true:=rfl
theorem WV:∀l:List Wt,lG l=l.all fun a=>a.v.may
 |[]=>rfl
 |a::l=>by show (a.v.may&&lG l)=_;rw[WV l];rfl
theorem ah0 (l:List Wt):um l=jY l:=by
 unfold um jY;rw[Bool.and_comm,WV]
theorem ah1 (t g s f n0:Bool) (cd:Int) (l:List Rg):
 (t&&g&&(lV cd (f&& !n0) l&&s&&(cd==0||n0)))=(if cd=0 then t&&g&&s&& !n0&&f&&((l.length:Int)==0) else t&&g&&s&&(decide (0<=cd)&&decide (cd<=25))&&n0&&jI l):=by
 unfold lV;by_cases h:cd=0
 · rw[if_pos h,if_pos h,h,show decide (l.length=0)=((l.length:Int)==0) by rw[Bool.eq_iff_iff];simp];cases t<;>cases g<;>cases s<;>cases f<;>cases n0<;>simp
 · rw[if_neg h,if_neg h,show (cd==0)=false by simp[h],show decide (0<cd)=decide (0<=cd) by rw[decide_eq_decide];omega];cases t<;>cases g<;>cases s<;>cases n0<;>simp
theorem ah2 (t g s:Bool) (cd:Int) (l:List Rg):
 (t&&g&&(lV cd true l&&s))=(t&&g&&s&&(decide (0<=cd)&&decide (cd<=25))&&jI l&&(cd !=0||((l.length:Int)==0))):=by
 unfold lV;by_cases h:cd=0
 · rw[if_pos h,h,show decide (l.length=0)=((l.length:Int)==0) by rw[Bool.eq_iff_iff];simp];cases l with
   |nil=>rw[ahZ];cases t<;>cases g<;>cases s<;>rfl
   |cons a l=>rw[show (((a::l).length:Int)==0)=false by rw[beq_eq_false_iff_ne];simp only[List.length_cons];omega];cases t<;>cases g<;>cases s<;>simp
 · rw[if_neg h,show (cd !=0)=true by simp[h],show decide (0<cd)=decide (0<=cd) by rw[decide_eq_decide];omega];cases t<;>cases g<;>cases s<;>simp
theorem ah3 (t g cm:Bool) (s:Sp):(t&&g&&(if cm=true then s.may&& !s.zero else s.zero))=(t&&g&&s.may&&(s.zero== !cm)):=by
 cases hz:s.zero
 · cases t<;>cases g<;>cases cm<;>cases s.may<;>rfl
 · rw[WL hz];cases t<;>cases g<;>cases cm<;>rfl
theorem ah4 (m:Mg) (hk:iK m.k=true):xC m=kR m:=by
 unfold iK at hk;rw[decide_eq_true_eq]at hk;have l1:∀n:Nat,decide (0<n)=decide (1<=(n:Int)):=fun n=>by rw[decide_eq_decide];omega
 have hc:m.k=1∨m.k=2∨m.k=3∨m.k=4∨m.k=5∨m.k=6∨m.k=7∨m.k=8∨m.k=9∨m.k=10∨m.k=11∨m.k=12∨m.k=13∨m.k=14:=byOmega;rcases hc with e|e|e|e|e|e|e|e|e|e|e|e|e|e
 all_goals
  unfold xC kR oN;simp only[e]
 · show (_&&_&&(_&&_&&_&&decide (0<m.ks.length)))=(_&&_&&_&&_&&decide (1<=(m.ks.length:Int))&&_);rw[l1];cases m.t.may<;>cases bY m.rg<;>cases decide (0<=m.ep)<;>cases m.s.may<;>cases cu m.ks<;>simp
 · show (_&&_&&(lV m.cd (iJ m.sn&&decide (0<m.sn.length)) m.rs&&_&&(_||decide (m.sn.length=0))))=_;have h:=ah1 m.t.may (bY m.rg) m.s.may (iJ m.sn) ((m.sn.length:Int)==0) m.cd m.rs;rw[show (!((m.sn.length:Int)==0))=decide (1<=(m.sn.length:Int)) by rw[Bool.eq_iff_iff];simp only[Bool.not_eq_true',beq_eq_false_iff_ne,decide_eq_true_eq];omega]at h;rw[l1,show decide (m.sn.length=0)=((m.sn.length:Int)==0) by rw[Bool.eq_iff_iff];simp];exact h
 · rw[ah0];show (_&&_&&(_&&_&&_&&_&&_&&_))=_;simp only[Bool.and_assoc];rfl
 · exact ah2 _ _ _ _ _
 · exact ah3 _ _ _ _
 · show (_&&_&&true)=_;rw[Bool.and_true];rfl
 · show (_&&_&&true)=_;rw[Bool.and_true];rfl
 · rfl
 · rfl
 · rfl
 · rfl
 · exact WO _ _ _ _
 · rfl
 · rfl
