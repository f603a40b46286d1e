/- Plain: of the bytes of a record that may be the reading tells that record. -/
import Derived.Test.YthdmanadhbpogaaGreatDabh
import Derived.Test.YthdmanadhbpogaaGreatDacd
namespace Go.Proofs.YthdmanadhbpogaaGreat
set_option linter.unusedVariables false
open Go.RowKit Fl
structure RcOk (r:Rc):Prop where
 ok:r.ok
 rd:r.rd.length≤1000000
 wr:r.wr.length≤1000000∧∀a∈r.wr,a.ok
 ps:r.ps.length≤1000000∧∀a∈r.ps,i64ok a
 pr:r.pr.length≤1000000∧∀a∈r.pr,a.ok
 st:SttOk r.st
theorem Sl.mem_rel {α:Type} {R:Rel α} {size:Nat} {w:World} {B n:Nat} {A:Option Addr} {l:List α} (h:Sl R size w B A n l) {a:α} (ha:a∈l):∃cs,R w B cs a:=by
 obtain⟨i,hi,rfl⟩:=List.mem_iff_getElem.1 ha
 obtain⟨ad,cs,_,_,_,_,hr⟩:=h.2 i l[i] (List.getElem?_eq_getElem hi)
 exact⟨cs,hr⟩
theorem sttOk_of {w:World} {s:Stt} {B n1 n2:Nat} {A1 A2:Option Addr} (o1:s.r.ok) (o2:s.f.ok) (o3:s.c.ok) (h1:SmallH s.h) (h2:SmallP s.p) (i1:Sl HsRel 2 w B A1 n1 s.h) (i2:Sl PnRel 8 w B A2 n2 s.p):SttOk s:=
 ⟨o1,o2,o3,h1,h2,fun h hh=>by
  obtain⟨cs,v,_,_,A,n,c,_,_,_,hs⟩:=i1.mem_rel hh
  exact Sl.all_ok hs,fun p hp=>by
  obtain⟨cs,u,v,_,a1,a2,_,A,n,c,_,_,_,hs⟩:=i2.mem_rel hp
  exact⟨a1,a2,Sl.all_ok hs⟩⟩
theorem rcOk_of {w:World} {r:Rc} {h:Hds} (ok:r.ok) (i:RcIn w r h) (sm:RcSm r h):RcOk r:=
 ⟨ok,by rw[i.rd.1];exact sm.a,⟨by rw[i.wr.1];exact sm.b,Sl.all_ok i.wr⟩,⟨by rw[i.ps.1];exact sm.c,Sl.all_ok i.ps⟩,⟨by rw[i.pr.1];exact sm.d,Sl.all_ok i.pr⟩,sttOk_of ok.rg ok.fl ok.cl sm.h sm.p i.hs i.pn⟩
theorem spz {s:Sp} (h:s.zero=true):s=zSp:=by
 unfold Sp.zero at h
 simp only[Bool.and_eq_true,beq_iff_eq]at h
 obtain⟨a,b,c⟩:=s
 obtain⟨⟨rfl,rfl⟩,rfl⟩:=h
 rfl
theorem lz {α:Type} {l:List α} (h:((l.length:Int)==0)=true):l=[]:=by
 have:(l.length:Int)=0:=by simpa using h
 exact List.length_eq_zero_iff.1 (by omega)
theorem stz {s:Stt} (h:s.zeroB=true):s=zSt:=by
 unfold Stt.zeroB at h
 simp only[Bool.and_eq_true,beq_iff_eq]at h
 obtain⟨⟨a,b,c,d⟩,f,q,hs,ps⟩:=s
 obtain⟨⟨⟨⟨⟨⟨⟨h1,h2⟩,h3⟩,h4⟩,h5⟩,h6⟩,h7⟩,h8⟩:=h
 simp only at h1 h2 h3 h4 h5 h6 h7 h8
 obtain rfl:=spz h5
 obtain rfl:=spz h6
 obtain rfl:=lz (l:=hs) (by simpa using h7)
 obtain rfl:=lz (l:=ps) (by simpa using h8)
 have h3':c=0:=by omega
 have h4':d=0:=by omega
 subst h1 h2 h3' h4'
 rfl
theorem ptz {n:Nat} (h:((n:Int)==0)=true):n=0:=by
 have:(n:Int)=0:=by simpa using h
 omega
theorem le_tr {n:Nat} (h:n≤1000000):n≤1000000000000:=by omega
theorem zeroB_eq {r:Rc} (h:r.zeroB=true):r.t=zTx∧r.s=zSp∧r.pv=zSp∧r.cm=false∧r.n=0∧r.pt=0∧r.rd=[]∧r.wr=[]∧r.ps=[]∧r.pr=[]∧r.st=zSt:=by
 unfold Rc.zeroB at h
 simp only[Bool.and_eq_true,decide_eq_true_eq,Bool.not_eq_true']at h
 obtain⟨⟨⟨⟨⟨⟨⟨⟨⟨⟨h1,h2⟩,h3⟩,h4⟩,h5⟩,h6⟩,h7⟩,h8⟩,h9⟩,h10⟩,h11⟩:=h
 exact⟨h1,spz h2,spz h3,h4,by simpa using h5,ptz h6,lz h7,lz h8,lz h9,lz h10,stz h11⟩
theorem rcBack_1 (t:Tx) (s pv:Sp) (cm:Bool) (n:Int) (pt:Nat) (rd:List ByteArray) (wr:List Wt) (ps:List Int) (pr:List Wt) (st:Stt) (hz:(wipe ⟨1,t,s,pv,cm,n,pt,rd,wr,ps,pr,st⟩).zeroB=true) (hf:fieldsB ⟨1,t,s,pv,cm,n,pt,rd,wr,ps,pr,st⟩=true) (ok:RcOk ⟨1,t,s,pv,cm,n,pt,rd,wr,ps,pr,st⟩) (pre x:List UInt8):
 rBody 1 (pre++(encBody ⟨1,t,s,pv,cm,n,pt,rd,wr,ps,pr,st⟩++x)) ⟨pre.length,0,0⟩=(⟨1,t,s,pv,cm,n,pt,rd,wr,ps,pr,st⟩,⟨pre.length+(encBody ⟨1,t,s,pv,cm,n,pt,rd,wr,ps,pr,st⟩).length,0,0⟩):=by
 obtain⟨q1,q2,q3,q4,q5,q6,q7,q8,q9,q10,q11⟩:=zeroB_eq hz
 have zt:t=zTx:=q1
 have zs:s=zSp:=q2
 have zpv:pv=zSp:=q3
 have zcm:cm=false:=q4
 have zn:n=0:=q5
 have zpt:pt=0:=q6
 have zrd:rd=[]:=q7
 have zwr:wr=[]:=q8
 have zps:ps=[]:=q9
 have zpr:pr=[]:=q10
 clear q1 q2 q3 q4 q5 q6 q7 q8 q9 q10 q11 hz
 subst zt zs zpv zcm zn zpt zrd zwr zps zpr
 have hf':mayS st=true:=hf
 have b0:Back rSt (encSt) SttG:=rSt_back
 have he:encBody ⟨1,zTx,zSp,zSp,false,0,0,[],[],[],[],st⟩=(encSt) st:=by unfold encBody;simp
 have e:=b0 st pre x (stt_good hf' ok.st)
 rw[←he]at e
 rw[rBody_1]
 rw[e]
theorem rcBack_2 (t:Tx) (s pv:Sp) (cm:Bool) (n:Int) (pt:Nat) (rd:List ByteArray) (wr:List Wt) (ps:List Int) (pr:List Wt) (st:Stt) (hz:(wipe ⟨2,t,s,pv,cm,n,pt,rd,wr,ps,pr,st⟩).zeroB=true) (hf:fieldsB ⟨2,t,s,pv,cm,n,pt,rd,wr,ps,pr,st⟩=true) (ok:RcOk ⟨2,t,s,pv,cm,n,pt,rd,wr,ps,pr,st⟩) (pre x:List UInt8):
 rBody 2 (pre++(encBody ⟨2,t,s,pv,cm,n,pt,rd,wr,ps,pr,st⟩++x)) ⟨pre.length,0,0⟩=(⟨2,t,s,pv,cm,n,pt,rd,wr,ps,pr,st⟩,⟨pre.length+(encBody ⟨2,t,s,pv,cm,n,pt,rd,wr,ps,pr,st⟩).length,0,0⟩):=by
 obtain⟨q1,q2,q3,q4,q5,q6,q7,q8,q9,q10,q11⟩:=zeroB_eq hz
 have zt:t=zTx:=q1
 have zs:s=zSp:=q2
 have zpv:pv=zSp:=q3
 have zcm:cm=false:=q4
 have zpt:pt=0:=q6
 have zrd:rd=[]:=q7
 have zwr:wr=[]:=q8
 have zps:ps=[]:=q9
 have zpr:pr=[]:=q10
 have zst:st=zSt:=q11
 clear q1 q2 q3 q4 q5 q6 q7 q8 q9 q10 q11 hz
 subst zt zs zpv zcm zpt zrd zwr zps zpr zst
 have b0:Back rInt (encI) i64ok:=rInt_back
 have he:encBody ⟨2,zTx,zSp,zSp,false,n,0,[],[],[],[],zSt⟩=(encI) n:=by unfold encBody;simp
 have e:=b0 n pre x ok.ok.n
 rw[←he]at e
 rw[rBody_2]
 rw[e]
theorem rcBack_3 (t:Tx) (s pv:Sp) (cm:Bool) (n:Int) (pt:Nat) (rd:List ByteArray) (wr:List Wt) (ps:List Int) (pr:List Wt) (st:Stt) (hz:(wipe ⟨3,t,s,pv,cm,n,pt,rd,wr,ps,pr,st⟩).zeroB=true) (hf:fieldsB ⟨3,t,s,pv,cm,n,pt,rd,wr,ps,pr,st⟩=true) (ok:RcOk ⟨3,t,s,pv,cm,n,pt,rd,wr,ps,pr,st⟩) (pre x:List UInt8):
 rBody 3 (pre++(encBody ⟨3,t,s,pv,cm,n,pt,rd,wr,ps,pr,st⟩++x)) ⟨pre.length,0,0⟩=(⟨3,t,s,pv,cm,n,pt,rd,wr,ps,pr,st⟩,⟨pre.length+(encBody ⟨3,t,s,pv,cm,n,pt,rd,wr,ps,pr,st⟩).length,0,0⟩):=by
 obtain⟨q1,q2,q3,q4,q5,q6,q7,q8,q9,q10,q11⟩:=zeroB_eq hz
 have zpv:pv=zSp:=q3
 have zcm:cm=false:=q4
 have zn:n=0:=q5
 have zpt:pt=0:=q6
 have zpr:pr=[]:=q10
 have zst:st=zSt:=q11
 clear q1 q2 q3 q4 q5 q6 q7 q8 q9 q10 q11 hz
 subst zpv zcm zn zpt zpr zst
 have hf':((pendE ⟨t,s,rd,wr⟩==0)&&partsB ps)=true:=hf
 simp only[Bool.and_eq_true,beq_iff_eq]at hf'
 obtain⟨a1,a2⟩:=pend_good hf'.1
 have b0:Back rPn (encPn) PnG:=rPn_back
 have b1:Back (rTwo rPn (rLs rInt) Prod.mk) (fun a:(Pn)×(List Int)=>(encPn) a.1++encLs encI a.2) (fun a:(Pn)×(List Int)=>(PnG) a.1∧(LsG i64ok) a.2):=b0.two (rLs_back rInt_back encI_pos) (fun _ _=>rfl) fun c h=>⟨c.1,c.2,rfl,h.1,h.2⟩
 have he:encBody ⟨3,t,s,zSp,false,0,0,rd,wr,ps,[],zSt⟩=(fun a:(Pn)×(List Int)=>(encPn) a.1++encLs encI a.2) (⟨t,s,rd,wr⟩,ps):=by unfold encBody;simp
 have e:=b1 (⟨t,s,rd,wr⟩,ps) pre x ⟨⟨ok.ok.t,ok.ok.s,⟨le_tr ok.rd,a1⟩,⟨le_tr ok.wr.1,fun a ha=>⟨(a2 a ha).1,(ok.wr.2 a ha).2,(a2 a ha).2⟩⟩⟩,⟨le_tr ok.ps.1,ok.ps.2⟩⟩
 rw[←he]at e
 rw[rBody_3]
 simp only[rTwo,Prod.mk.injEq]at e
 obtain⟨⟨e1,e2⟩,e0⟩:=e
 simp only[e1,e2,e0]
theorem rcBack_4 (t:Tx) (s pv:Sp) (cm:Bool) (n:Int) (pt:Nat) (rd:List ByteArray) (wr:List Wt) (ps:List Int) (pr:List Wt) (st:Stt) (hz:(wipe ⟨4,t,s,pv,cm,n,pt,rd,wr,ps,pr,st⟩).zeroB=true) (hf:fieldsB ⟨4,t,s,pv,cm,n,pt,rd,wr,ps,pr,st⟩=true) (ok:RcOk ⟨4,t,s,pv,cm,n,pt,rd,wr,ps,pr,st⟩) (pre x:List UInt8):
 rBody 4 (pre++(encBody ⟨4,t,s,pv,cm,n,pt,rd,wr,ps,pr,st⟩++x)) ⟨pre.length,0,0⟩=(⟨4,t,s,pv,cm,n,pt,rd,wr,ps,pr,st⟩,⟨pre.length+(encBody ⟨4,t,s,pv,cm,n,pt,rd,wr,ps,pr,st⟩).length,0,0⟩):=by
 obtain⟨q1,q2,q3,q4,q5,q6,q7,q8,q9,q10,q11⟩:=zeroB_eq hz
 have zpv:pv=zSp:=q3
 have zn:n=0:=q5
 have zpt:pt=0:=q6
 have zrd:rd=[]:=q7
 have zwr:wr=[]:=q8
 have zps:ps=[]:=q9
 have zpr:pr=[]:=q10
 have zst:st=zSt:=q11
 clear q1 q2 q3 q4 q5 q6 q7 q8 q9 q10 q11 hz
 subst zpv zn zpt zrd zwr zps zpr zst
 have b0:Back rTx (encTx) Tx.ok:=rTx_back
 have b1:Back (rTwo rTx rFlag Prod.mk) (fun a:(Tx)×(Bool)=>(encTx) a.1++encB a.2) (fun a:(Tx)×(Bool)=>(Tx.ok) a.1∧((fun _:Bool=>True)) a.2):=b0.two rFlag_back (fun _ _=>rfl) fun c h=>⟨c.1,c.2,rfl,h.1,h.2⟩
 have b2:Back (rTwo (rTwo rTx rFlag Prod.mk) rSp Prod.mk) (fun a:((Tx)×(Bool))×(Sp)=>(fun a:(Tx)×(Bool)=>(encTx) a.1++encB a.2) a.1++encSp a.2) (fun a:((Tx)×(Bool))×(Sp)=>(fun a:(Tx)×(Bool)=>(Tx.ok) a.1∧((fun _:Bool=>True)) a.2) a.1∧(Sp.ok) a.2):=b1.two rSp_back (fun _ _=>rfl) fun c h=>⟨c.1,c.2,rfl,h.1,h.2⟩
 have he:encBody ⟨4,t,s,zSp,cm,0,0,[],[],[],[],zSt⟩=(fun a:((Tx)×(Bool))×(Sp)=>(fun a:(Tx)×(Bool)=>(encTx) a.1++encB a.2) a.1++encSp a.2) ((t,cm),s):=by unfold encBody;simp
 have e:=b2 ((t,cm),s) pre x ⟨⟨ok.ok.t,trivial⟩,ok.ok.s⟩
 rw[←he]at e
 rw[rBody_4]
 simp only[rTwo,Prod.mk.injEq]at e
 obtain⟨⟨⟨e1,e2⟩,e3⟩,e0⟩:=e
 simp only[e1,e2,e3,e0]
theorem rcBack_5 (t:Tx) (s pv:Sp) (cm:Bool) (n:Int) (pt:Nat) (rd:List ByteArray) (wr:List Wt) (ps:List Int) (pr:List Wt) (st:Stt) (hz:(wipe ⟨5,t,s,pv,cm,n,pt,rd,wr,ps,pr,st⟩).zeroB=true) (hf:fieldsB ⟨5,t,s,pv,cm,n,pt,rd,wr,ps,pr,st⟩=true) (ok:RcOk ⟨5,t,s,pv,cm,n,pt,rd,wr,ps,pr,st⟩) (pre x:List UInt8):
 rBody 5 (pre++(encBody ⟨5,t,s,pv,cm,n,pt,rd,wr,ps,pr,st⟩++x)) ⟨pre.length,0,0⟩=(⟨5,t,s,pv,cm,n,pt,rd,wr,ps,pr,st⟩,⟨pre.length+(encBody ⟨5,t,s,pv,cm,n,pt,rd,wr,ps,pr,st⟩).length,0,0⟩):=by
 obtain⟨q1,q2,q3,q4,q5,q6,q7,q8,q9,q10,q11⟩:=zeroB_eq hz
 have zt:t=zTx:=q1
 have zpv:pv=zSp:=q3
 have zcm:cm=false:=q4
 have zn:n=0:=q5
 have zpt:pt=0:=q6
 have zrd:rd=[]:=q7
 have zwr:wr=[]:=q8
 have zps:ps=[]:=q9
 have zpr:pr=[]:=q10
 have zst:st=zSt:=q11
 clear q1 q2 q3 q4 q5 q6 q7 q8 q9 q10 q11 hz
 subst zt zpv zcm zn zpt zrd zwr zps zpr zst
 have b0:Back rSp (encSp) Sp.ok:=rSp_back
 have he:encBody ⟨5,zTx,s,zSp,false,0,0,[],[],[],[],zSt⟩=(encSp) s:=by unfold encBody;simp
 have e:=b0 s pre x ok.ok.s
 rw[←he]at e
 rw[rBody_5]
 rw[e]
theorem rcBack_6 (t:Tx) (s pv:Sp) (cm:Bool) (n:Int) (pt:Nat) (rd:List ByteArray) (wr:List Wt) (ps:List Int) (pr:List Wt) (st:Stt) (hz:(wipe ⟨6,t,s,pv,cm,n,pt,rd,wr,ps,pr,st⟩).zeroB=true) (hf:fieldsB ⟨6,t,s,pv,cm,n,pt,rd,wr,ps,pr,st⟩=true) (ok:RcOk ⟨6,t,s,pv,cm,n,pt,rd,wr,ps,pr,st⟩) (pre x:List UInt8):
 rBody 6 (pre++(encBody ⟨6,t,s,pv,cm,n,pt,rd,wr,ps,pr,st⟩++x)) ⟨pre.length,0,0⟩=(⟨6,t,s,pv,cm,n,pt,rd,wr,ps,pr,st⟩,⟨pre.length+(encBody ⟨6,t,s,pv,cm,n,pt,rd,wr,ps,pr,st⟩).length,0,0⟩):=by
 obtain⟨q1,q2,q3,q4,q5,q6,q7,q8,q9,q10,q11⟩:=zeroB_eq hz
 have zt:t=zTx:=q1
 have zpv:pv=zSp:=q3
 have zcm:cm=false:=q4
 have zrd:rd=[]:=q7
 have zwr:wr=[]:=q8
 have zps:ps=[]:=q9
 have zpr:pr=[]:=q10
 have zst:st=zSt:=q11
 clear q1 q2 q3 q4 q5 q6 q7 q8 q9 q10 q11 hz
 subst zt zpv zcm zrd zwr zps zpr zst
 have hf':((pointE pt==0)&&fgt (pointV pt) 0&&flt (pointV pt) 4607182418800017408&&rangesB n&&s.may)=true:=hf
 simp only[Bool.and_eq_true,beq_iff_eq]at hf'
 have hpt:FlG pt:=by
  have h2:=hf'.1.1.1.2
  unfold pointV at h2
  split at h2
  · rename_i hp
    unfold ptB at hp
    exact pt_good (by simpa using hp)
  · exact absurd h2 (by decide)
 have b0:Back rFloat (encF64) FlG:=rFloat_back
 have b1:Back (rTwo rFloat rInt Prod.mk) (fun a:(Nat)×(Int)=>(encF64) a.1++encI a.2) (fun a:(Nat)×(Int)=>(FlG) a.1∧(i64ok) a.2):=b0.two rInt_back (fun _ _=>rfl) fun c h=>⟨c.1,c.2,rfl,h.1,h.2⟩
 have b2:Back (rTwo (rTwo rFloat rInt Prod.mk) rSp Prod.mk) (fun a:((Nat)×(Int))×(Sp)=>(fun a:(Nat)×(Int)=>(encF64) a.1++encI a.2) a.1++encSp a.2) (fun a:((Nat)×(Int))×(Sp)=>(fun a:(Nat)×(Int)=>(FlG) a.1∧(i64ok) a.2) a.1∧(Sp.ok) a.2):=b1.two rSp_back (fun _ _=>rfl) fun c h=>⟨c.1,c.2,rfl,h.1,h.2⟩
 have he:encBody ⟨6,zTx,s,zSp,false,n,pt,[],[],[],[],zSt⟩=(fun a:((Nat)×(Int))×(Sp)=>(fun a:(Nat)×(Int)=>(encF64) a.1++encI a.2) a.1++encSp a.2) ((pt,n),s):=by unfold encBody;simp
 have e:=b2 ((pt,n),s) pre x ⟨⟨hpt,ok.ok.n⟩,ok.ok.s⟩
 rw[←he]at e
 rw[rBody_6]
 simp only[rTwo,Prod.mk.injEq]at e
 obtain⟨⟨⟨e1,e2⟩,e3⟩,e0⟩:=e
 simp only[e1,e2,e3,e0]
theorem rcBack_7 (t:Tx) (s pv:Sp) (cm:Bool) (n:Int) (pt:Nat) (rd:List ByteArray) (wr:List Wt) (ps:List Int) (pr:List Wt) (st:Stt) (hz:(wipe ⟨7,t,s,pv,cm,n,pt,rd,wr,ps,pr,st⟩).zeroB=true) (hf:fieldsB ⟨7,t,s,pv,cm,n,pt,rd,wr,ps,pr,st⟩=true) (ok:RcOk ⟨7,t,s,pv,cm,n,pt,rd,wr,ps,pr,st⟩) (pre x:List UInt8):
 rBody 7 (pre++(encBody ⟨7,t,s,pv,cm,n,pt,rd,wr,ps,pr,st⟩++x)) ⟨pre.length,0,0⟩=(⟨7,t,s,pv,cm,n,pt,rd,wr,ps,pr,st⟩,⟨pre.length+(encBody ⟨7,t,s,pv,cm,n,pt,rd,wr,ps,pr,st⟩).length,0,0⟩):=by
 obtain⟨q1,q2,q3,q4,q5,q6,q7,q8,q9,q10,q11⟩:=zeroB_eq hz
 have zt:t=zTx:=q1
 have zs:s=zSp:=q2
 have zpv:pv=zSp:=q3
 have zcm:cm=false:=q4
 have zpt:pt=0:=q6
 have zrd:rd=[]:=q7
 have zwr:wr=[]:=q8
 have zps:ps=[]:=q9
 have zpr:pr=[]:=q10
 have zst:st=zSt:=q11
 clear q1 q2 q3 q4 q5 q6 q7 q8 q9 q10 q11 hz
 subst zt zs zpv zcm zpt zrd zwr zps zpr zst
 have b0:Back rInt (encI) i64ok:=rInt_back
 have he:encBody ⟨7,zTx,zSp,zSp,false,n,0,[],[],[],[],zSt⟩=(encI) n:=by unfold encBody;simp
 have e:=b0 n pre x ok.ok.n
 rw[←he]at e
 rw[rBody_7]
 rw[e]
theorem rcBack_8 (t:Tx) (s pv:Sp) (cm:Bool) (n:Int) (pt:Nat) (rd:List ByteArray) (wr:List Wt) (ps:List Int) (pr:List Wt) (st:Stt) (hz:(wipe ⟨8,t,s,pv,cm,n,pt,rd,wr,ps,pr,st⟩).zeroB=true) (hf:fieldsB ⟨8,t,s,pv,cm,n,pt,rd,wr,ps,pr,st⟩=true) (ok:RcOk ⟨8,t,s,pv,cm,n,pt,rd,wr,ps,pr,st⟩) (pre x:List UInt8):
 rBody 8 (pre++(encBody ⟨8,t,s,pv,cm,n,pt,rd,wr,ps,pr,st⟩++x)) ⟨pre.length,0,0⟩=(⟨8,t,s,pv,cm,n,pt,rd,wr,ps,pr,st⟩,⟨pre.length+(encBody ⟨8,t,s,pv,cm,n,pt,rd,wr,ps,pr,st⟩).length,0,0⟩):=by
 obtain⟨q1,q2,q3,q4,q5,q6,q7,q8,q9,q10,q11⟩:=zeroB_eq hz
 have zt:t=zTx:=q1
 have zs:s=zSp:=q2
 have zpv:pv=zSp:=q3
 have zcm:cm=false:=q4
 have zpt:pt=0:=q6
 have zrd:rd=[]:=q7
 have zwr:wr=[]:=q8
 have zps:ps=[]:=q9
 have zpr:pr=[]:=q10
 have zst:st=zSt:=q11
 clear q1 q2 q3 q4 q5 q6 q7 q8 q9 q10 q11 hz
 subst zt zs zpv zcm zpt zrd zwr zps zpr zst
 have b0:Back rInt (encI) i64ok:=rInt_back
 have he:encBody ⟨8,zTx,zSp,zSp,false,n,0,[],[],[],[],zSt⟩=(encI) n:=by unfold encBody;simp
 have e:=b0 n pre x ok.ok.n
 rw[←he]at e
 rw[rBody_8]
 rw[e]
theorem rcBack_9 (t:Tx) (s pv:Sp) (cm:Bool) (n:Int) (pt:Nat) (rd:List ByteArray) (wr:List Wt) (ps:List Int) (pr:List Wt) (st:Stt) (hz:(wipe ⟨9,t,s,pv,cm,n,pt,rd,wr,ps,pr,st⟩).zeroB=true) (hf:fieldsB ⟨9,t,s,pv,cm,n,pt,rd,wr,ps,pr,st⟩=true) (ok:RcOk ⟨9,t,s,pv,cm,n,pt,rd,wr,ps,pr,st⟩) (pre x:List UInt8):
 rBody 9 (pre++(encBody ⟨9,t,s,pv,cm,n,pt,rd,wr,ps,pr,st⟩++x)) ⟨pre.length,0,0⟩=(⟨9,t,s,pv,cm,n,pt,rd,wr,ps,pr,st⟩,⟨pre.length+(encBody ⟨9,t,s,pv,cm,n,pt,rd,wr,ps,pr,st⟩).length,0,0⟩):=by
 obtain⟨q1,q2,q3,q4,q5,q6,q7,q8,q9,q10,q11⟩:=zeroB_eq hz
 have zpv:pv=zSp:=q3
 have zcm:cm=false:=q4
 have zn:n=0:=q5
 have zpt:pt=0:=q6
 have zrd:rd=[]:=q7
 have zwr:wr=[]:=q8
 have zpr:pr=[]:=q10
 have zst:st=zSt:=q11
 clear q1 q2 q3 q4 q5 q6 q7 q8 q9 q10 q11 hz
 subst zpv zcm zn zpt zrd zwr zpr zst
 have b0:Back rTx (encTx) Tx.ok:=rTx_back
 have b1:Back (rTwo rTx rSp Prod.mk) (fun a:(Tx)×(Sp)=>(encTx) a.1++encSp a.2) (fun a:(Tx)×(Sp)=>(Tx.ok) a.1∧(Sp.ok) a.2):=b0.two rSp_back (fun _ _=>rfl) fun c h=>⟨c.1,c.2,rfl,h.1,h.2⟩
 have b2:Back (rTwo (rTwo rTx rSp Prod.mk) (rLs rInt) Prod.mk) (fun a:((Tx)×(Sp))×(List Int)=>(fun a:(Tx)×(Sp)=>(encTx) a.1++encSp a.2) a.1++encLs encI a.2) (fun a:((Tx)×(Sp))×(List Int)=>(fun a:(Tx)×(Sp)=>(Tx.ok) a.1∧(Sp.ok) a.2) a.1∧(LsG i64ok) a.2):=b1.two (rLs_back rInt_back encI_pos) (fun _ _=>rfl) fun c h=>⟨c.1,c.2,rfl,h.1,h.2⟩
 have he:encBody ⟨9,t,s,zSp,false,0,0,[],[],ps,[],zSt⟩=(fun a:((Tx)×(Sp))×(List Int)=>(fun a:(Tx)×(Sp)=>(encTx) a.1++encSp a.2) a.1++encLs encI a.2) ((t,s),ps):=by unfold encBody;simp
 have e:=b2 ((t,s),ps) pre x ⟨⟨ok.ok.t,ok.ok.s⟩,⟨le_tr ok.ps.1,ok.ps.2⟩⟩
 rw[←he]at e
 rw[rBody_9]
 simp only[rTwo,Prod.mk.injEq]at e
 obtain⟨⟨⟨e1,e2⟩,e3⟩,e0⟩:=e
 simp only[e1,e2,e3,e0]
theorem rcBack_10 (t:Tx) (s pv:Sp) (cm:Bool) (n:Int) (pt:Nat) (rd:List ByteArray) (wr:List Wt) (ps:List Int) (pr:List Wt) (st:Stt) (hz:(wipe ⟨10,t,s,pv,cm,n,pt,rd,wr,ps,pr,st⟩).zeroB=true) (hf:fieldsB ⟨10,t,s,pv,cm,n,pt,rd,wr,ps,pr,st⟩=true) (ok:RcOk ⟨10,t,s,pv,cm,n,pt,rd,wr,ps,pr,st⟩) (pre x:List UInt8):
 rBody 10 (pre++(encBody ⟨10,t,s,pv,cm,n,pt,rd,wr,ps,pr,st⟩++x)) ⟨pre.length,0,0⟩=(⟨10,t,s,pv,cm,n,pt,rd,wr,ps,pr,st⟩,⟨pre.length+(encBody ⟨10,t,s,pv,cm,n,pt,rd,wr,ps,pr,st⟩).length,0,0⟩):=by
 obtain⟨q1,q2,q3,q4,q5,q6,q7,q8,q9,q10,q11⟩:=zeroB_eq hz
 have zs:s=zSp:=q2
 have zpv:pv=zSp:=q3
 have zcm:cm=false:=q4
 have zn:n=0:=q5
 have zpt:pt=0:=q6
 have zrd:rd=[]:=q7
 have zwr:wr=[]:=q8
 have zps:ps=[]:=q9
 have zpr:pr=[]:=q10
 have zst:st=zSt:=q11
 clear q1 q2 q3 q4 q5 q6 q7 q8 q9 q10 q11 hz
 subst zs zpv zcm zn zpt zrd zwr zps zpr zst
 have b0:Back rTx (encTx) Tx.ok:=rTx_back
 have he:encBody ⟨10,t,zSp,zSp,false,0,0,[],[],[],[],zSt⟩=(encTx) t:=by unfold encBody;simp
 have e:=b0 t pre x ok.ok.t
 rw[←he]at e
 rw[rBody_10]
 rw[e]
theorem rcBack_11 (t:Tx) (s pv:Sp) (cm:Bool) (n:Int) (pt:Nat) (rd:List ByteArray) (wr:List Wt) (ps:List Int) (pr:List Wt) (st:Stt) (hz:(wipe ⟨11,t,s,pv,cm,n,pt,rd,wr,ps,pr,st⟩).zeroB=true) (hf:fieldsB ⟨11,t,s,pv,cm,n,pt,rd,wr,ps,pr,st⟩=true) (ok:RcOk ⟨11,t,s,pv,cm,n,pt,rd,wr,ps,pr,st⟩) (pre x:List UInt8):
 rBody 11 (pre++(encBody ⟨11,t,s,pv,cm,n,pt,rd,wr,ps,pr,st⟩++x)) ⟨pre.length,0,0⟩=(⟨11,t,s,pv,cm,n,pt,rd,wr,ps,pr,st⟩,⟨pre.length+(encBody ⟨11,t,s,pv,cm,n,pt,rd,wr,ps,pr,st⟩).length,0,0⟩):=by
 obtain⟨q1,q2,q3,q4,q5,q6,q7,q8,q9,q10,q11⟩:=zeroB_eq hz
 have zcm:cm=false:=q4
 have zn:n=0:=q5
 have zpt:pt=0:=q6
 have zrd:rd=[]:=q7
 have zps:ps=[]:=q9
 have zpr:pr=[]:=q10
 have zst:st=zSt:=q11
 clear q1 q2 q3 q4 q5 q6 q7 q8 q9 q10 q11 hz
 subst zcm zn zpt zrd zps zpr zst
 have hf':applyB pv s t wr=true:=hf
 unfold applyB at hf'
 simp only[Bool.and_eq_true,beq_iff_eq]at hf'
 obtain⟨a1,a2⟩:=pend_good hf'.2
 have b0:Back rSp (encSp) Sp.ok:=rSp_back
 have b1:Back (rTwo rSp rSp Prod.mk) (fun a:(Sp)×(Sp)=>(encSp) a.1++encSp a.2) (fun a:(Sp)×(Sp)=>(Sp.ok) a.1∧(Sp.ok) a.2):=b0.two rSp_back (fun _ _=>rfl) fun c h=>⟨c.1,c.2,rfl,h.1,h.2⟩
 have b2:Back (rTwo (rTwo rSp rSp Prod.mk) rTx Prod.mk) (fun a:((Sp)×(Sp))×(Tx)=>(fun a:(Sp)×(Sp)=>(encSp) a.1++encSp a.2) a.1++encTx a.2) (fun a:((Sp)×(Sp))×(Tx)=>(fun a:(Sp)×(Sp)=>(Sp.ok) a.1∧(Sp.ok) a.2) a.1∧(Tx.ok) a.2):=b1.two rTx_back (fun _ _=>rfl) fun c h=>⟨c.1,c.2,rfl,h.1,h.2⟩
 have b3:Back (rTwo (rTwo (rTwo rSp rSp Prod.mk) rTx Prod.mk) (rLs rWt) Prod.mk) (fun a:(((Sp)×(Sp))×(Tx))×(List Wt)=>(fun a:((Sp)×(Sp))×(Tx)=>(fun a:(Sp)×(Sp)=>(encSp) a.1++encSp a.2) a.1++encTx a.2) a.1++encLs encWt a.2) (fun a:(((Sp)×(Sp))×(Tx))×(List Wt)=>(fun a:((Sp)×(Sp))×(Tx)=>(fun a:(Sp)×(Sp)=>(Sp.ok) a.1∧(Sp.ok) a.2) a.1∧(Tx.ok) a.2) a.1∧(LsG WtG) a.2):=b2.two (rLs_back rWt_back encWt_pos) (fun _ _=>rfl) fun c h=>⟨c.1,c.2,rfl,h.1,h.2⟩
 have he:encBody ⟨11,t,s,pv,false,0,0,[],wr,[],[],zSt⟩=(fun a:(((Sp)×(Sp))×(Tx))×(List Wt)=>(fun a:((Sp)×(Sp))×(Tx)=>(fun a:(Sp)×(Sp)=>(encSp) a.1++encSp a.2) a.1++encTx a.2) a.1++encLs encWt a.2) (((pv,s),t),wr):=by unfold encBody;simp
 have e:=b3 (((pv,s),t),wr) pre x ⟨⟨⟨ok.ok.pv,ok.ok.s⟩,ok.ok.t⟩,⟨le_tr ok.wr.1,fun a ha=>⟨(a2 a ha).1,(ok.wr.2 a ha).2,(a2 a ha).2⟩⟩⟩
 rw[←he]at e
 rw[rBody_11]
 simp only[rTwo,Prod.mk.injEq]at e
 obtain⟨⟨⟨⟨e1,e2⟩,e3⟩,e4⟩,e0⟩:=e
 simp only[e1,e2,e3,e4,e0]
theorem rcBack_12 (t:Tx) (s pv:Sp) (cm:Bool) (n:Int) (pt:Nat) (rd:List ByteArray) (wr:List Wt) (ps:List Int) (pr:List Wt) (st:Stt) (hz:(wipe ⟨12,t,s,pv,cm,n,pt,rd,wr,ps,pr,st⟩).zeroB=true) (hf:fieldsB ⟨12,t,s,pv,cm,n,pt,rd,wr,ps,pr,st⟩=true) (ok:RcOk ⟨12,t,s,pv,cm,n,pt,rd,wr,ps,pr,st⟩) (pre x:List UInt8):
 rBody 12 (pre++(encBody ⟨12,t,s,pv,cm,n,pt,rd,wr,ps,pr,st⟩++x)) ⟨pre.length,0,0⟩=(⟨12,t,s,pv,cm,n,pt,rd,wr,ps,pr,st⟩,⟨pre.length+(encBody ⟨12,t,s,pv,cm,n,pt,rd,wr,ps,pr,st⟩).length,0,0⟩):=by
 obtain⟨q1,q2,q3,q4,q5,q6,q7,q8,q9,q10,q11⟩:=zeroB_eq hz
 have zt:t=zTx:=q1
 have zpv:pv=zSp:=q3
 have zcm:cm=false:=q4
 have zn:n=0:=q5
 have zpt:pt=0:=q6
 have zrd:rd=[]:=q7
 have zwr:wr=[]:=q8
 have zps:ps=[]:=q9
 have zst:st=zSt:=q11
 clear q1 q2 q3 q4 q5 q6 q7 q8 q9 q10 q11 hz
 subst zt zpv zcm zn zpt zrd zwr zps zst
 have hf':(s.may&&prsB pr)=true:=hf
 simp only[Bool.and_eq_true]at hf'
 have a2:=prs_good _ _ hf'.2
 have b0:Back rSp (encSp) Sp.ok:=rSp_back
 have b1:Back (rTwo rSp (rLs rWt) Prod.mk) (fun a:(Sp)×(List Wt)=>(encSp) a.1++encLs encWt a.2) (fun a:(Sp)×(List Wt)=>(Sp.ok) a.1∧(LsG WtG) a.2):=b0.two (rLs_back rWt_back encWt_pos) (fun _ _=>rfl) fun c h=>⟨c.1,c.2,rfl,h.1,h.2⟩
 have he:encBody ⟨12,zTx,s,zSp,false,0,0,[],[],[],pr,zSt⟩=(fun a:(Sp)×(List Wt)=>(encSp) a.1++encLs encWt a.2) (s,pr):=by unfold encBody;simp
 have e:=b1 (s,pr) pre x ⟨ok.ok.s,⟨le_tr ok.pr.1,fun a ha=>⟨(a2 a ha).1,(ok.pr.2 a ha).2,(a2 a ha).2⟩⟩⟩
 rw[←he]at e
 rw[rBody_12]
 simp only[rTwo,Prod.mk.injEq]at e
 obtain⟨⟨e1,e2⟩,e0⟩:=e
 simp only[e1,e2,e0]
theorem rRc_back (r:Rc) (hm:recMay r=0) (ok:RcOk r) (pre x:List UInt8):rRc (pre++(encRc r++x)) ⟨pre.length,0,0⟩=(r,⟨pre.length+(encRc r).length,0,0⟩):=by
 have hk:kindB r.k=true:=by
  cases hq:kindB r.k
  · unfold recMay at hm;rw[hq]at hm;cases hm
  · rfl
 have hz:(wipe r).zeroB=true:=by
  cases hq:(wipe r).zeroB
  · unfold recMay at hm;rw[hk,hq]at hm;cases hm
  · rfl
 have hf:fieldsB r=true:=by
  cases hq:fieldsB r
  · unfold recMay at hm;rw[hk,hz,hq]at hm;cases hm
  · rfl
 have h1:=rInt_back r.k pre (encBody r++x) ok.ok.k
 have e1:pre++(encRc r++x)=pre++(encI r.k++(encBody r++x)):=by unfold encRc;simp only[List.append_assoc]
 have e2:pre++(encI r.k++(encBody r++x))=pre++encI r.k++(encBody r++x):=by simp only[List.append_assoc]
 have hb:rBody r.k (pre++encI r.k++(encBody r++x)) ⟨(pre++encI r.k).length,0,0⟩=(r,⟨(pre++encI r.k).length+(encBody r).length,0,0⟩):=by
  obtain⟨k,t,s,pv,cm,n,pt,rd,wr,ps,pr,st⟩:=r
  rcases kinds12 hk with e|e|e|e|e|e|e|e|e|e|e|e
  all_goals
   change k=_ at e
   subst e
  · exact rcBack_1 t s pv cm n pt rd wr ps pr st hz hf ok _ x
  · exact rcBack_2 t s pv cm n pt rd wr ps pr st hz hf ok _ x
  · exact rcBack_3 t s pv cm n pt rd wr ps pr st hz hf ok _ x
  · exact rcBack_4 t s pv cm n pt rd wr ps pr st hz hf ok _ x
  · exact rcBack_5 t s pv cm n pt rd wr ps pr st hz hf ok _ x
  · exact rcBack_6 t s pv cm n pt rd wr ps pr st hz hf ok _ x
  · exact rcBack_7 t s pv cm n pt rd wr ps pr st hz hf ok _ x
  · exact rcBack_8 t s pv cm n pt rd wr ps pr st hz hf ok _ x
  · exact rcBack_9 t s pv cm n pt rd wr ps pr st hz hf ok _ x
  · exact rcBack_10 t s pv cm n pt rd wr ps pr st hz hf ok _ x
  · exact rcBack_11 t s pv cm n pt rd wr ps pr st hz hf ok _ x
  · exact rcBack_12 t s pv cm n pt rd wr ps pr st hz hf ok _ x
 unfold rRc
 rw[e1,h1]
 simp only
 rw[e2]
 rw[List.length_append]at hb
 rw[hb]
 have:(encRc r).length=(encI r.k).length+(encBody r).length:=by unfold encRc;rw[List.length_append]
 rw[this,Nat.add_assoc]
end Go.Proofs.YthdmanadhbpogaaGreat
