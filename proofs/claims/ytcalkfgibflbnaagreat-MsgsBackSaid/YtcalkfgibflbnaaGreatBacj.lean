/- A message read field by field: the fields that a kind names, what reading one does, the plain reading and its laws. -/
import Derived.Laws.IdiomStrings
import Derived.Test.YtcalkfgibflbnaaGreatBaci
namespace Go.Proofs.YtcalkfgibflbnaaGreat
set_option linter.unusedVariables false
open Go.RowKit Fl
abbrev wF:Mg:=⟨0,0,0,sQ,0,0,0,iq,iq,false,0,0,[],[],[],[],[],[],nY⟩
abbrev AL:Hm:=⟨Hd.nil,Hd.nil,Hd.nil,Hd.nil,Hd.nil,Hd.nil,Hd.nil,Hd.nil⟩
theorem af4:wF.ok:=⟨lK,lK,lK,MS,lK,lK,lK,sU,sU,lK,lK,IK,sU,sU⟩
def yD:eG Sn:=eu (eu iF je Prod.mk) dY fun a s=>⟨a.1,a.2,s⟩
theorem af5:jD yD iL:=qL (qL (BO _) MZ Bq fun _ _=>rfl) zn qH fun a s=>by
 show bn a.1++(eY a.2++aU s)=(bn a.1++eY a.2)++aU s;rw[List.append_assoc]
def qX:eG Rc:=fun l s=>
 if (dZ l s 262144).2.e≠0 then (ql,(dZ l s 262144).2) else
 if sW (dZ l s 262144).1≠0 then (ql,⟨(dZ l s 262144).2.at_,4,0⟩) else (rQ (dZ l s 262144).1,(dZ l s 262144).2)
theorem VL {l:List UInt8} (h:sW l=0):gU (lZ l ⟨0,0,0⟩).1=0/\fM (lZ l ⟨0,0,0⟩).1=l/\rQ l=(lZ l ⟨0,0,0⟩).1:=by
 have hr:rQ l=(lZ l ⟨0,0,0⟩).1:=by unfold rQ;rw[if_pos h]
 unfold sW at h
 repeat' split at h
 all_goals first
  |exact absurd h (by decide)
  |exact⟨Decidable.byContradiction fun hn=>by contradiction,Decidable.byContradiction fun hn=>by contradiction,hr⟩
theorem af6:jD qX iM:=fun l s hs h=>by
 unfold qX at h ⊢;split at h
 · exact absurd h (by assumption)
 · rename_i h1;split at h
   · exact absurd (show (4:Int)=0 from h) (by decide)
   · rename_i h2;obtain⟨-,a,b⟩:=VL (Decidable.byContradiction h2);rw[if_neg h1,if_neg h2];obtain⟨c1,c2⟩:=BO 262144 l s hs h;refine⟨c1,c2.trans ?_⟩;show l.take s.at_++jX (dZ l s 262144).1=l.take s.at_++jX (fM (rQ (dZ l s 262144).1));rw[b,a]
theorem Ec.pl {N:Nat} {r:Rc} (c:Ec N r) (hN:N<=5000000) (he:(bC r).length<=6000000):jo r:=
 ⟨Nat.le_trans c.rd hN,Nat.le_trans c.wr hN,Nat.le_trans c.ps hN,Nat.le_trans c.pr hN,⟨Nat.le_trans c.h.1 hN,fun x hx=>Nat.le_trans (c.h.2 x hx) hN⟩,⟨Nat.le_trans c.p.1 hN,fun x hx=>⟨Nat.le_trans (c.p.2 x hx).1 hN,Nat.le_trans (c.p.2 x hx).2 hN⟩⟩,he⟩
theorem Ox:jo ql:=⟨Nat.zero_le _,Nat.zero_le _,Nat.zero_le _,Nat.zero_le _,⟨Nat.zero_le _,fun x hx=>by cases hx⟩,⟨Nat.zero_le _,fun x hx=>by cases hx⟩,by decide⟩
theorem af7 (t:List UInt8) (ht:t.length<=5000000):jo (rQ t):=by
 by_cases h:sW t=0
 · obtain⟨a,b,c⟩:=VL h;rw[c];refine(Ul t _).pl ht ?_;have e:fM (lZ t ⟨0,0,0⟩).1=bC (lZ t ⟨0,0,0⟩).1:=(by unfold fM;rw[if_pos a]);rw[<-e,b];omega
 · have:rQ t=ql:=(by unfold rQ;rw[if_neg h]);rw[this];exact Ox
theorem af8 (l:List UInt8) (s:RS) (hl:l.length<=5000000):jo (qX l s).1:=by
 unfold qX;split
 · exact Ox
 · split
   · exact Ox
   · exact af7 _ (Nat.le_trans (Me l s _) hl)
inductive MF|k|fr|aG|t|rg|ep|cd|s|pv|cm|n|mx|ks|sn|ws|ps|rs|rc|st
def MF.rd:MF->Stp Mg
 | .k=>iH aS fun a x=>{x with k:=a}
 | .fr=>iH aS fun a x=>{x with fr:=a}
 | .aG=>iH aS fun a x=>{x with aG:=a}
 | .t=>iH oD fun a x=>{x with t:=a}
 | .rg=>iH aS fun a x=>{x with rg:=a}
 | .ep=>iH aS fun a x=>{x with ep:=a}
 | .cd=>iH aS fun a x=>{x with cd:=a}
 | .s=>iH dY fun a x=>{x with s:=a}
 | .pv=>iH dY fun a x=>{x with pv:=a}
 | .cm=>iH nS fun a x=>{x with cm:=a}
 | .n=>iH aS fun a x=>{x with n:=a}
 | .mx=>iH aS fun a x=>{x with mx:=a}
 | .ks=>iH (dn iF) fun a x=>{x with ks:=a}
 | .sn=>iH (dn yD) fun a x=>{x with sn:=a}
 | .ws=>iH (dn nT) fun a x=>{x with ws:=a}
 | .ps=>iH (dn aS) fun a x=>{x with ps:=a}
 | .rs=>iH (dn kF) fun a x=>{x with rs:=a}
 | .rc=>iH (dn qX) fun a x=>{x with rc:=a}
 | .st=>iH xW fun a x=>{x with st:=a}
def G5 (k:Int):List MF:=
 if k=1 then [.ep,.s,.ks] else if k=2 then [.cd,.s,.sn,.rs] else if k=3 then [.ep,.s,.sn,.ws,.ps] else if k=4 then [.cd,.s,.rs] else if k=5 then [.cm,.s] else []
def uG (k:Int):List MF:=
 if 1<=k/\k<=7 then .t:: .rg::G5 k else if k=8 then [.rg,.n,.mx,.s] else if k=9 then [.rg,.n,.rc] else if k=10 then [.rg,.st] else if k=11 then [.rg] else if k=12 then [.pv,.s,.t,.ws] else if k=14 then [.s] else []
def mG:eG Mg:=fun l s=>dL MF.rd (.k:: .fr:: .aG::uG (aS l s).1) wF l s
theorem MF.stk:BI MF.rd:=fun d x=>match d with
 | .k=>jw kV x
 | .fr=>jw kV x
 | .aG=>jw kV x
 | .t=>jw LD x
 | .rg=>jw kV x
 | .ep=>jw kV x
 | .cd=>jw kV x
 | .s=>jw qH x
 | .pv=>jw qH x
 | .cm=>jw Lu x
 | .n=>jw kV x
 | .mx=>jw kV x
 | .ks=>jw (jv _) x
 | .sn=>jw (jv _) x
 | .ws=>jw (jv _) x
 | .ps=>jw (jv _) x
 | .rs=>jw (jv _) x
 | .rc=>jw (jv _) x
 | .st=>jw Q7 x
theorem bH.mn {w w':World} {B:Nat} {m:Mg} {h:Hm} (i:bH w B m h) (hk:∀p u,p.block<B->w.cell? p=some u->w'.cell? p=some u):bH w' B m h:=
 ⟨i.ks.mono aO.mono hk,i.sn.mono (Flat.mono _ _) hk,i.ws.mono aF.mono hk,i.ps.mono bK.mono hk,i.rs.mono (Flat.mono _ _) hk,i.rc.mono (fun w w' B cs r ⟨h,e,o,c,i⟩ hk=>⟨h,e,o,c,i.mn hk⟩) hk,i.hs.mono aQ.mono hk,i.pn.mono aP.mono hk⟩
abbrev iw:Bx Mg Hm:=⟨41,36,Mg.vals,fun w B x h=>x.ok/\h.caps/\bH w B x h⟩
theorem bJ:(iw).Good:=⟨fun _ _=>rfl,fun w w' B B' x h i hk hB=>⟨i.1,i.2.1,(i.2.2.keep hk).more hB⟩,fun w w' B x h i hk=>⟨i.1,i.2.1,i.2.2.mn hk⟩⟩
theorem yE (w:World) (B:Nat):(iw).lo w B wF AL:=⟨af4,⟨qm,qm,qm,qm,qm,qm,qm,qm⟩,⟨Sl.nil,Sl.nil,Sl.nil,Sl.nil,Sl.nil,Sl.nil,Sl.nil,Sl.nil⟩⟩
theorem af9:jf iw bK 1 0 (fun a x=>{x with k:=a}) (fun _ h=>h):=by
 rintro w B x h vs a ⟨ok,cp,⟨L1,L2,L3,L4,L5,L6,L7,L8⟩⟩ ⟨rfl,hok⟩ -;exact⟨rfl,⟨hok,ok.fr,ok.aG,ok.t,ok.rg,ok.ep,ok.cd,ok.s,ok.pv,ok.n,ok.mx,ok.sr,ok.sf,ok.sc⟩,cp,⟨L1,L2,L3,L4,L5,L6,L7,L8⟩⟩
theorem af':jf iw bK 1 1 (fun a x=>{x with fr:=a}) (fun _ h=>h):=by
 rintro w B x h vs a ⟨ok,cp,⟨L1,L2,L3,L4,L5,L6,L7,L8⟩⟩ ⟨rfl,hok⟩ -;exact⟨rfl,⟨ok.k,hok,ok.aG,ok.t,ok.rg,ok.ep,ok.cd,ok.s,ok.pv,ok.n,ok.mx,ok.sr,ok.sf,ok.sc⟩,cp,⟨L1,L2,L3,L4,L5,L6,L7,L8⟩⟩
theorem aga:jf iw bK 1 2 (fun a x=>{x with aG:=a}) (fun _ h=>h):=by
 rintro w B x h vs a ⟨ok,cp,⟨L1,L2,L3,L4,L5,L6,L7,L8⟩⟩ ⟨rfl,hok⟩ -;exact⟨rfl,⟨ok.k,ok.fr,hok,ok.t,ok.rg,ok.ep,ok.cd,ok.s,ok.pv,ok.n,ok.mx,ok.sr,ok.sf,ok.sc⟩,cp,⟨L1,L2,L3,L4,L5,L6,L7,L8⟩⟩
theorem VN:jf iw Iq 3 3 (fun a x=>{x with t:=a}) (fun _ h=>h):=by
 rintro w B x h vs a ⟨ok,cp,⟨L1,L2,L3,L4,L5,L6,L7,L8⟩⟩ ⟨rfl,hok⟩ -;exact⟨rfl,⟨ok.k,ok.fr,ok.aG,hok,ok.rg,ok.ep,ok.cd,ok.s,ok.pv,ok.n,ok.mx,ok.sr,ok.sf,ok.sc⟩,cp,⟨L1,L2,L3,L4,L5,L6,L7,L8⟩⟩
theorem G6:jf iw bK 1 6 (fun a x=>{x with rg:=a}) (fun _ h=>h):=by
 rintro w B x h vs a ⟨ok,cp,⟨L1,L2,L3,L4,L5,L6,L7,L8⟩⟩ ⟨rfl,hok⟩ -;exact⟨rfl,⟨ok.k,ok.fr,ok.aG,ok.t,hok,ok.ep,ok.cd,ok.s,ok.pv,ok.n,ok.mx,ok.sr,ok.sf,ok.sc⟩,cp,⟨L1,L2,L3,L4,L5,L6,L7,L8⟩⟩
theorem VO:jf iw bK 1 7 (fun a x=>{x with ep:=a}) (fun _ h=>h):=by
 rintro w B x h vs a ⟨ok,cp,⟨L1,L2,L3,L4,L5,L6,L7,L8⟩⟩ ⟨rfl,hok⟩ -;exact⟨rfl,⟨ok.k,ok.fr,ok.aG,ok.t,ok.rg,hok,ok.cd,ok.s,ok.pv,ok.n,ok.mx,ok.sr,ok.sf,ok.sc⟩,cp,⟨L1,L2,L3,L4,L5,L6,L7,L8⟩⟩
theorem VP:jf iw bK 1 8 (fun a x=>{x with cd:=a}) (fun _ h=>h):=by
 rintro w B x h vs a ⟨ok,cp,⟨L1,L2,L3,L4,L5,L6,L7,L8⟩⟩ ⟨rfl,hok⟩ -;exact⟨rfl,⟨ok.k,ok.fr,ok.aG,ok.t,ok.rg,ok.ep,hok,ok.s,ok.pv,ok.n,ok.mx,ok.sr,ok.sf,ok.sc⟩,cp,⟨L1,L2,L3,L4,L5,L6,L7,L8⟩⟩
theorem AO:jf iw DR 3 9 (fun a x=>{x with s:=a}) (fun _ h=>h):=by
 rintro w B x h vs a ⟨ok,cp,⟨L1,L2,L3,L4,L5,L6,L7,L8⟩⟩ ⟨rfl,hok⟩ -;exact⟨rfl,⟨ok.k,ok.fr,ok.aG,ok.t,ok.rg,ok.ep,ok.cd,hok,ok.pv,ok.n,ok.mx,ok.sr,ok.sf,ok.sc⟩,cp,⟨L1,L2,L3,L4,L5,L6,L7,L8⟩⟩
theorem agb:jf iw DR 3 12 (fun a x=>{x with pv:=a}) (fun _ h=>h):=by
 rintro w B x h vs a ⟨ok,cp,⟨L1,L2,L3,L4,L5,L6,L7,L8⟩⟩ ⟨rfl,hok⟩ -;exact⟨rfl,⟨ok.k,ok.fr,ok.aG,ok.t,ok.rg,ok.ep,ok.cd,ok.s,hok,ok.n,ok.mx,ok.sr,ok.sf,ok.sc⟩,cp,⟨L1,L2,L3,L4,L5,L6,L7,L8⟩⟩
theorem agc:jf iw FB 1 15 (fun a x=>{x with cm:=a}) (fun _ h=>h):=by
 rintro w B x h vs a ⟨ok,cp,⟨L1,L2,L3,L4,L5,L6,L7,L8⟩⟩ ⟨rfl,hok⟩ -;exact⟨rfl,⟨ok.k,ok.fr,ok.aG,ok.t,ok.rg,ok.ep,ok.cd,ok.s,ok.pv,ok.n,ok.mx,ok.sr,ok.sf,ok.sc⟩,cp,⟨L1,L2,L3,L4,L5,L6,L7,L8⟩⟩
theorem VQ:jf iw bK 1 16 (fun a x=>{x with n:=a}) (fun _ h=>h):=by
 rintro w B x h vs a ⟨ok,cp,⟨L1,L2,L3,L4,L5,L6,L7,L8⟩⟩ ⟨rfl,hok⟩ -;exact⟨rfl,⟨ok.k,ok.fr,ok.aG,ok.t,ok.rg,ok.ep,ok.cd,ok.s,ok.pv,hok,ok.mx,ok.sr,ok.sf,ok.sc⟩,cp,⟨L1,L2,L3,L4,L5,L6,L7,L8⟩⟩
theorem agd:jf iw bK 1 17 (fun a x=>{x with mx:=a}) (fun _ h=>h):=by
 rintro w B x h vs a ⟨ok,cp,⟨L1,L2,L3,L4,L5,L6,L7,L8⟩⟩ ⟨rfl,hok⟩ -;exact⟨rfl,⟨ok.k,ok.fr,ok.aG,ok.t,ok.rg,ok.ep,ok.cd,ok.s,ok.pv,ok.n,hok,ok.sr,ok.sf,ok.sc⟩,cp,⟨L1,L2,L3,L4,L5,L6,L7,L8⟩⟩
theorem agf:jf iw (jl aO 1) 1 18 (fun a x=>{x with ks:=a}) (fun vs h=>{h with a:=uS vs 0}):=by
 rintro w B x h vs a ⟨ok,cp,⟨L1,L2,L3,L4,L5,L6,L7,L8⟩⟩ ⟨v,rfl,A,n,c,rfl,q1,q2,sl⟩ -;exact⟨rfl,⟨ok.k,ok.fr,ok.aG,ok.t,ok.rg,ok.ep,ok.cd,ok.s,ok.pv,ok.n,ok.mx,ok.sr,ok.sf,ok.sc⟩,⟨⟨q1,q2⟩,cp.b,cp.c,cp.d,cp.e,cp.f,cp.g,cp.i⟩,⟨sl,L2,L3,L4,L5,L6,L7,L8⟩⟩
theorem VR:jf iw (jl gI 7) 1 19 (fun a x=>{x with sn:=a}) (fun vs h=>{h with b:=uS vs 0}):=by
 rintro w B x h vs a ⟨ok,cp,⟨L1,L2,L3,L4,L5,L6,L7,L8⟩⟩ ⟨v,rfl,A,n,c,rfl,q1,q2,sl⟩ -;exact⟨rfl,⟨ok.k,ok.fr,ok.aG,ok.t,ok.rg,ok.ep,ok.cd,ok.s,ok.pv,ok.n,ok.mx,ok.sr,ok.sf,ok.sc⟩,⟨cp.a,⟨q1,q2⟩,cp.c,cp.d,cp.e,cp.f,cp.g,cp.i⟩,⟨L1,sl,L3,L4,L5,L6,L7,L8⟩⟩
theorem VT:jf iw (jl aF 4) 1 20 (fun a x=>{x with ws:=a}) (fun vs h=>{h with c:=uS vs 0}):=by
 rintro w B x h vs a ⟨ok,cp,⟨L1,L2,L3,L4,L5,L6,L7,L8⟩⟩ ⟨v,rfl,A,n,c,rfl,q1,q2,sl⟩ -;exact⟨rfl,⟨ok.k,ok.fr,ok.aG,ok.t,ok.rg,ok.ep,ok.cd,ok.s,ok.pv,ok.n,ok.mx,ok.sr,ok.sf,ok.sc⟩,⟨cp.a,cp.b,⟨q1,q2⟩,cp.d,cp.e,cp.f,cp.g,cp.i⟩,⟨L1,L2,sl,L4,L5,L6,L7,L8⟩⟩
theorem agh:jf iw (jl bK 1) 1 21 (fun a x=>{x with ps:=a}) (fun vs h=>{h with d:=uS vs 0}):=by
 rintro w B x h vs a ⟨ok,cp,⟨L1,L2,L3,L4,L5,L6,L7,L8⟩⟩ ⟨v,rfl,A,n,c,rfl,q1,q2,sl⟩ -;exact⟨rfl,⟨ok.k,ok.fr,ok.aG,ok.t,ok.rg,ok.ep,ok.cd,ok.s,ok.pv,ok.n,ok.mx,ok.sr,ok.sf,ok.sc⟩,⟨cp.a,cp.b,cp.c,⟨q1,q2⟩,cp.e,cp.f,cp.g,cp.i⟩,⟨L1,L2,L3,sl,L5,L6,L7,L8⟩⟩
theorem VU:jf iw (jl gX 4) 1 22 (fun a x=>{x with rs:=a}) (fun vs h=>{h with e:=uS vs 0}):=by
 rintro w B x h vs a ⟨ok,cp,⟨L1,L2,L3,L4,L5,L6,L7,L8⟩⟩ ⟨v,rfl,A,n,c,rfl,q1,q2,sl⟩ -;exact⟨rfl,⟨ok.k,ok.fr,ok.aG,ok.t,ok.rg,ok.ep,ok.cd,ok.s,ok.pv,ok.n,ok.mx,ok.sr,ok.sf,ok.sc⟩,⟨cp.a,cp.b,cp.c,cp.d,⟨q1,q2⟩,cp.f,cp.g,cp.i⟩,⟨L1,L2,L3,L4,sl,L6,L7,L8⟩⟩
theorem agi:jf iw (jl eX 29) 1 23 (fun a x=>{x with rc:=a}) (fun vs h=>{h with f:=uS vs 0}):=by
 rintro w B x h vs a ⟨ok,cp,⟨L1,L2,L3,L4,L5,L6,L7,L8⟩⟩ ⟨v,rfl,A,n,c,rfl,q1,q2,sl⟩ -;exact⟨rfl,⟨ok.k,ok.fr,ok.aG,ok.t,ok.rg,ok.ep,ok.cd,ok.s,ok.pv,ok.n,ok.mx,ok.sr,ok.sf,ok.sc⟩,⟨cp.a,cp.b,cp.c,cp.d,cp.e,⟨q1,q2⟩,cp.g,cp.i⟩,⟨L1,L2,L3,L4,L5,sl,L7,L8⟩⟩
theorem agj:jf iw zO 12 24 (fun a x=>{x with st:=a}) (fun vs h=>{h with g:=uS vs 10,i:=uS vs 11}):=by
 rintro w B x h vs a ⟨ok,cp,⟨L1,L2,L3,L4,L5,L6,L7,L8⟩⟩ ⟨v1,v2,rfl,p1,p2,p3,⟨A1,n1,c1,rfl,q1,q2,y1⟩,A2,n2,c2,rfl,q3,q4,y2⟩ -;exact⟨ah,⟨ok.k,ok.fr,ok.aG,ok.t,ok.rg,ok.ep,ok.cd,ok.s,ok.pv,ok.n,ok.mx,p1,p2,p3⟩,⟨cp.a,cp.b,cp.c,cp.d,cp.e,cp.f,⟨q1,q2⟩,⟨q3,q4⟩⟩,⟨L1,L2,L3,L4,L5,L6,y1,y2⟩⟩
def MF.en:MF->Mg->List UInt8
 | .k,x=>encI x.k
 | .fr,x=>encI x.fr
 | .aG,x=>encI x.aG
 | .t,x=>eP x.t
 | .rg,x=>encI x.rg
 | .ep,x=>encI x.ep
 | .cd,x=>encI x.cd
 | .s,x=>aU x.s
 | .pv,x=>aU x.pv
 | .cm,x=>qF x.cm
 | .n,x=>encI x.n
 | .mx,x=>encI x.mx
 | .ks,x=>aH bn x.ks
 | .sn,x=>aH iL x.sn
 | .ws,x=>aH bP x.ws
 | .ps,x=>aH encI x.ps
 | .rs,x=>aH dU x.rs
 | .rc,x=>aH iM x.rc
 | .st,x=>oC x.st
def MF.no:MF->Nat
 | .k=>0
 | .fr=>1
 | .aG=>2
 | .t=>3
 | .rg=>4
 | .ep=>5
 | .cd=>6
 | .s=>7
 | .pv=>8
 | .cm=>9
 | .n=>10
 | .mx=>11
 | .ks=>12
 | .sn=>13
 | .ws=>14
 | .ps=>15
 | .rs=>16
 | .rc=>17
 | .st=>18
def MF.ap (d d':MF):Bool:=d.no !=d'.no
theorem MF.encS:MC MF.rd MF.en:=fun d x l s hs h=>match d with
 | .k=>rM l s hs h
 | .fr=>rM l s hs h
 | .aG=>rM l s hs h
 | .t=>MX l s hs h
 | .rg=>rM l s hs h
 | .ep=>rM l s hs h
 | .cd=>rM l s hs h
 | .s=>zn l s hs h
 | .pv=>zn l s hs h
 | .cm=>TI l s hs h
 | .n=>rM l s hs h
 | .mx=>rM l s hs h
 | .ks=>uo (BO _) l s hs h
 | .sn=>uo af5 l s hs h
 | .ws=>uo I9 l s hs h
 | .ps=>uo rM l s hs h
 | .rs=>uo TP l s hs h
 | .rc=>uo af6 l s hs h
 | .st=>TQ l s hs h
theorem MF.Nr:IC MF.rd MF.en MF.ap:=fun d d' h x l s=>by
 cases d<;>cases d'<;>first
  |rfl
  |exact absurd h (by decide)
theorem VW (k:Int):(MF.k:: .fr:: .aG::uG k).Pairwise (fun d d'=>MF.ap d d'=true):=by
 unfold uG G5
 repeat' split
 all_goals decide
theorem VX (m:Mg):bT m=(MF.k:: .fr:: .aG::uG m.k).flatMap fun d=>MF.en d m:=by
 obtain⟨k,fr,aG,t,rg,ep,cd,s,pv,cm,n,mx,ks,sn,ws,ps,rs,rc,st⟩:=m;rcases (by omega:k=1∨k=2∨k=3∨k=4∨k=5∨k=6∨k=7∨k=8∨k=9∨k=10∨k=11∨k=12∨k=13∨k=14∨(¬(1<=k/\k<=7)/\¬k=8/\¬k=9/\¬k=10/\¬k=11/\¬k=12/\¬k=13/\¬k=14)) with rfl|rfl|rfl|rfl|rfl|rfl|rfl|rfl|rfl|rfl|rfl|rfl|rfl|rfl|⟨h0,h8,h9,h10,h11,h12,h13,vF⟩
 all_goals simp[bT,iZ,jg,uG,G5,MF.en, *]
theorem agk (l:List UInt8) (s:RS):(mG l s).1.k=(aS l s).1:=by
 have h2:∀ds:List MF,(∀d∈ds,d.no≠0)->∀x l' s',(dL MF.rd ds x l' s').1.k=x.k:=by
  intro ds
  induction ds with
  |nil=>intro _ x l' s';rfl
  |cons d ds ih=>
   intro hd x l' s';refine(ih (fun y hy=>hd y (List.mem_cons_of_mem _ hy)) _ _ _).trans ?_;have hk:=hd d List.mem_cons_self;cases d<;>first
        |rfl
        |exact absurd rfl hk
 refine h2 (.fr:: .aG::uG (aS l s).1) (fun d hd e=>?_) _ _ _;have:=(List.pairwise_cons.1 (VW (aS l s).1)).1 d hd;unfold MF.ap at this;rw[e]at this;exact absurd this (by decide)
theorem agl:jD mG bT:=fun l s hs h=>by
 obtain⟨a,b⟩:=MG MF.encS MF.stk MF.Nr _ wF l s (VW _) hs h;refine⟨a,b.trans ?_⟩;rw[VX,agk];rfl
structure JJ (N:Nat) (m:Mg):Prop where
 ks:m.ks.length<=N
 sn:m.sn.length<=N
 ws:m.ws.length<=N
 ps:m.ps.length<=N
 rs:m.rs.length<=N
 rc:m.rc.length<=N
 h:m.st.h.length<=N/\∀h∈m.st.h,h.vs.length<=N
 p:m.st.p.length<=N/\∀p∈m.st.p,p.r.length<=N/\p.w.length<=N
 pl:∀r∈m.rc,jo r
theorem VY (l:List UInt8) (s:RS) (hl:l.length<=5000000):JJ l.length (mG l s).1:=
 MH (P:=JJ l.length) (fun d x s i=>match d with
  | .k=>⟨i.ks,i.sn,i.ws,i.ps,i.rs,i.rc,i.h,i.p,i.pl⟩
  | .fr=>⟨i.ks,i.sn,i.ws,i.ps,i.rs,i.rc,i.h,i.p,i.pl⟩
  | .aG=>⟨i.ks,i.sn,i.ws,i.ps,i.rs,i.rc,i.h,i.p,i.pl⟩
  | .t=>⟨i.ks,i.sn,i.ws,i.ps,i.rs,i.rc,i.h,i.p,i.pl⟩
  | .rg=>⟨i.ks,i.sn,i.ws,i.ps,i.rs,i.rc,i.h,i.p,i.pl⟩
  | .ep=>⟨i.ks,i.sn,i.ws,i.ps,i.rs,i.rc,i.h,i.p,i.pl⟩
  | .cd=>⟨i.ks,i.sn,i.ws,i.ps,i.rs,i.rc,i.h,i.p,i.pl⟩
  | .s=>⟨i.ks,i.sn,i.ws,i.ps,i.rs,i.rc,i.h,i.p,i.pl⟩
  | .pv=>⟨i.ks,i.sn,i.ws,i.ps,i.rs,i.rc,i.h,i.p,i.pl⟩
  | .cm=>⟨i.ks,i.sn,i.ws,i.ps,i.rs,i.rc,i.h,i.p,i.pl⟩
  | .n=>⟨i.ks,i.sn,i.ws,i.ps,i.rs,i.rc,i.h,i.p,i.pl⟩
  | .mx=>⟨i.ks,i.sn,i.ws,i.ps,i.rs,i.rc,i.h,i.p,i.pl⟩
  | .ks=>⟨rO l _,i.sn,i.ws,i.ps,i.rs,i.rc,i.h,i.p,i.pl⟩
  | .sn=>⟨i.ks,rO l _,i.ws,i.ps,i.rs,i.rc,i.h,i.p,i.pl⟩
  | .ws=>⟨i.ks,i.sn,rO l _,i.ps,i.rs,i.rc,i.h,i.p,i.pl⟩
  | .ps=>⟨i.ks,i.sn,i.ws,rO l _,i.rs,i.rc,i.h,i.p,i.pl⟩
  | .rs=>⟨i.ks,i.sn,i.ws,i.ps,rO l _,i.rc,i.h,i.p,i.pl⟩
  | .rc=>⟨i.ks,i.sn,i.ws,i.ps,i.rs,rO l _,i.h,i.p,Na (Q:=jo) l _ fun s=>af8 l s hl⟩
  | .st=>⟨i.ks,i.sn,i.ws,i.ps,i.rs,i.rc,(Jb l s).1,(Jb l s).2,i.pl⟩) _ _ _
  ⟨Nat.zero_le _,Nat.zero_le _,Nat.zero_le _,Nat.zero_le _,Nat.zero_le _,Nat.zero_le _,⟨Nat.zero_le _,fun h hh=>by cases hh⟩,⟨Nat.zero_le _,fun h hh=>by cases hh⟩,fun h hh=>by cases hh⟩
theorem JJ.sm {w:World} {B N:Nat} {m:Mg} {h:Hm} (c:JJ N m) (hN:N<=5000000) (i:bH w B m h):iV m h:=
 ⟨by rw[<-i.ks.1];exact Nat.le_trans c.ks hN,by rw[<-i.sn.1];exact Nat.le_trans c.sn hN,by rw[<-i.ws.1];exact Nat.le_trans c.ws hN,by rw[<-i.ps.1];exact Nat.le_trans c.ps hN,by rw[<-i.rs.1];exact Nat.le_trans c.rs hN,by rw[<-i.rc.1];exact Nat.le_trans c.rc hN,
  ⟨Nat.le_trans c.h.1 hN,fun x hx=>Nat.le_trans (c.h.2 x hx) hN⟩,⟨Nat.le_trans c.p.1 hN,fun x hx=>⟨Nat.le_trans (c.p.2 x hx).1 hN,Nat.le_trans (c.p.2 x hx).2 hN⟩⟩⟩
section
variable {S D:Type} {rd:D->Stp S} {en:D->S->List UInt8} {cp:D->S->S->S} {Q:D->S->Prop}
def Oy (rd:D->Stp S) (en:D->S->List UInt8) (cp:D->S->S->S) (Q:D->S->Prop):Prop:=∀d m x pre r,Q d m->rd d x (pre++(en d m++r)) ⟨pre.length,0,0⟩=(cp d m x,⟨pre.length+(en d m).length,0,0⟩)
def JK (Q:D->S->Prop) (m:S):List D->Prop
 |[]=>True
 |d::ds=>Q d m/\JK Q m ds
def G7 (cp:D->S->S->S) (m:S):List D->S->S
 |[],x=>x
 |d::ds,x=>G7 cp m ds (cp d m x)
theorem Oz (hB:Oy rd en cp Q) (m:S):∀ds x pre r,JK Q m ds->dL rd ds x (pre++(ds.flatMap (fun d=>en d m)++r)) ⟨pre.length,0,0⟩=(G7 cp m ds x,⟨pre.length+(ds.flatMap fun d=>en d m).length,0,0⟩)
 |[],x,pre,r,h=>by simp[dL,G7]
 |d::ds,x,pre,r,h=>by
  have e:=hB d m x pre (ds.flatMap (fun d=>en d m)++r) h.1;have e2:=Oz hB m ds (cp d m x) (pre++en d m) r h.2;rw[List.flatMap_cons,List.append_assoc];show dL rd ds (rd d x _ _).1 _ (rd d x _ _).2=_;rw[e];rw[List.append_assoc,aK]at e2;refine e2.trans ?_;rw[aK,Nat.add_assoc];rfl
theorem jA {α:Type} {r:eG α} {enc:α->List UInt8} {q:α->Prop} {u:α->S->S} {x:S} {pre l:List UInt8} {a:α} (hB:Back r enc q) (h:q a):iH r u x (pre++(enc a++l)) ⟨pre.length,0,0⟩=(u a x,⟨pre.length+(enc a).length,0,0⟩):=by
 unfold iH;rw[hB a pre l h]
end
structure EF (r:Rc):Prop where
 ok:r.ok
 rd:r.rd.length<=5000000
 wr:r.wr.length<=5000000/\∀a∈r.wr,a.ok
 ps:r.ps.length<=5000000/\∀a∈r.ps,bG a
 pr:r.pr.length<=5000000/\∀a∈r.pr,a.ok
 st:Jq r.st
theorem Sl.OA {α:Type} {R:Rel α} {size:Nat} {w:World} {B n:Nat} {A:Option Addr} {l:List α} (h:Sl R size w B A n l) {a:α} (ha:a∈l):∃cs,R w B cs a:=by
 obtain⟨i,hi,rfl⟩:=List.mem_iff_getElem.1 ha;obtain⟨ad,cs,_,_,_,_,hr⟩:=h.2 i l[i] (List.getElem?_eq_getElem hi);exact⟨cs,hr⟩
theorem VZ {w:World} {s:dP} {B n1 n2:Nat} {A1 A2:Option Addr} (o1:s.r.ok) (o2:s.f.ok) (o3:s.c.ok) (h1:tY s.h) (h2:uK s.p) (i1:Sl aQ 2 w B A1 n1 s.h) (i2:Sl aP 8 w B A2 n2 s.p):Jq s:=
 ⟨o1,o2,o3,h1,h2,fun h hh=>by
  obtain⟨cs,v,_,_,A,n,c,_,_,_,hs⟩:=i1.OA hh;exact Sl.oO hs,fun p hp=>by
  obtain⟨cs,u,v,_,a1,a2,_,A,n,c,_,_,_,hs⟩:=i2.OA hp;exact⟨a1,a2,Sl.oO hs⟩⟩
theorem agm {w:World} {r:Rc} {h:aV} (ok:r.ok) (i:dO w r h) (sm:iR r h):EF r:=
 ⟨ok,by rw[i.rd.1];exact sm.a,⟨by rw[i.wr.1];exact sm.b,Sl.oO i.wr⟩,⟨by rw[i.ps.1];exact sm.c,Sl.oO i.ps⟩,⟨by rw[i.pr.1];exact sm.d,Sl.oO i.pr⟩,VZ ok.rg ok.fl ok.cl sm.h sm.p i.hs i.pn⟩
theorem EG {s:Sp} (h:s.zero=true):s=iq:=by
 unfold Sp.zero at h;simp only[Bool.and_eq_true,beq_iff_eq]at h;obtain⟨a,b,c⟩:=s;obtain⟨⟨rfl,rfl⟩,rfl⟩:=h;rfl
theorem lz {α:Type} {l:List α} (h:((l.length:Int)==0)=true):l=[]:=by
 have:(l.length:Int)=0:=by simpa using h
 exact List.length_eq_zero_iff.1 byOmega
theorem V3 {s:dP} (h:s.eH=true):s=nY:=by
 unfold dP.eH at h;simp only[Bool.and_eq_true,beq_iff_eq]at h;obtain⟨⟨a,b,c,d⟩,f,q,hs,ps⟩:=s;obtain⟨⟨⟨⟨⟨⟨⟨h1,h2⟩,h3⟩,h4⟩,h5⟩,h6⟩,h7⟩,h8⟩:=h;simp only at h1 h2 h3 h4 h5 h6 h7 h8;obtain rfl:=EG h5;obtain rfl:=EG h6;obtain rfl:=lz (l:=hs) (by simpa using h7);obtain rfl:=lz (l:=ps) (by simpa using h8);have h3':c=0:=byOmega;have h4':d=0:=byOmega;subst h1 h2 h3' h4';rfl
theorem ptz {n:Nat} (h:((n:Int)==0)=true):n=0:=by
 have:(n:Int)=0:=by simpa using h
 omega
theorem zK {n:Nat} (h:n<=5000000):n<=1000000000000:=byOmega
theorem agn {r:Rc} (h:r.eH=true):r.t=sQ/\r.s=iq/\r.pv=iq/\r.cm=false/\r.n=0/\r.pt=0/\r.rd=[]/\r.wr=[]/\r.ps=[]/\r.pr=[]/\r.st=nY:=by
 unfold Rc.eH at h;simp only[Bool.and_eq_true,decide_eq_true_eq,Bool.not_eq_true']at h;obtain⟨⟨⟨⟨⟨⟨⟨⟨⟨⟨h1,h2⟩,h3⟩,h4⟩,h5⟩,h6⟩,h7⟩,h8⟩,h9⟩,h10⟩,h11⟩:=h;exact⟨h1,EG h2,EG h3,h4,by simpa using h5,ptz h6,lz h7,lz h8,lz h9,lz h10,V3 h11⟩
def RF.cp:RF->Rc->Rc->Rc
 | .k,m,x=>{x with k:=m.k}
 | .t,m,x=>{x with t:=m.t}
 | .s,m,x=>{x with s:=m.s}
 | .pv,m,x=>{x with pv:=m.pv}
 | .cm,m,x=>{x with cm:=m.cm}
 | .n,m,x=>{x with n:=m.n}
 | .pt,m,x=>{x with pt:=m.pt}
 | .wr,m,x=>{x with wr:=m.wr}
 | .ps,m,x=>{x with ps:=m.ps}
 | .pr,m,x=>{x with pr:=m.pr}
 | .st,m,x=>{x with st:=m.st}
 | .pn,m,x=>{x with t:=m.t,s:=m.s,rd:=m.rd,wr:=m.wr}
def RF.Q:RF->Rc->Prop
 | .k,m=>bG m.k
 | .t,m=>m.t.ok
 | .s,m=>m.s.ok
 | .pv,m=>m.pv.ok
 | .cm,m=>True
 | .n,m=>bG m.n
 | .pt,m=>Ej m.pt
 | .wr,m=>lN Ce m.wr
 | .ps,m=>lN bG m.ps
 | .pr,m=>lN Ce m.pr
 | .st,m=>Jl m.st
 | .pn,m=>Jk ⟨m.t,m.s,m.rd,m.wr⟩
theorem RF.back:Oy RF.rd RF.en RF.cp RF.Q:=fun d m x pre r h=>match d,h with
 | .k,h=>by simp only[RF.rd,RF.en,RF.cp];exact jA qy h
 | .t,h=>by simp only[RF.rd,RF.en,RF.cp];exact jA Nw h
 | .s,h=>by simp only[RF.rd,RF.en,RF.cp];exact jA zy h
 | .pv,h=>by simp only[RF.rd,RF.en,RF.cp];exact jA zy h
 | .cm,h=>by simp only[RF.rd,RF.en,RF.cp];exact jA Uo h
 | .n,h=>by simp only[RF.rd,RF.en,RF.cp];exact jA qy h
 | .pt,h=>by simp only[RF.rd,RF.en,RF.cp];exact jA Jj h
 | .wr,h=>by simp only[RF.rd,RF.en,RF.cp];exact jA (uz Jm Jo) h
 | .ps,h=>by simp only[RF.rd,RF.en,RF.cp];exact jA (uz qy Ap) h
 | .pr,h=>by simp only[RF.rd,RF.en,RF.cp];exact jA (uz Jm Jo) h
 | .st,h=>by simp only[RF.rd,RF.en,RF.cp];exact jA Uw h
 | .pn,h=>by simp only[RF.rd,RF.en,RF.cp];exact jA (a:=(⟨m.t,m.s,m.rd,m.wr⟩:Pn)) Ut (show Jk ⟨m.t,m.s,m.rd,m.wr⟩ from h)
theorem agp {r:Rc} (hm:lq r=0) (ok:EF r):JK RF.Q r (uU r.k)/\G7 RF.cp r (.k::uU r.k) ql=r:=by
 have hk:gy r.k=true:=by
  cases hq:gy r.k
  · unfold lq at hm;rw[hq]at hm;cases hm
  · rfl
 have hz:(wipe r).eH=true:=by
  cases hq:(wipe r).eH
  · unfold lq at hm;rw[hk,hq]at hm;cases hm
  · rfl
 have hf:fieldsB r=true:=by
  cases hq:fieldsB r
  · unfold lq at hm;rw[hk,hz,hq]at hm;cases hm
  · rfl
 clear hm;obtain⟨k,t,s,pv,cm,n,pt,rd,wr,ps,pr,st⟩:=r;obtain⟨q1,q2,q3,q4,q5,q6,q7,q8,q9,q10,q11⟩:=agn hz;have h12:k=1∨k=2∨k=3∨k=4∨k=5∨k=6∨k=7∨k=8∨k=9∨k=10∨k=11∨k=12:=by
  unfold gy at hk;rw[decide_eq_true_eq]at hk;simp only at hk;omega
 clear hz hk;rcases h12 with rfl|rfl|rfl|rfl|rfl|rfl|rfl|rfl|rfl|rfl|rfl|rfl
 all_goals
  try (have z:t=sQ:=q1;subst z)
  try (have z:s=iq:=q2;subst z)
  try (have z:pv=iq:=q3;subst z)
  try (have z:cm=false:=q4;subst z)
  try (have z:n=0:=q5;subst z)
  try (have z:pt=0:=q6;subst z)
  try (have z:rd=[]:=q7;subst z)
  try (have z:wr=[]:=q8;subst z)
  try (have z:ps=[]:=q9;subst z)
  try (have z:pr=[]:=q10;subst z)
  try (have z:st=nY:=q11;subst z)
  clear q1 q2 q3 q4 q5 q6 q7 q8 q9 q10 q11
 · have hf':dV st=true:=hf;exact⟨⟨Ux hf' ok.st,trivial⟩,rfl⟩
 · exact⟨⟨ok.ok.n,trivial⟩,rfl⟩
 · have hf':((dw ⟨t,s,rd,wr⟩==0)&&dQ ps)=true:=hf;simp only[Bool.and_eq_true,beq_iff_eq]at hf';obtain⟨a1,a2⟩:=Jp hf'.1;exact⟨⟨⟨ok.ok.t,ok.ok.s,⟨zK ok.rd,a1⟩,⟨zK ok.wr.1,fun a ha=>⟨(a2 a ha).1,(ok.wr.2 a ha).2,(a2 a ha).2⟩⟩⟩,⟨zK ok.ps.1,ok.ps.2⟩,trivial⟩,rfl⟩
 · exact⟨⟨ok.ok.t,trivial,ok.ok.s,trivial⟩,rfl⟩
 · exact⟨⟨ok.ok.s,trivial⟩,rfl⟩
 · have hf':((uH pt==0)&&ku (mV pt) 0&&jS (mV pt) 4607182418800017408&&rP n&&s.may)=true:=hf;simp only[Bool.and_eq_true,beq_iff_eq]at hf';have hpt:Ej pt:=by
    have h2:=hf'.1.1.1.2;unfold mV at h2;split at h2
    · rename_i hp;unfold lF at hp;exact F7 (by simpa using hp)
    · exact absurd h2 (by decide)
   exact⟨⟨hpt,ok.ok.n,ok.ok.s,trivial⟩,rfl⟩
 · exact⟨⟨ok.ok.n,trivial⟩,rfl⟩
 · exact⟨⟨ok.ok.n,trivial⟩,rfl⟩
 · exact⟨⟨ok.ok.t,ok.ok.s,⟨zK ok.ps.1,ok.ps.2⟩,trivial⟩,rfl⟩
 · exact⟨⟨ok.ok.t,trivial⟩,rfl⟩
 · have hf':qp pv s t wr=true:=hf;unfold qp at hf';simp only[Bool.and_eq_true,beq_iff_eq]at hf';obtain⟨a1,a2⟩:=Jp hf'.2;exact⟨⟨ok.ok.pv,ok.ok.s,ok.ok.t,⟨zK ok.wr.1,fun a ha=>⟨(a2 a ha).1,(ok.wr.2 a ha).2,(a2 a ha).2⟩⟩,trivial⟩,rfl⟩
 · have hf':(s.may&&pF pr)=true:=hf;simp only[Bool.and_eq_true]at hf';have a2:=ad6 _ _ hf'.2;exact⟨⟨ok.ok.s,⟨zK ok.pr.1,fun a ha=>⟨(a2 a ha).1,(ok.pr.2 a ha).2,(a2 a ha).2⟩⟩,trivial⟩,rfl⟩
theorem agq {r:Rc} (hm:lq r=0) (ok:EF r) (x:List UInt8):lZ (bC r++x) ⟨0,0,0⟩=(r,⟨(bC r).length,0,0⟩):=by
 obtain⟨h1,h2⟩:=agp hm ok;have e:=Oz RF.back r (.k::uU r.k) ql [] x ⟨ok.ok.k,h1⟩;rw[<-Uk,List.nil_append,h2]at e;have hi:(aS (bC r++x) ⟨0,0,0⟩).1=r.k:=by
  have:=qy r.k [] (gu r++x) ok.ok.k;rw[List.nil_append,<-List.append_assoc]at this;show (aS (encI r.k++gu r++x) _).1=_;rw[show (⟨0,0,0⟩:RS)=⟨([]:List UInt8).length,0,0⟩ from rfl,this]
 show dL RF.rd (.k::uU (aS _ _).1) ql _ _=_;rw[hi];refine e.trans ?_;rw[List.length_nil,Nat.zero_add]
theorem V4 {r:Rc} (h:gU r=0):lq r=0/\(bC r).length<=262144/\fM r=bC r:=by
 have h0:=h;unfold gU at h;split at h
 · rename_i hm;split at h
   · omega
   · exact⟨hm,byOmega,by unfold fM;rw[if_pos h0]⟩
 · rename_i hm;exact absurd h hm
theorem agr {r:Rc} (h:gU r=0) (ok:EF r):sW (bC r)=0/\rQ (bC r)=r:=by
 obtain⟨hm,hl,ho⟩:=V4 h;have hr:=agq hm ok [];rw[List.append_nil]at hr;have he:sW (bC r)=0:=by
  unfold sW;rw[hr,if_neg byOmega,if_neg aA,if_neg,if_neg (by simp[h]),if_neg (by simp[ho])];unfold lY;rw[if_neg aA];simp
 refine⟨he,?_⟩;unfold rQ;rw[if_pos he,hr]
def JL (a:Sn):Prop:=(qN a.key/\F5 a.v)/\a.s.ok
theorem ags:Back (eu iF je Prod.mk) (fun a=>bn a.1++eY a.2) fun a=>qN a.1/\F5 a.2:=Em.two Ny (fun _ _=>rfl) fun c h=>⟨c.1,c.2,rfl,h.1,h.2⟩
theorem agt:Back yD iL JL:=ags.two zy (fun a b=>by
 show bn a.1++(eY a.2++aU b)=(bn a.1++eY a.2)++aU b;rw[List.append_assoc]) fun c h=>⟨(c.key,c.v),c.s,rfl,h.1,h.2⟩
theorem agu (a:Sn):1<=(iL a).length:=zA (FZ _)
theorem agv (a:Rg):1<=(dU a).length:=zA (Ap _)
def OB (r:Rc):Prop:=gU r=0/\EF r
theorem agw (r:Rc):1<=(iM r).length:=zA (Ap _)
theorem agx:Back qX iM OB:=fun r pre x h=>by
 obtain⟨hm,hl,ho⟩:=V4 h.1;obtain⟨h1,h2⟩:=agr h.1 h.2;have e:=Em ⟨(bC r).toArray⟩ pre x (by show ((bC r).toArray.size:Int)<=_;rw[List.size_toArray];omega);have ee:iM r=bn ⟨(bC r).toArray⟩:=by
  show jX (fM r)=jX (bC r).toArray.toList;rw[ho]
 rw[<-ee]at e;have e1:(dZ (pre++(iM r++x)) ⟨pre.length,0,0⟩ 262144).1=bC r:=by
  have:=congrArg (fun y:ByteArray×RS=>y.1.data.toList) e;simpa [iF,sG] using this
 have e2:(dZ (pre++(iM r++x)) ⟨pre.length,0,0⟩ 262144).2=⟨pre.length+(iM r).length,0,0⟩:=congrArg Prod.snd e;unfold qX;rw[e1,e2,h1,h2,if_neg aA,if_neg aA]
def MF.cp:MF->Mg->Mg->Mg
 | .k,m,x=>{x with k:=m.k}
 | .fr,m,x=>{x with fr:=m.fr}
 | .aG,m,x=>{x with aG:=m.aG}
 | .t,m,x=>{x with t:=m.t}
 | .rg,m,x=>{x with rg:=m.rg}
 | .ep,m,x=>{x with ep:=m.ep}
 | .cd,m,x=>{x with cd:=m.cd}
 | .s,m,x=>{x with s:=m.s}
 | .pv,m,x=>{x with pv:=m.pv}
 | .cm,m,x=>{x with cm:=m.cm}
 | .n,m,x=>{x with n:=m.n}
 | .mx,m,x=>{x with mx:=m.mx}
 | .ks,m,x=>{x with ks:=m.ks}
 | .sn,m,x=>{x with sn:=m.sn}
 | .ws,m,x=>{x with ws:=m.ws}
 | .ps,m,x=>{x with ps:=m.ps}
 | .rs,m,x=>{x with rs:=m.rs}
 | .rc,m,x=>{x with rc:=m.rc}
 | .st,m,x=>{x with st:=m.st}
def MF.Q:MF->Mg->Prop
 | .k,m=>bG m.k
 | .fr,m=>bG m.fr
 | .aG,m=>bG m.aG
 | .t,m=>m.t.ok
 | .rg,m=>bG m.rg
 | .ep,m=>bG m.ep
 | .cd,m=>bG m.cd
 | .s,m=>m.s.ok
 | .pv,m=>m.pv.ok
 | .cm,m=>True
 | .n,m=>bG m.n
 | .mx,m=>bG m.mx
 | .ks,m=>lN qN m.ks
 | .sn,m=>lN JL m.sn
 | .ws,m=>lN Ce m.ws
 | .ps,m=>lN bG m.ps
 | .rs,m=>lN Aq m.rs
 | .rc,m=>lN OB m.rc
 | .st,m=>Jl m.st
theorem MF.back:Oy MF.rd MF.en MF.cp MF.Q:=fun d m x pre r h=>match d,h with
 | .k,h=>by simp only[MF.rd,MF.en,MF.cp];exact jA qy h
 | .fr,h=>by simp only[MF.rd,MF.en,MF.cp];exact jA qy h
 | .aG,h=>by simp only[MF.rd,MF.en,MF.cp];exact jA qy h
 | .t,h=>by simp only[MF.rd,MF.en,MF.cp];exact jA Nw h
 | .rg,h=>by simp only[MF.rd,MF.en,MF.cp];exact jA qy h
 | .ep,h=>by simp only[MF.rd,MF.en,MF.cp];exact jA qy h
 | .cd,h=>by simp only[MF.rd,MF.en,MF.cp];exact jA qy h
 | .s,h=>by simp only[MF.rd,MF.en,MF.cp];exact jA zy h
 | .pv,h=>by simp only[MF.rd,MF.en,MF.cp];exact jA zy h
 | .cm,h=>by simp only[MF.rd,MF.en,MF.cp];exact jA Uo h
 | .n,h=>by simp only[MF.rd,MF.en,MF.cp];exact jA qy h
 | .mx,h=>by simp only[MF.rd,MF.en,MF.cp];exact jA qy h
 | .ks,h=>by simp only[MF.rd,MF.en,MF.cp];exact jA (uz Em FZ) h
 | .sn,h=>by simp only[MF.rd,MF.en,MF.cp];exact jA (uz agt agu) h
 | .ws,h=>by simp only[MF.rd,MF.en,MF.cp];exact jA (uz Jm Jo) h
 | .ps,h=>by simp only[MF.rd,MF.en,MF.cp];exact jA (uz qy Ap) h
 | .rs,h=>by simp only[MF.rd,MF.en,MF.cp];exact jA (uz Uu agv) h
 | .rc,h=>by simp only[MF.rd,MF.en,MF.cp];exact jA (uz agx agw) h
 | .st,h=>by simp only[MF.rd,MF.en,MF.cp];exact jA Uw h
structure CS (m:Mg):Prop where
 ok:m.ok
 ks:m.ks.length<=5000000
 sn:m.sn.length<=5000000/\∀a∈m.sn,a.ok
 ws:m.ws.length<=5000000/\∀a∈m.ws,a.ok
 ps:m.ps.length<=5000000/\∀a∈m.ps,bG a
 rs:m.rs.length<=5000000/\∀a∈m.rs,a.ok
 rc:m.rc.length<=5000000/\∀a∈m.rc,EF a
 st:Jq m.st
theorem V5 {w:World} {m:Mg} {h:Hm} (ok:m.ok) (i:bH w w.heap.size m h) (sm:iV m h) (pl:∀r∈m.rc,jo r):CS m:=
 ⟨ok,by rw[i.ks.1];exact sm.a,⟨by rw[i.sn.1];exact sm.b,Sl.oO i.sn⟩,⟨by rw[i.ws.1];exact sm.c,Sl.oO i.ws⟩,⟨by rw[i.ps.1];exact sm.d,Sl.oO i.ps⟩,⟨by rw[i.rs.1];exact sm.e,Sl.oO i.rs⟩,
  ⟨by rw[i.rc.1];exact sm.f,fun r hr=>by
   obtain⟨cs,h,_,wB,_,lo⟩:=i.rc.OA hr;exact agm wB lo.into ((pl r hr).sm lo)⟩,VZ ok.sr ok.sf ok.sc sm.hs sm.pn i.hs i.pn⟩
theorem agy {m:Mg} (h:m.eH=true):m.t=sQ/\m.rg=0/\m.ep=0/\m.cd=0/\m.s=iq/\m.pv=iq/\m.cm=false/\m.n=0/\m.mx=0/\m.ks=[]/\m.sn=[]/\m.ws=[]/\m.ps=[]/\m.rs=[]/\m.rc=[]/\m.st=nY:=by
 unfold Mg.eH Mg.Ea Mg.BL at h;simp only[Bool.and_eq_true,decide_eq_true_eq,Bool.not_eq_true',beq_iff_eq]at h;obtain⟨⟨⟨⟨⟨⟨⟨⟨⟨⟨h1,h2⟩,h3⟩,h4⟩,h5⟩,h6⟩,h7⟩,h8⟩,h9⟩,h10⟩,h11⟩:=h;exact⟨h1,h2,h3,h4,EG h5,EG h6,h7,h8,h9,List.length_eq_zero_iff.1 byOmega,List.length_eq_zero_iff.1 byOmega,List.length_eq_zero_iff.1 byOmega,List.length_eq_zero_iff.1 byOmega,List.length_eq_zero_iff.1 byOmega,List.length_eq_zero_iff.1 byOmega,V3 h10⟩
theorem V6 {l:List Sn} (h:iJ l=true) (ok:l.length<=5000000/\∀a∈l,a.ok):lN JL l:=by
 unfold iJ at h;simp only[Bool.and_eq_true,List.all_eq_true]at h;refine⟨by have:=ok.1;omega,fun a ha=>?_⟩;have h1:=h.1 a ha;unfold zk at h1;simp only[Bool.and_eq_true]at h1;have hr:=h.2;unfold cu at hr;simp only[Bool.and_eq_true]at hr;exact⟨⟨F6 _ _ hr.1 _ (List.mem_map_of_mem ha),(ok.2 a ha).2.1,h1.1.2⟩,(ok.2 a ha).2.2⟩
theorem agz {l:List Wt} (h:um l=true) (ok:l.length<=5000000/\∀a∈l,a.ok):lN Ce l:=by
 unfold um at h;simp only[Bool.and_eq_true,List.all_eq_true]at h;have hr:=h.2;unfold cu at hr;simp only[Bool.and_eq_true]at hr;exact⟨by have:=ok.1;omega,fun a ha=>⟨F6 _ _ hr.1 _ (List.mem_map_of_mem ha),(ok.2 a ha).2,h.1 a ha⟩⟩
theorem agA {l:List ByteArray} (h:cu l=true) (ok:l.length<=5000000):lN qN l:=by
 unfold cu at h;simp only[Bool.and_eq_true]at h;exact⟨byOmega,F6 _ _ h.1⟩
theorem agB {l:List Rg} (h:jI l=true) (ok:l.length<=5000000/\∀a∈l,a.ok):lN Aq l:=by
 unfold jI at h;simp only[Bool.and_eq_true,List.all_eq_true]at h;refine⟨by have:=ok.1;omega,fun a ha=>?_⟩;have hp:=PY (h.1 a ha);exact⟨(ok.2 a ha).1,(ok.2 a ha).2.1,F7 byOmega,F7 byOmega⟩
theorem V7 {c:Int} {f:Bool} {l:List Rg} (h:lV c f l=true) (ok:l.length<=5000000/\∀a∈l,a.ok):lN Aq l/\(c=0->f=true):=by
 unfold lV at h;split at h
 · simp only[Bool.and_eq_true,decide_eq_true_eq]at h;obtain rfl:=List.length_eq_zero_iff.1 h.2;exact⟨⟨Nat.zero_le _,fun a ha=>by cases ha⟩,fun _=>h.1⟩
 · rename_i hc;simp only[Bool.and_eq_true,decide_eq_true_eq]at h;exact⟨agB h.2 ok,fun e=>absurd e hc⟩
theorem agC {m:Mg} (hm:lD m=0) (ok:CS m):JK MF.Q m (uG m.k)/\G7 MF.cp m (.k:: .fr:: .aG::uG m.k) wF=m:=by
 have hk:iK m.k=true:=by
  cases hq:iK m.k
  · unfold lD at hm;rw[hq]at hm;cases hm
  · rfl
 have hb:(nZ m.fr&&nZ m.aG&&(fE m).eH&&xC m)=true:=by
  cases hq:(nZ m.fr&&nZ m.aG&&(fE m).eH&&xC m)
  · unfold lD at hm;rw[hk,hq]at hm;cases hm
  · rfl
 simp only[Bool.and_eq_true]at hb;obtain⟨⟨-,hz⟩,hf⟩:=hb;clear hm;obtain⟨k,fr,aG,t,rg,ep,cd,s,pv,cm,n,mx,ks,sn,ws,ps,rs,rc,st⟩:=m;obtain⟨q1,q2,q3,q4,q5,q6,q7,q8,q9,q10,q11,q12,q13,V8,V9,q16⟩:=agy hz;have vF:k=1∨k=2∨k=3∨k=4∨k=5∨k=6∨k=7∨k=8∨k=9∨k=10∨k=11∨k=12∨k=13∨k=14:=by
  unfold iK at hk;rw[decide_eq_true_eq]at hk;simp only at hk;omega
 clear hz hk;rcases vF with rfl|rfl|rfl|rfl|rfl|rfl|rfl|rfl|rfl|rfl|rfl|rfl|rfl|rfl
 all_goals
  try (have z:t=sQ:=q1;subst z)
  try (have z:rg=0:=q2;subst z)
  try (have z:ep=0:=q3;subst z)
  try (have z:cd=0:=q4;subst z)
  try (have z:s=iq:=q5;subst z)
  try (have z:pv=iq:=q6;subst z)
  try (have z:cm=false:=q7;subst z)
  try (have z:n=0:=q8;subst z)
  try (have z:mx=0:=q9;subst z)
  try (have z:ks=[]:=q10;subst z)
  try (have z:sn=[]:=q11;subst z)
  try (have z:ws=[]:=q12;subst z)
  try (have z:ps=[]:=q13;subst z)
  try (have z:rs=[]:=V8;subst z)
  try (have z:rc=[]:=V9;subst z)
  try (have z:st=nY:=q16;subst z)
  clear q1 q2 q3 q4 q5 q6 q7 q8 q9 q10 q11 q12 q13 V8 V9 q16
 · have hf0:(t.may&&bY rg&&(decide (0<=ep)&&s.may&&cu ks&&decide (0<ks.length)))=true:=hf;rw[Bool.and_eq_true]at hf0;have hf':=hf0.2;simp only[Bool.and_eq_true]at hf';have g1:=agA hf'.1.2 ok.ks;exact⟨⟨ok.ok.t,ok.ok.rg,ok.ok.ep,ok.ok.s,g1,trivial⟩,rfl⟩
 · have hf0:(t.may&&bY rg&&(lV cd (iJ sn&&decide (0<sn.length)) rs&&s.may&&(cd==0||decide (sn.length=0))))=true:=hf;rw[Bool.and_eq_true]at hf0;have hf':=hf0.2;simp only[Bool.and_eq_true]at hf';obtain⟨g5,gs⟩:=V7 hf'.1.1 ok.rs;have g2:lN JL sn:=by
    by_cases hc:cd=0
    · have:=gs hc;simp only[Bool.and_eq_true]at this;exact V6 this.1 ok.sn
    · have h2:=hf'.2;simp[hc]at h2;subst h2;exact⟨Nat.zero_le _,fun a ha=>by cases ha⟩
   exact⟨⟨ok.ok.t,ok.ok.rg,ok.ok.cd,ok.ok.s,g2,g5,trivial⟩,rfl⟩
 · have hf0:(t.may&&bY rg&&(decide (0<=ep)&&s.may&&iJ sn&&um ws&&dQ ps&&rG rg ps))=true:=hf;rw[Bool.and_eq_true]at hf0;have hf':=hf0.2;simp only[Bool.and_eq_true]at hf';have g2:=V6 hf'.1.1.1.2 ok.sn;have g3:=agz hf'.1.1.2 ok.ws;exact⟨⟨ok.ok.t,ok.ok.rg,ok.ok.ep,ok.ok.s,g2,g3,⟨zK ok.ps.1,ok.ps.2⟩,trivial⟩,rfl⟩
 · have hf0:(t.may&&bY rg&&(lV cd true rs&&s.may))=true:=hf;rw[Bool.and_eq_true]at hf0;have hf':=hf0.2;simp only[Bool.and_eq_true]at hf';have g5:=(V7 hf'.1 ok.rs).1;exact⟨⟨ok.ok.t,ok.ok.rg,ok.ok.cd,ok.ok.s,g5,trivial⟩,rfl⟩
 · exact⟨⟨ok.ok.t,ok.ok.rg,trivial,ok.ok.s,trivial⟩,rfl⟩
 · exact⟨⟨ok.ok.t,ok.ok.rg,trivial⟩,rfl⟩
 · exact⟨⟨ok.ok.t,ok.ok.rg,trivial⟩,rfl⟩
 · exact⟨⟨ok.ok.rg,ok.ok.n,ok.ok.mx,ok.ok.s,trivial⟩,rfl⟩
 · have h9:(bY rg&&decide (1<=n)&&uF rc)=true:=hf;unfold uF at h9;simp only[Bool.and_eq_true,List.all_eq_true,beq_iff_eq]at h9;have g6:lN OB rc:=⟨zK ok.rc.1,fun r hr=>⟨h9.2.1 r hr,ok.rc.2 r hr⟩⟩;exact⟨⟨ok.ok.rg,ok.ok.n,g6,trivial⟩,rfl⟩
 · have h10:(bY rg&&dV st&&(st.r.id==rg))=true:=hf;simp only[Bool.and_eq_true]at h10;have g7:=Ux h10.1.2 ok.st;exact⟨⟨ok.ok.rg,g7,trivial⟩,rfl⟩
 · exact⟨⟨ok.ok.rg,trivial⟩,rfl⟩
 · have h12:qp pv s t ws=true:=hf;unfold qp at h12;simp only[Bool.and_eq_true,beq_iff_eq]at h12;obtain⟨a1,a2⟩:=Jp h12.2;have g3:lN Ce ws:=⟨zK ok.ws.1,fun a ha=>⟨(a2 a ha).1,(ok.ws.2 a ha).2,(a2 a ha).2⟩⟩;exact⟨⟨ok.ok.pv,ok.ok.s,ok.ok.t,g3,trivial⟩,rfl⟩
 · exact⟨trivial,rfl⟩
 · exact⟨⟨ok.ok.s,trivial⟩,rfl⟩
theorem JM {m:Mg} (hm:lD m=0) (ok:CS m) (x:List UInt8):mG (bT m++x) ⟨0,0,0⟩=(m,⟨(bT m).length,0,0⟩):=by
 obtain⟨h1,h2⟩:=agC hm ok;have e:=Oz MF.back m (.k:: .fr:: .aG::uG m.k) wF [] x ⟨ok.ok.k,ok.ok.fr,ok.ok.aG,h1⟩;rw[<-VX,List.nil_append,h2]at e;have hi:(aS (bT m++x) ⟨0,0,0⟩).1=m.k:=by
  have:=qy m.k [] ((encI m.fr++(encI m.aG++iZ m))++x) ok.ok.k;rw[List.nil_append,<-List.append_assoc]at this;show (aS (encI m.k++(encI m.fr++(encI m.aG++iZ m))++x) _).1=_;rw[show (⟨0,0,0⟩:RS)=⟨([]:List UInt8).length,0,0⟩ from rfl,this]
 show dL MF.rd (.k:: .fr:: .aG::uG (aS _ _).1) wF _ _=_;rw[hi];refine e.trans ?_;rw[List.length_nil,Nat.zero_add]
end Go.Proofs.YtcalkfgibflbnaaGreat
namespace Go.Proofs.YtcalkfgibflbnaaGreat
set_option maxHeartbeats 6000000
set_option maxRecDepth 100000
set_option linter.unusedVariables false
open Go.RowKit Fl
attribute [local go_sem] dJ
theorem gI.mn:(gI).ji:=Flat.mono _ _
theorem gX.mn:(gX).ji:=Flat.mono _ _
theorem eX.mn:(eX).ji:=fun w w' B cs r ⟨h,e,o,c,i⟩ hk=>⟨h,e,o,c,i.mn hk⟩
theorem agD:(Tryz.prog.info? 104).map (fun i=>(i.zero,i.size,i.bytes))=some (some (.agg #[.string ⟨#[]⟩,.int .i64 0,.float .f64 0,.string ⟨#[]⟩,.int .i64 0,.int .i64 0,.int .i64 0]),7,72):=ah
theorem agE:(Tryz.prog.info? 35).map (fun i=>(i.zero,i.size,i.bytes))=some (some (.agg #[.int .i64 0,.int .i64 0,.float .f64 0,.float .f64 0]),4,32):=ah
theorem agF:rJ 134 gI 7 ([.string ⟨#[]⟩]++([.int .i64 0,.float .f64 0,.string ⟨#[]⟩]++([.int .i64 0,.int .i64 0,.int .i64 0]))) yD:=by
 intro w g A n c l s gc b t cs i h hs D;have gl:=h.rd.blk.lt;have bl:=D.blk.lt;go_enter Tryz.func134,Tryz.ntmps134;go_wp2_with fail;refine(DV w g A n c l s gc b t cs i h hs D.fst).mono ?_;rintro e w1 ⟨h1,t1,⟨e1,rfl,v1,l1,k1,n1⟩|⟨e1,rfl,cs1,l1,k1⟩⟩
 rotate_left
 · go_wp2;exact⟨rfl,dW.bad (s':=(iF l s).2) ((kX (mk:=fun _ _=>()) Bq qH) l _ e1) e1 h1 t1 l1 k1⟩
 have D1:=D.oG k1 l1 rfl (i+1) rfl;clear k1;go_wp2_with fail;refine(IE w1 g A n c l (iF l s).2 gc b t _ (i+1) h1 e1 D1.fst).mono ?_;rintro e w2 ⟨h2,t2,⟨e2,rfl,v2,l2,k2,n2⟩|⟨e2,rfl,cs2,l2,k2⟩⟩
 rotate_left
 · go_wp2;exact⟨rfl,dW.bad (s':=(je l (iF l s).2).2) (qH l _ e2) e2 h2 (t1.trans t2) (l2.trans (fV _ _ _)) k2⟩
 have D2:=D1.oG k2 l2 rfl (i+4) byOmega;clear k2;go_wp2_with fail;refine(nX w2 g A n c l (je l (iF l s).2).2 gc b t _ (i+4) h2 e2 D2).mono ?_;rintro e w3 ⟨h3,t3,⟨e3,rfl,v3,l3,k3,n3⟩|⟨e3,rfl,FH,l3,k3⟩⟩
 rotate_left
 · go_wp2;exact⟨rfl,dW.bad (s':=(dY l (je l (iF l s).2).2).2) rfl e3 h3 ((t1.trans t2).trans t3) (l3.trans ((fV _ _ _).trans (fV _ _ _))) k3⟩
 go_wp2
 go_end0
 refine⟨h3,((t1.trans t2).trans t3),.inl ⟨e3,rfl,v1++(v2++(v3)),by simp only[aK,l1,l2,l3],?_,?_⟩⟩
 · rw[nV,l1,nV,l2];exact k3
 · obtain⟨rfl,o1⟩:=n1;obtain⟨rfl,o2⟩:=n2;obtain⟨rfl,o3⟩:=n3;exact⟨rfl,o1,o2,o3⟩
theorem Wh:yg 133 134 gI 7 yD:=by
 obtain⟨i0,hi0,hz0,hz1,hz2⟩:=info_parts agD;intro w g A n c l s gc b t cs i h hs D;have fx:=h.fix D;have hib:i<cs.size:=(Array.getElem?_eq_some_iff.1 (D.has 0 _ rfl)).1;have c0:=cl (h.blk.cell 0);have c1:=cl (h.blk.cell 1);have z0:w.cell? ⟨b,i,none⟩=some (.slice none 0 0):=D.at0 rfl;have hL:=xZ g A n c l s w.drew (h.below (aC).drew).rd;have hC:=fun q=>xY g A n c l s (bI l s:Int) (w.drewN q) (h.below (bD q)).rd
 have hkn:=wW l s (bI l s:Int) 3;have hsm:=h.rd.small;have hlf:bI l s<=n:=by rw[<-h.rd.len];unfold bI;split<;>omega
 have HR:=au (show dn yD l s=iG yD l (aX l s (bI l s:Int) 3).1.toNat (aX l s (bI l s:Int) 3).2 from rfl);have HH:=au h;generalize dn yD l s=res at*;generalize aX l s (bI l s:Int) 3=x at*;obtain⟨xn,s1⟩:=x;obtain⟨N,rfl⟩:∃N:Nat,xn=(N:Int):=⟨xn.toNat,by have:=hkn.2.1;omega⟩;have hN:N<=n:=by have:=hkn.2.2 byOmega;simp only at this;omega
 clear hkn hlf;go_enter Tryz.func133,Tryz.ntmps133;go_wp2_with fail
 go_region_held3 (fun w'=>w'.cell? ⟨gc,1,none⟩=some (.pointer (some ⟨g,0,none⟩)))
  (first|exact c1|exact c1')
  (first
    |((with_reducible refine hL.mono ?_);rintro e w1 ⟨rfl,q,rfl⟩)
    |((with_reducible refine(hC _).mono ?_);rintro e w2 ⟨rfl,hrd,hg⟩;have c1':w2.cell? ⟨gc,1,none⟩=some (.pointer (some ⟨g,0,none⟩)):=((h.below (bD _)).blk.grown hg (by intro e;exact h.ne (by injection e))).cell 1))
 have hg2:w.grownBy w2 (some g):=(below_grown (bD _) _).trans hg;have h2:CR w2 g A n c l s1 gc:=HH.out.read hrd hg2;have k2:aj w2 b t cs:=D.blk.grown hg2 (by intro e;exact D.ng (by injection e));have t2:aW w w2 g b:=aW.left hg2 b;clear hg hg2 hrd hL hC c1' c1 h c0 z0;go_wp2_with fail;refine(sN w2 g A n c l s1 gc h2).mono ?_;rintro e w3 ⟨⟨q3,rfl⟩,⟨he,rfl⟩|⟨he,rfl⟩⟩
 rotate_left
 · have hQ:Below w2.heap.size w2 (w2.drewN q3):=bD _;go_wp2;exact⟨rfl,dW.bad (s':=s1) (by rw[HR.out];exact congrArg Prod.snd (sJ _ _ _ _ he)) he (h2.below hQ) (t2.trans (aW.eU g b hQ)) rfl (k2.below hQ k2.lt)⟩
 have hQ:Below w2.heap.size w2 (w2.drewN q3):=bD _;have k3:=k2.below hQ k2.lt;have h3:=h2.below hQ;have t3:=t2.trans (aW.eU g b hQ);have z3:(w2.drewN q3).cell? ⟨b,i,none⟩=some (.slice none 0 0):=(k3.cell i).trans (D.has 0 _ rfl);have f3:=k3.frozen i;have hgs:=jJ (w2.drewN q3) b i (.slice none 0 0);have h4:=h3.laid hgs fx.ng fx.nc fx.ap;have t4:=t3.trans (aW.right hgs g);have k4:aj _ b t (put cs i [.slice none 0 0]):=k3.fB i (.slice none 0 0);have hst:=qj.start (R:=gI) (E:=104) (size:=7) (f:=yD) (N:=N) h4 he k4 t4;clear k3 h3 t3 hgs h4 t4 k4 k2 h2 t2 hQ D;go_wp2_with fail
 go_loopw [39] (fun iv wr=>yj gI 104 7 yD w g A n c l gc b t cs i N s1 iv wr) (fun iv _=>N-(intOf iv).toNat)
 case atStart=>exact⟨0,_,_,_,rfl,hst⟩
 case round=>
  clear hst z3 f3;obtain⟨k,L,sk,v,rfl,hI⟩:=hrel;by_cases hlt:k<N
  · have hd1:decide ((k:Int)<(N:Int))=true:=ay;have hk0:(0:Int)<=(k:Int):=byOmega;have hk1:(k:Int)<((k+1:Nat):Int):=byOmega;have d0:=cl (hI.cr.blk.cell 0);have y0:wr.cell? ⟨b,i,none⟩=some v:=(hI.blk.cell i).trans (ug [v] cs i 0 v rfl ay);have yF:=hI.blk.lt;have hlen:=hI.len;have hzz:=hI.two.size;obtain⟨Av,qv,rfl,ni,wV⟩:=Single.form hI.row;rw[hlen]at ni y0 hI;have HI:=au hI;have hX:Below wr.heap.size wr (((wr.alloc (.cells #[.string ⟨#[]⟩,.int .i64 0,.float .f64 0,.string ⟨#[]⟩,.int .i64 0,.int .i64 0,.int .i64 0] 104)).alloc (.cells #[.string ⟨#[]⟩,.int .i64 0,.float .f64 0,.string ⟨#[]⟩,.int .i64 0,.int .i64 0,.int .i64 0] 104)).drew):=(((aC).alloc (Nat.le_refl _) _).alloc aA _).drew;obtain⟨xs,hown0,hrd⟩:=hI.round gI.kept gI.mn fx hlt hib (z:=[.string ⟨#[]⟩,.int .i64 0,.float .f64 0,.string ⟨#[]⟩,.int .i64 0,.int .i64 0,.int .i64 0]) rfl hX;have pJ:=au hrd;have dF:=nK (wr.alloc (.cells #[.string ⟨#[]⟩,.int .i64 0,.float .f64 0,.string ⟨#[]⟩,.int .i64 0,.int .i64 0,.int .i64 0] 104)) 104 [.string ⟨#[]⟩,.int .i64 0,.float .f64 0,.string ⟨#[]⟩,.int .i64 0,.int .i64 0,.int .i64 0] 7 rfl;replace dF:=dF.drew;clear hrd hI;rw[hlen]at hown0;go_wp2
    go_region_law (refine wG _ rfl (.tmp 50) (.tmp 52) _ rfl w.heap.size 104 i0 _ 7 72 Tryz.underlying28 hi0 hz0 hz1 hz2 rfl byOmega (.slice Av k qv) _ xs (by simp[Act.eval]) hown0 _ (some ⟨(wr.alloc (.cells #[.string ⟨#[]⟩,.int .i64 0,.float .f64 0,.string ⟨#[]⟩,.int .i64 0,.int .i64 0,.int .i64 0] 104)).heap.size,0,none⟩) 1 1 [.string ⟨#[]⟩,.int .i64 0,.float .f64 0,.string ⟨#[]⟩,.int .i64 0,.int .i64 0,.int .i64 0] (by simp[Act.eval]) dF (by intro u hu;simp only[List.mem_cons,List.not_mem_nil,or_false]at hu;rcases hu with rfl|rfl|rfl|rfl|rfl|rfl|rfl<;>rfl) dX byOmega ay ?_;intro v' w5 hown5 hg5 pK;obtain⟨y5,f5,rb,cap,cur,rfl,y6,h6,D6,t6,hfin⟩:=pJ.out v' w5 (by rw[hlen];exact hown5) hg5 pK;have HF:=au hfin;clear hfin)
    all_goals
        go_wp2_with fail;refine(agF _ g A n c l sk gc rb _ cur (k*7) h6 HI.out.e D6).mono ?_;intro e w7 hP;rcases HF.out e w7 hP.m with ⟨rfl,pO⟩|⟨rfl,hB⟩
        · go_wp2_with fail;go_roundw
          case rel=>exact⟨k+1,_,_,_,by go_num,pO⟩
          case measure=>simp[intOf];omega
        · go_wp2;exact⟨rfl,by rw[HR.out];exact hB.post hP.1⟩
  · have hd1:decide ((k:Int)<(N:Int))=false:=ay;go_wp2_with fail
    go_end0
    rw[HR.out];exact hI.done gI.mn byOmega hlt
theorem Wi:yg 135 136 gX 4 kF:=by
 obtain⟨i0,hi0,hz0,hz1,hz2⟩:=info_parts agE;intro w g A n c l s gc b t cs i h hs D;have fx:=h.fix D;have hib:i<cs.size:=(Array.getElem?_eq_some_iff.1 (D.has 0 _ rfl)).1;have c0:=cl (h.blk.cell 0);have c1:=cl (h.blk.cell 1);have z0:w.cell? ⟨b,i,none⟩=some (.slice none 0 0):=D.at0 rfl;have hL:=xZ g A n c l s w.drew (h.below (aC).drew).rd;have hC:=fun q=>xY g A n c l s (bI l s:Int) (w.drewN q) (h.below (bD q)).rd
 have hkn:=wW l s (bI l s:Int) 3;have hsm:=h.rd.small;have hlf:bI l s<=n:=by rw[<-h.rd.len];unfold bI;split<;>omega
 have HR:=au (show dn kF l s=iG kF l (aX l s (bI l s:Int) 3).1.toNat (aX l s (bI l s:Int) 3).2 from rfl);have HH:=au h;generalize dn kF l s=res at*;generalize aX l s (bI l s:Int) 3=x at*;obtain⟨xn,s1⟩:=x;obtain⟨N,rfl⟩:∃N:Nat,xn=(N:Int):=⟨xn.toNat,by have:=hkn.2.1;omega⟩;have hN:N<=n:=by have:=hkn.2.2 byOmega;simp only at this;omega
 clear hkn hlf;go_enter Tryz.func135,Tryz.ntmps135;go_wp2_with fail
 go_region_held3 (fun w'=>w'.cell? ⟨gc,1,none⟩=some (.pointer (some ⟨g,0,none⟩)))
  (first|exact c1|exact c1')
  (first
    |((with_reducible refine hL.mono ?_);rintro e w1 ⟨rfl,q,rfl⟩)
    |((with_reducible refine(hC _).mono ?_);rintro e w2 ⟨rfl,hrd,hg⟩;have c1':w2.cell? ⟨gc,1,none⟩=some (.pointer (some ⟨g,0,none⟩)):=((h.below (bD _)).blk.grown hg (by intro e;exact h.ne (by injection e))).cell 1))
 have hg2:w.grownBy w2 (some g):=(below_grown (bD _) _).trans hg;have h2:CR w2 g A n c l s1 gc:=HH.out.read hrd hg2;have k2:aj w2 b t cs:=D.blk.grown hg2 (by intro e;exact D.ng (by injection e));have t2:aW w w2 g b:=aW.left hg2 b;clear hg hg2 hrd hL hC c1' c1 h c0 z0;go_wp2_with fail;refine(sN w2 g A n c l s1 gc h2).mono ?_;rintro e w3 ⟨⟨q3,rfl⟩,⟨he,rfl⟩|⟨he,rfl⟩⟩
 rotate_left
 · have hQ:Below w2.heap.size w2 (w2.drewN q3):=bD _;go_wp2;exact⟨rfl,dW.bad (s':=s1) (by rw[HR.out];exact congrArg Prod.snd (sJ _ _ _ _ he)) he (h2.below hQ) (t2.trans (aW.eU g b hQ)) rfl (k2.below hQ k2.lt)⟩
 have hQ:Below w2.heap.size w2 (w2.drewN q3):=bD _;have k3:=k2.below hQ k2.lt;have h3:=h2.below hQ;have t3:=t2.trans (aW.eU g b hQ);have z3:(w2.drewN q3).cell? ⟨b,i,none⟩=some (.slice none 0 0):=(k3.cell i).trans (D.has 0 _ rfl);have f3:=k3.frozen i;have hgs:=jJ (w2.drewN q3) b i (.slice none 0 0);have h4:=h3.laid hgs fx.ng fx.nc fx.ap;have t4:=t3.trans (aW.right hgs g);have k4:aj _ b t (put cs i [.slice none 0 0]):=k3.fB i (.slice none 0 0);have hst:=qj.start (R:=gX) (E:=35) (size:=4) (f:=kF) (N:=N) h4 he k4 t4;clear k3 h3 t3 hgs h4 t4 k4 k2 h2 t2 hQ D;go_wp2_with fail
 go_loopw [39] (fun iv wr=>yj gX 35 4 kF w g A n c l gc b t cs i N s1 iv wr) (fun iv _=>N-(intOf iv).toNat)
 case atStart=>exact⟨0,_,_,_,rfl,hst⟩
 case round=>
  clear hst z3 f3;obtain⟨k,L,sk,v,rfl,hI⟩:=hrel;by_cases hlt:k<N
  · have hd1:decide ((k:Int)<(N:Int))=true:=ay;have hk0:(0:Int)<=(k:Int):=byOmega;have hk1:(k:Int)<((k+1:Nat):Int):=byOmega;have d0:=cl (hI.cr.blk.cell 0);have y0:wr.cell? ⟨b,i,none⟩=some v:=(hI.blk.cell i).trans (ug [v] cs i 0 v rfl ay);have yF:=hI.blk.lt;have hlen:=hI.len;have hzz:=hI.two.size;obtain⟨Av,qv,rfl,ni,wV⟩:=Single.form hI.row;rw[hlen]at ni y0 hI;have HI:=au hI;have hX:Below wr.heap.size wr (((wr.alloc (.cells #[.int .i64 0,.int .i64 0,.float .f64 0,.float .f64 0] 35)).alloc (.cells #[.int .i64 0,.int .i64 0,.float .f64 0,.float .f64 0] 35)).drew):=(((aC).alloc (Nat.le_refl _) _).alloc aA _).drew;obtain⟨xs,hown0,hrd⟩:=hI.round gX.kept gX.mn fx hlt hib (z:=[.int .i64 0,.int .i64 0,.float .f64 0,.float .f64 0]) rfl hX;have pJ:=au hrd;have dF:=nK (wr.alloc (.cells #[.int .i64 0,.int .i64 0,.float .f64 0,.float .f64 0] 35)) 35 [.int .i64 0,.int .i64 0,.float .f64 0,.float .f64 0] 4 rfl;replace dF:=dF.drew;clear hrd hI;rw[hlen]at hown0;go_wp2
    go_region_law (refine wG _ rfl (.tmp 50) (.tmp 52) _ rfl w.heap.size 35 i0 _ 4 32 Tryz.underlying31 hi0 hz0 hz1 hz2 rfl byOmega (.slice Av k qv) _ xs (by simp[Act.eval]) hown0 _ (some ⟨(wr.alloc (.cells #[.int .i64 0,.int .i64 0,.float .f64 0,.float .f64 0] 35)).heap.size,0,none⟩) 1 1 [.int .i64 0,.int .i64 0,.float .f64 0,.float .f64 0] (by simp[Act.eval]) dF (by intro u hu;simp only[List.mem_cons,List.not_mem_nil,or_false]at hu;rcases hu with rfl|rfl|rfl|rfl<;>rfl) dX byOmega ay ?_;intro v' w5 hown5 hg5 pK;obtain⟨y5,f5,rb,cap,cur,rfl,y6,h6,D6,t6,hfin⟩:=pJ.out v' w5 (by rw[hlen];exact hown5) hg5 pK;have HF:=au hfin;clear hfin)
    all_goals
        go_wp2_with fail;refine(RJ _ g A n c l sk gc rb _ cur (k*4) h6 HI.out.e D6).mono ?_;intro e w7 hP;rcases HF.out e w7 hP.m with ⟨rfl,pO⟩|⟨rfl,hB⟩
        · go_wp2_with fail;go_roundw
          case rel=>exact⟨k+1,_,_,_,by go_num,pO⟩
          case measure=>simp[intOf];omega
        · go_wp2;exact⟨rfl,by rw[HR.out];exact hB.post hP.1⟩
  · have hd1:decide ((k:Int)<(N:Int))=false:=ay;go_wp2_with fail
    go_end0
    rw[HR.out];exact hI.done gX.mn byOmega hlt
