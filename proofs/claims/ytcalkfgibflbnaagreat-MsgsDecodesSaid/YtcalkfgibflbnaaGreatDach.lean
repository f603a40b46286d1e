/- A message read field by field: the fields that a kind names, what reading one does, the plain reading and its laws. -/
import Derived.Laws.IdiomStrings
import Derived.Test.YtcalkfgibflbnaaGreatDacg
namespace Go.Proofs.YtcalkfgibflbnaaGreat
set_option linter.unusedVariables false
open Go.RowKit Fl
abbrev zMg:Mg:=⟨0,0,0,zTx,0,0,0,zSp,zSp,false,0,0,[],[],[],[],[],[],zSt⟩
abbrev zHm:Hm:=⟨Hd.nil,Hd.nil,Hd.nil,Hd.nil,Hd.nil,Hd.nil,Hd.nil,Hd.nil⟩
theorem zMg_ok:zMg.ok:=⟨i64z,i64z,i64z,zTx_ok,i64z,i64z,i64z,zSp_ok,zSp_ok,i64z,i64z,zRg_ok,zSp_ok,zSp_ok⟩
def rSn:Rdf Sn:=rTwo (rTwo rKey rVl Prod.mk) rSp fun a s=>⟨a.1,a.2,s⟩
theorem rSn_enc:RdEnc rSn encSn:=rTwo_enc (rTwo_enc (rKy_enc' _) rVl_enc rVl_stk fun _ _=>rfl) rSp_enc rSp_stk fun a s=>by
 show encKy a.1++(encVl a.2++encSp s)=(encKy a.1++encVl a.2)++encSp s
 rw[List.append_assoc]
def rRm:Rdf Rc:=fun l s=>
 if (rText l s 262144).2.e≠0 then (zRc,(rText l s 262144).2) else
 if decE (rText l s 262144).1≠0 then (zRc,⟨(rText l s 262144).2.at_,4,0⟩) else (decR (rText l s 262144).1,(rText l s 262144).2)
theorem decE_ok {l:List UInt8} (h:decE l=0):encE (rRec l ⟨0,0,0⟩).1=0∧encOut (rRec l ⟨0,0,0⟩).1=l∧decR l=(rRec l ⟨0,0,0⟩).1:=by
 have hr:decR l=(rRec l ⟨0,0,0⟩).1:=by unfold decR;rw[if_pos h]
 unfold decE at h
 repeat' split at h
 all_goals first
  |exact absurd h (by decide)
  |exact⟨Decidable.byContradiction fun hn=>by contradiction,Decidable.byContradiction fun hn=>by contradiction,hr⟩
theorem rRm_enc:RdEnc rRm encRm:=fun l s hs h=>by
 unfold rRm at h ⊢
 split at h
 · exact absurd h (by assumption)
 · rename_i h1
   split at h
   · exact absurd (show (4:Int)=0 from h) (by decide)
   · rename_i h2
     obtain⟨-,a,b⟩:=decE_ok (Decidable.byContradiction h2)
     rw[if_neg h1,if_neg h2]
     obtain⟨c1,c2⟩:=rKy_enc' 262144 l s hs h
     refine⟨c1,c2.trans ?_⟩
     show l.take s.at_++encT (rText l s 262144).1=l.take s.at_++encT (encOut (decR (rText l s 262144).1))
     rw[b,a]
theorem RcCnt.pl {N:Nat} {r:Rc} (c:RcCnt N r) (hN:N≤1000000) (he:(encRc r).length≤2000000):RcPl r:=
 ⟨Nat.le_trans c.rd hN,Nat.le_trans c.wr hN,Nat.le_trans c.ps hN,Nat.le_trans c.pr hN,⟨Nat.le_trans c.h.1 hN,fun x hx=>Nat.le_trans (c.h.2 x hx) hN⟩,⟨Nat.le_trans c.p.1 hN,fun x hx=>⟨Nat.le_trans (c.p.2 x hx).1 hN,Nat.le_trans (c.p.2 x hx).2 hN⟩⟩,he⟩
theorem zRc_pl:RcPl zRc:=⟨Nat.zero_le _,Nat.zero_le _,Nat.zero_le _,Nat.zero_le _,⟨Nat.zero_le _,fun x hx=>by cases hx⟩,⟨Nat.zero_le _,fun x hx=>by cases hx⟩,by decide⟩
theorem decR_pl (t:List UInt8) (ht:t.length≤1000000):RcPl (decR t):=by
 by_cases h:decE t=0
 · obtain⟨a,b,c⟩:=decE_ok h
   rw[c]
   refine(rRec_cnt t _).pl ht ?_
   have e:encOut (rRec t ⟨0,0,0⟩).1=encRc (rRec t ⟨0,0,0⟩).1:=by unfold encOut;rw[if_pos a]
   rw[←e,b]
   omega
 · have:decR t=zRc:=by unfold decR;rw[if_neg h]
   rw[this]
   exact zRc_pl
theorem rRm_pl (l:List UInt8) (s:RS) (hl:l.length≤1000000):RcPl (rRm l s).1:=by
 unfold rRm
 split
 · exact zRc_pl
 · split
   · exact zRc_pl
   · exact decR_pl _ (Nat.le_trans (rText_le l s _) hl)
inductive MF|k|fr|ton|t|rg|ep|cd|s|pv|cm|n|mx|ks|sn|ws|ps|rs|rc|st
def MF.rd:MF→Stp Mg
 | .k=>rSet rInt fun a x=>{x with k:=a}
 | .fr=>rSet rInt fun a x=>{x with fr:=a}
 | .ton=>rSet rInt fun a x=>{x with ton:=a}
 | .t=>rSet rTx fun a x=>{x with t:=a}
 | .rg=>rSet rInt fun a x=>{x with rg:=a}
 | .ep=>rSet rInt fun a x=>{x with ep:=a}
 | .cd=>rSet rInt fun a x=>{x with cd:=a}
 | .s=>rSet rSp fun a x=>{x with s:=a}
 | .pv=>rSet rSp fun a x=>{x with pv:=a}
 | .cm=>rSet rFlag fun a x=>{x with cm:=a}
 | .n=>rSet rInt fun a x=>{x with n:=a}
 | .mx=>rSet rInt fun a x=>{x with mx:=a}
 | .ks=>rSet (rLs rKey) fun a x=>{x with ks:=a}
 | .sn=>rSet (rLs rSn) fun a x=>{x with sn:=a}
 | .ws=>rSet (rLs rWt) fun a x=>{x with ws:=a}
 | .ps=>rSet (rLs rInt) fun a x=>{x with ps:=a}
 | .rs=>rSet (rLs rRg) fun a x=>{x with rs:=a}
 | .rc=>rSet (rLs rRm) fun a x=>{x with rc:=a}
 | .st=>rSet rSt fun a x=>{x with st:=a}
def dealF (k:Int):List MF:=
 if k=1 then [.ep,.s,.ks] else if k=2 then [.cd,.s,.sn,.rs] else if k=3 then [.ep,.s,.sn,.ws,.ps] else if k=4 then [.cd,.s,.rs] else if k=5 then [.cm,.s] else []
def fieldF (k:Int):List MF:=
 if 1≤k∧k≤7 then .t:: .rg::dealF k else if k=8 then [.rg,.n,.mx,.s] else if k=9 then [.rg,.n,.rc] else if k=10 then [.rg,.st] else if k=11 then [.rg] else if k=12 then [.pv,.s,.t,.ws] else if k=14 then [.s] else []
def rMsg:Rdf Mg:=fun l s=>rSeq MF.rd (.k:: .fr:: .ton::fieldF (rInt l s).1) zMg l s
theorem MF.stk:StkS MF.rd:=fun d x=>match d with
 | .k=>rSet_stk rInt_stk x
 | .fr=>rSet_stk rInt_stk x
 | .ton=>rSet_stk rInt_stk x
 | .t=>rSet_stk rTx_stk x
 | .rg=>rSet_stk rInt_stk x
 | .ep=>rSet_stk rInt_stk x
 | .cd=>rSet_stk rInt_stk x
 | .s=>rSet_stk rSp_stk x
 | .pv=>rSet_stk rSp_stk x
 | .cm=>rSet_stk rFlag_stk x
 | .n=>rSet_stk rInt_stk x
 | .mx=>rSet_stk rInt_stk x
 | .ks=>rSet_stk (rLs_stk _) x
 | .sn=>rSet_stk (rLs_stk _) x
 | .ws=>rSet_stk (rLs_stk _) x
 | .ps=>rSet_stk (rLs_stk _) x
 | .rs=>rSet_stk (rLs_stk _) x
 | .rc=>rSet_stk (rLs_stk _) x
 | .st=>rSet_stk rSt_stk x
theorem MgLo.mn {w w':World} {B:Nat} {m:Mg} {h:Hm} (i:MgLo w B m h) (hk:∀p u,p.block<B→w.cell? p=some u→w'.cell? p=some u):MgLo w' B m h:=
 ⟨i.ks.mono KyRel.mono hk,i.sn.mono (Flat.mono _ _) hk,i.ws.mono WtRel.mono hk,i.ps.mono NmRel.mono hk,i.rs.mono (Flat.mono _ _) hk,i.rc.mono (fun w w' B cs r ⟨h,e,o,c,i⟩ hk=>⟨h,e,o,c,i.mn hk⟩) hk,i.hs.mono HsRel.mono hk,i.pn.mono PnRel.mono hk⟩
abbrev mgK:Bx Mg Hm:=⟨41,36,Mg.vals,fun w B x h=>x.ok∧h.caps∧MgLo w B x h⟩
theorem mgG:(mgK).Good:=⟨fun _ _=>rfl,fun w w' B B' x h i hk hB=>⟨i.1,i.2.1,(i.2.2.keep hk).more hB⟩,fun w w' B x h i hk=>⟨i.1,i.2.1,i.2.2.mn hk⟩⟩
theorem mgNil (w:World) (B:Nat):(mgK).lo w B zMg zHm:=⟨zMg_ok,⟨capZ,capZ,capZ,capZ,capZ,capZ,capZ,capZ⟩,⟨Sl.nil,Sl.nil,Sl.nil,Sl.nil,Sl.nil,Sl.nil,Sl.nil,Sl.nil⟩⟩
theorem mf_k:Fld mgK NmRel 1 0 (fun a x=>{x with k:=a}) (fun _ h=>h):=by
 rintro w B x h vs a ⟨ok,cp,⟨L1,L2,L3,L4,L5,L6,L7,L8⟩⟩ ⟨rfl,hok⟩ -
 exact⟨rfl,⟨hok,ok.fr,ok.ton,ok.t,ok.rg,ok.ep,ok.cd,ok.s,ok.pv,ok.n,ok.mx,ok.sr,ok.sf,ok.sc⟩,cp,⟨L1,L2,L3,L4,L5,L6,L7,L8⟩⟩
theorem mf_fr:Fld mgK NmRel 1 1 (fun a x=>{x with fr:=a}) (fun _ h=>h):=by
 rintro w B x h vs a ⟨ok,cp,⟨L1,L2,L3,L4,L5,L6,L7,L8⟩⟩ ⟨rfl,hok⟩ -
 exact⟨rfl,⟨ok.k,hok,ok.ton,ok.t,ok.rg,ok.ep,ok.cd,ok.s,ok.pv,ok.n,ok.mx,ok.sr,ok.sf,ok.sc⟩,cp,⟨L1,L2,L3,L4,L5,L6,L7,L8⟩⟩
theorem mf_ton:Fld mgK NmRel 1 2 (fun a x=>{x with ton:=a}) (fun _ h=>h):=by
 rintro w B x h vs a ⟨ok,cp,⟨L1,L2,L3,L4,L5,L6,L7,L8⟩⟩ ⟨rfl,hok⟩ -
 exact⟨rfl,⟨ok.k,ok.fr,hok,ok.t,ok.rg,ok.ep,ok.cd,ok.s,ok.pv,ok.n,ok.mx,ok.sr,ok.sf,ok.sc⟩,cp,⟨L1,L2,L3,L4,L5,L6,L7,L8⟩⟩
theorem mf_t:Fld mgK TxRel 3 3 (fun a x=>{x with t:=a}) (fun _ h=>h):=by
 rintro w B x h vs a ⟨ok,cp,⟨L1,L2,L3,L4,L5,L6,L7,L8⟩⟩ ⟨rfl,hok⟩ -
 exact⟨rfl,⟨ok.k,ok.fr,ok.ton,hok,ok.rg,ok.ep,ok.cd,ok.s,ok.pv,ok.n,ok.mx,ok.sr,ok.sf,ok.sc⟩,cp,⟨L1,L2,L3,L4,L5,L6,L7,L8⟩⟩
theorem mf_rg:Fld mgK NmRel 1 6 (fun a x=>{x with rg:=a}) (fun _ h=>h):=by
 rintro w B x h vs a ⟨ok,cp,⟨L1,L2,L3,L4,L5,L6,L7,L8⟩⟩ ⟨rfl,hok⟩ -
 exact⟨rfl,⟨ok.k,ok.fr,ok.ton,ok.t,hok,ok.ep,ok.cd,ok.s,ok.pv,ok.n,ok.mx,ok.sr,ok.sf,ok.sc⟩,cp,⟨L1,L2,L3,L4,L5,L6,L7,L8⟩⟩
theorem mf_ep:Fld mgK NmRel 1 7 (fun a x=>{x with ep:=a}) (fun _ h=>h):=by
 rintro w B x h vs a ⟨ok,cp,⟨L1,L2,L3,L4,L5,L6,L7,L8⟩⟩ ⟨rfl,hok⟩ -
 exact⟨rfl,⟨ok.k,ok.fr,ok.ton,ok.t,ok.rg,hok,ok.cd,ok.s,ok.pv,ok.n,ok.mx,ok.sr,ok.sf,ok.sc⟩,cp,⟨L1,L2,L3,L4,L5,L6,L7,L8⟩⟩
theorem mf_cd:Fld mgK NmRel 1 8 (fun a x=>{x with cd:=a}) (fun _ h=>h):=by
 rintro w B x h vs a ⟨ok,cp,⟨L1,L2,L3,L4,L5,L6,L7,L8⟩⟩ ⟨rfl,hok⟩ -
 exact⟨rfl,⟨ok.k,ok.fr,ok.ton,ok.t,ok.rg,ok.ep,hok,ok.s,ok.pv,ok.n,ok.mx,ok.sr,ok.sf,ok.sc⟩,cp,⟨L1,L2,L3,L4,L5,L6,L7,L8⟩⟩
theorem mf_s:Fld mgK SpRel 3 9 (fun a x=>{x with s:=a}) (fun _ h=>h):=by
 rintro w B x h vs a ⟨ok,cp,⟨L1,L2,L3,L4,L5,L6,L7,L8⟩⟩ ⟨rfl,hok⟩ -
 exact⟨rfl,⟨ok.k,ok.fr,ok.ton,ok.t,ok.rg,ok.ep,ok.cd,hok,ok.pv,ok.n,ok.mx,ok.sr,ok.sf,ok.sc⟩,cp,⟨L1,L2,L3,L4,L5,L6,L7,L8⟩⟩
theorem mf_pv:Fld mgK SpRel 3 12 (fun a x=>{x with pv:=a}) (fun _ h=>h):=by
 rintro w B x h vs a ⟨ok,cp,⟨L1,L2,L3,L4,L5,L6,L7,L8⟩⟩ ⟨rfl,hok⟩ -
 exact⟨rfl,⟨ok.k,ok.fr,ok.ton,ok.t,ok.rg,ok.ep,ok.cd,ok.s,hok,ok.n,ok.mx,ok.sr,ok.sf,ok.sc⟩,cp,⟨L1,L2,L3,L4,L5,L6,L7,L8⟩⟩
theorem mf_cm:Fld mgK BoRel 1 15 (fun a x=>{x with cm:=a}) (fun _ h=>h):=by
 rintro w B x h vs a ⟨ok,cp,⟨L1,L2,L3,L4,L5,L6,L7,L8⟩⟩ ⟨rfl,hok⟩ -
 exact⟨rfl,⟨ok.k,ok.fr,ok.ton,ok.t,ok.rg,ok.ep,ok.cd,ok.s,ok.pv,ok.n,ok.mx,ok.sr,ok.sf,ok.sc⟩,cp,⟨L1,L2,L3,L4,L5,L6,L7,L8⟩⟩
theorem mf_n:Fld mgK NmRel 1 16 (fun a x=>{x with n:=a}) (fun _ h=>h):=by
 rintro w B x h vs a ⟨ok,cp,⟨L1,L2,L3,L4,L5,L6,L7,L8⟩⟩ ⟨rfl,hok⟩ -
 exact⟨rfl,⟨ok.k,ok.fr,ok.ton,ok.t,ok.rg,ok.ep,ok.cd,ok.s,ok.pv,hok,ok.mx,ok.sr,ok.sf,ok.sc⟩,cp,⟨L1,L2,L3,L4,L5,L6,L7,L8⟩⟩
theorem mf_mx:Fld mgK NmRel 1 17 (fun a x=>{x with mx:=a}) (fun _ h=>h):=by
 rintro w B x h vs a ⟨ok,cp,⟨L1,L2,L3,L4,L5,L6,L7,L8⟩⟩ ⟨rfl,hok⟩ -
 exact⟨rfl,⟨ok.k,ok.fr,ok.ton,ok.t,ok.rg,ok.ep,ok.cd,ok.s,ok.pv,ok.n,hok,ok.sr,ok.sf,ok.sc⟩,cp,⟨L1,L2,L3,L4,L5,L6,L7,L8⟩⟩
theorem mf_ks:Fld mgK (LsRel KyRel 1) 1 18 (fun a x=>{x with ks:=a}) (fun vs h=>{h with a:=hdAt vs 0}):=by
 rintro w B x h vs a ⟨ok,cp,⟨L1,L2,L3,L4,L5,L6,L7,L8⟩⟩ ⟨v,rfl,A,n,c,rfl,q1,q2,sl⟩ -
 exact⟨rfl,⟨ok.k,ok.fr,ok.ton,ok.t,ok.rg,ok.ep,ok.cd,ok.s,ok.pv,ok.n,ok.mx,ok.sr,ok.sf,ok.sc⟩,⟨⟨q1,q2⟩,cp.b,cp.c,cp.d,cp.e,cp.f,cp.g,cp.i⟩,⟨sl,L2,L3,L4,L5,L6,L7,L8⟩⟩
theorem mf_sn:Fld mgK (LsRel SnRel 7) 1 19 (fun a x=>{x with sn:=a}) (fun vs h=>{h with b:=hdAt vs 0}):=by
 rintro w B x h vs a ⟨ok,cp,⟨L1,L2,L3,L4,L5,L6,L7,L8⟩⟩ ⟨v,rfl,A,n,c,rfl,q1,q2,sl⟩ -
 exact⟨rfl,⟨ok.k,ok.fr,ok.ton,ok.t,ok.rg,ok.ep,ok.cd,ok.s,ok.pv,ok.n,ok.mx,ok.sr,ok.sf,ok.sc⟩,⟨cp.a,⟨q1,q2⟩,cp.c,cp.d,cp.e,cp.f,cp.g,cp.i⟩,⟨L1,sl,L3,L4,L5,L6,L7,L8⟩⟩
theorem mf_ws:Fld mgK (LsRel WtRel 4) 1 20 (fun a x=>{x with ws:=a}) (fun vs h=>{h with c:=hdAt vs 0}):=by
 rintro w B x h vs a ⟨ok,cp,⟨L1,L2,L3,L4,L5,L6,L7,L8⟩⟩ ⟨v,rfl,A,n,c,rfl,q1,q2,sl⟩ -
 exact⟨rfl,⟨ok.k,ok.fr,ok.ton,ok.t,ok.rg,ok.ep,ok.cd,ok.s,ok.pv,ok.n,ok.mx,ok.sr,ok.sf,ok.sc⟩,⟨cp.a,cp.b,⟨q1,q2⟩,cp.d,cp.e,cp.f,cp.g,cp.i⟩,⟨L1,L2,sl,L4,L5,L6,L7,L8⟩⟩
theorem mf_ps:Fld mgK (LsRel NmRel 1) 1 21 (fun a x=>{x with ps:=a}) (fun vs h=>{h with d:=hdAt vs 0}):=by
 rintro w B x h vs a ⟨ok,cp,⟨L1,L2,L3,L4,L5,L6,L7,L8⟩⟩ ⟨v,rfl,A,n,c,rfl,q1,q2,sl⟩ -
 exact⟨rfl,⟨ok.k,ok.fr,ok.ton,ok.t,ok.rg,ok.ep,ok.cd,ok.s,ok.pv,ok.n,ok.mx,ok.sr,ok.sf,ok.sc⟩,⟨cp.a,cp.b,cp.c,⟨q1,q2⟩,cp.e,cp.f,cp.g,cp.i⟩,⟨L1,L2,L3,sl,L5,L6,L7,L8⟩⟩
theorem mf_rs:Fld mgK (LsRel RgRel 4) 1 22 (fun a x=>{x with rs:=a}) (fun vs h=>{h with e:=hdAt vs 0}):=by
 rintro w B x h vs a ⟨ok,cp,⟨L1,L2,L3,L4,L5,L6,L7,L8⟩⟩ ⟨v,rfl,A,n,c,rfl,q1,q2,sl⟩ -
 exact⟨rfl,⟨ok.k,ok.fr,ok.ton,ok.t,ok.rg,ok.ep,ok.cd,ok.s,ok.pv,ok.n,ok.mx,ok.sr,ok.sf,ok.sc⟩,⟨cp.a,cp.b,cp.c,cp.d,⟨q1,q2⟩,cp.f,cp.g,cp.i⟩,⟨L1,L2,L3,L4,sl,L6,L7,L8⟩⟩
theorem mf_rc:Fld mgK (LsRel RmRel 29) 1 23 (fun a x=>{x with rc:=a}) (fun vs h=>{h with f:=hdAt vs 0}):=by
 rintro w B x h vs a ⟨ok,cp,⟨L1,L2,L3,L4,L5,L6,L7,L8⟩⟩ ⟨v,rfl,A,n,c,rfl,q1,q2,sl⟩ -
 exact⟨rfl,⟨ok.k,ok.fr,ok.ton,ok.t,ok.rg,ok.ep,ok.cd,ok.s,ok.pv,ok.n,ok.mx,ok.sr,ok.sf,ok.sc⟩,⟨cp.a,cp.b,cp.c,cp.d,cp.e,⟨q1,q2⟩,cp.g,cp.i⟩,⟨L1,L2,L3,L4,L5,sl,L7,L8⟩⟩
theorem mf_st:Fld mgK SttRel 12 24 (fun a x=>{x with st:=a}) (fun vs h=>{h with g:=hdAt vs 10,i:=hdAt vs 11}):=by
 rintro w B x h vs a ⟨ok,cp,⟨L1,L2,L3,L4,L5,L6,L7,L8⟩⟩ ⟨v1,v2,rfl,p1,p2,p3,⟨A1,n1,c1,rfl,q1,q2,y1⟩,A2,n2,c2,rfl,q3,q4,y2⟩ -
 exact⟨by kernel_rfl,⟨ok.k,ok.fr,ok.ton,ok.t,ok.rg,ok.ep,ok.cd,ok.s,ok.pv,ok.n,ok.mx,p1,p2,p3⟩,⟨cp.a,cp.b,cp.c,cp.d,cp.e,cp.f,⟨q1,q2⟩,⟨q3,q4⟩⟩,⟨L1,L2,L3,L4,L5,L6,y1,y2⟩⟩
def MF.en:MF→Mg→List UInt8
 | .k,x=>encI x.k
 | .fr,x=>encI x.fr
 | .ton,x=>encI x.ton
 | .t,x=>encTx x.t
 | .rg,x=>encI x.rg
 | .ep,x=>encI x.ep
 | .cd,x=>encI x.cd
 | .s,x=>encSp x.s
 | .pv,x=>encSp x.pv
 | .cm,x=>encB x.cm
 | .n,x=>encI x.n
 | .mx,x=>encI x.mx
 | .ks,x=>encLs encKy x.ks
 | .sn,x=>encLs encSn x.sn
 | .ws,x=>encLs encWt x.ws
 | .ps,x=>encLs encI x.ps
 | .rs,x=>encLs encRg x.rs
 | .rc,x=>encLs encRm x.rc
 | .st,x=>encSt x.st
def MF.no:MF→Nat
 | .k=>0
 | .fr=>1
 | .ton=>2
 | .t=>3
 | .rg=>4
 | .ep=>5
 | .cd=>6
 | .s=>7
 | .pv=>8
 | .cm=>9
 | .n=>10
 | .mx=>11
 | .ks=>12
 | .sn=>13
 | .ws=>14
 | .ps=>15
 | .rs=>16
 | .rc=>17
 | .st=>18
def MF.ap (d d':MF):Bool:=d.no !=d'.no
theorem MF.encS:EncS MF.rd MF.en:=fun d x l s hs h=>match d with
 | .k=>rInt_enc' l s hs h
 | .fr=>rInt_enc' l s hs h
 | .ton=>rInt_enc' l s hs h
 | .t=>rTx_enc l s hs h
 | .rg=>rInt_enc' l s hs h
 | .ep=>rInt_enc' l s hs h
 | .cd=>rInt_enc' l s hs h
 | .s=>rSp_enc l s hs h
 | .pv=>rSp_enc l s hs h
 | .cm=>rFlag_enc' l s hs h
 | .n=>rInt_enc' l s hs h
 | .mx=>rInt_enc' l s hs h
 | .ks=>rLs_enc (rKy_enc' _) l s hs h
 | .sn=>rLs_enc rSn_enc l s hs h
 | .ws=>rLs_enc rWt_enc l s hs h
 | .ps=>rLs_enc rInt_enc' l s hs h
 | .rs=>rLs_enc rRg_enc l s hs h
 | .rc=>rLs_enc rRm_enc l s hs h
 | .st=>rSt_enc l s hs h
theorem MF.apS:ApS MF.rd MF.en MF.ap:=fun d d' h x l s=>by
 cases d<;>cases d'<;>first
  |rfl
  |exact absurd h (by decide)
theorem fieldF_ap (k:Int):(MF.k:: .fr:: .ton::fieldF k).Pairwise (fun d d'=>MF.ap d d'=true):=by
 unfold fieldF dealF
 repeat' split
 all_goals decide
theorem encMg_eq (m:Mg):encMg m=(MF.k:: .fr:: .ton::fieldF m.k).flatMap fun d=>MF.en d m:=by
 obtain⟨k,fr,ton,t,rg,ep,cd,s,pv,cm,n,mx,ks,sn,ws,ps,rs,rc,st⟩:=m
 rcases (by omega:k=1∨k=2∨k=3∨k=4∨k=5∨k=6∨k=7∨k=8∨k=9∨k=10∨k=11∨k=12∨k=13∨k=14∨(¬(1≤k∧k≤7)∧¬k=8∧¬k=9∧¬k=10∧¬k=11∧¬k=12∧¬k=13∧¬k=14)) with rfl|rfl|rfl|rfl|rfl|rfl|rfl|rfl|rfl|rfl|rfl|rfl|rfl|rfl|⟨h0,h8,h9,h10,h11,h12,h13,h14⟩
 all_goals simp[encMg,encMb,encDeal,fieldF,dealF,MF.en, *]
theorem rMsg_k (l:List UInt8) (s:RS):(rMsg l s).1.k=(rInt l s).1:=by
 have h2:∀ds:List MF,(∀d∈ds,d.no≠0)→∀x l' s',(rSeq MF.rd ds x l' s').1.k=x.k:=by
  intro ds
  induction ds with
  |nil=>intro _ x l' s';rfl
  |cons d ds ih=>
   intro hd x l' s'
   refine(ih (fun y hy=>hd y (List.mem_cons_of_mem _ hy)) _ _ _).trans ?_
   have hk:=hd d List.mem_cons_self
   cases d<;>first
        |rfl
        |exact absurd rfl hk
 refine h2 (.fr:: .ton::fieldF (rInt l s).1) (fun d hd e=>?_) _ _ _
 have:=(List.pairwise_cons.1 (fieldF_ap (rInt l s).1)).1 d hd
 unfold MF.ap at this
 rw[e]at this
 exact absurd this (by decide)
theorem rMsg_enc:RdEnc rMsg encMg:=fun l s hs h=>by
 obtain⟨a,b⟩:=rSeq_enc MF.encS MF.stk MF.apS _ zMg l s (fieldF_ap _) hs h
 refine⟨a,b.trans ?_⟩
 rw[encMg_eq,rMsg_k]
 rfl
structure MgCnt (N:Nat) (m:Mg):Prop where
 ks:m.ks.length≤N
 sn:m.sn.length≤N
 ws:m.ws.length≤N
 ps:m.ps.length≤N
 rs:m.rs.length≤N
 rc:m.rc.length≤N
 h:m.st.h.length≤N∧∀h∈m.st.h,h.vs.length≤N
 p:m.st.p.length≤N∧∀p∈m.st.p,p.r.length≤N∧p.w.length≤N
 pl:∀r∈m.rc,RcPl r
theorem rMsg_cnt (l:List UInt8) (s:RS) (hl:l.length≤1000000):MgCnt l.length (rMsg l s).1:=
 rSeq_inv (P:=MgCnt l.length) (fun d x s i=>match d with
  | .k=>⟨i.ks,i.sn,i.ws,i.ps,i.rs,i.rc,i.h,i.p,i.pl⟩
  | .fr=>⟨i.ks,i.sn,i.ws,i.ps,i.rs,i.rc,i.h,i.p,i.pl⟩
  | .ton=>⟨i.ks,i.sn,i.ws,i.ps,i.rs,i.rc,i.h,i.p,i.pl⟩
  | .t=>⟨i.ks,i.sn,i.ws,i.ps,i.rs,i.rc,i.h,i.p,i.pl⟩
  | .rg=>⟨i.ks,i.sn,i.ws,i.ps,i.rs,i.rc,i.h,i.p,i.pl⟩
  | .ep=>⟨i.ks,i.sn,i.ws,i.ps,i.rs,i.rc,i.h,i.p,i.pl⟩
  | .cd=>⟨i.ks,i.sn,i.ws,i.ps,i.rs,i.rc,i.h,i.p,i.pl⟩
  | .s=>⟨i.ks,i.sn,i.ws,i.ps,i.rs,i.rc,i.h,i.p,i.pl⟩
  | .pv=>⟨i.ks,i.sn,i.ws,i.ps,i.rs,i.rc,i.h,i.p,i.pl⟩
  | .cm=>⟨i.ks,i.sn,i.ws,i.ps,i.rs,i.rc,i.h,i.p,i.pl⟩
  | .n=>⟨i.ks,i.sn,i.ws,i.ps,i.rs,i.rc,i.h,i.p,i.pl⟩
  | .mx=>⟨i.ks,i.sn,i.ws,i.ps,i.rs,i.rc,i.h,i.p,i.pl⟩
  | .ks=>⟨rLs_le l _,i.sn,i.ws,i.ps,i.rs,i.rc,i.h,i.p,i.pl⟩
  | .sn=>⟨i.ks,rLs_le l _,i.ws,i.ps,i.rs,i.rc,i.h,i.p,i.pl⟩
  | .ws=>⟨i.ks,i.sn,rLs_le l _,i.ps,i.rs,i.rc,i.h,i.p,i.pl⟩
  | .ps=>⟨i.ks,i.sn,i.ws,rLs_le l _,i.rs,i.rc,i.h,i.p,i.pl⟩
  | .rs=>⟨i.ks,i.sn,i.ws,i.ps,rLs_le l _,i.rc,i.h,i.p,i.pl⟩
  | .rc=>⟨i.ks,i.sn,i.ws,i.ps,i.rs,rLs_le l _,i.h,i.p,rLs_all (Q:=RcPl) l _ fun s=>rRm_pl l s hl⟩
  | .st=>⟨i.ks,i.sn,i.ws,i.ps,i.rs,i.rc,(rSt_cnt l s).1,(rSt_cnt l s).2,i.pl⟩) _ _ _
  ⟨Nat.zero_le _,Nat.zero_le _,Nat.zero_le _,Nat.zero_le _,Nat.zero_le _,Nat.zero_le _,⟨Nat.zero_le _,fun h hh=>by cases hh⟩,⟨Nat.zero_le _,fun h hh=>by cases hh⟩,fun h hh=>by cases hh⟩
theorem MgCnt.sm {w:World} {B N:Nat} {m:Mg} {h:Hm} (c:MgCnt N m) (hN:N≤1000000) (i:MgLo w B m h):MgSm m h:=
 ⟨by rw[←i.ks.1];exact Nat.le_trans c.ks hN,by rw[←i.sn.1];exact Nat.le_trans c.sn hN,by rw[←i.ws.1];exact Nat.le_trans c.ws hN,by rw[←i.ps.1];exact Nat.le_trans c.ps hN,by rw[←i.rs.1];exact Nat.le_trans c.rs hN,by rw[←i.rc.1];exact Nat.le_trans c.rc hN,
  ⟨Nat.le_trans c.h.1 hN,fun x hx=>Nat.le_trans (c.h.2 x hx) hN⟩,⟨Nat.le_trans c.p.1 hN,fun x hx=>⟨Nat.le_trans (c.p.2 x hx).1 hN,Nat.le_trans (c.p.2 x hx).2 hN⟩⟩⟩
end Go.Proofs.YtcalkfgibflbnaaGreat
namespace Go.Proofs.YtcalkfgibflbnaaGreat
set_option maxHeartbeats 4000000
set_option maxRecDepth 100000
set_option linter.unusedVariables false
open Go.RowKit Fl
attribute [local go_sem] run_store_float
theorem SnRel.mn:(SnRel).Mono:=Flat.mono _ _
theorem RgRel.mn:(RgRel).Mono:=Flat.mono _ _
theorem RmRel.mn:(RmRel).Mono:=fun w w' B cs r ⟨h,e,o,c,i⟩ hk=>⟨h,e,o,c,i.mn hk⟩
theorem snY_info:(Tryz.prog.info? 104).map (fun i=>(i.zero,i.size,i.bytes))=some (some (.agg #[.string ⟨#[]⟩,.int .i64 0,.float .f64 0,.string ⟨#[]⟩,.int .i64 0,.int .i64 0,.int .i64 0]),7,72):=by kernel_rfl
theorem rgY_info:(Tryz.prog.info? 35).map (fun i=>(i.zero,i.size,i.bytes))=some (some (.agg #[.int .i64 0,.int .i64 0,.float .f64 0,.float .f64 0]),4,32):=by kernel_rfl
theorem rcSeen:ElemR 134 SnRel 7 ([.string ⟨#[]⟩]++([.int .i64 0,.float .f64 0,.string ⟨#[]⟩]++([.int .i64 0,.int .i64 0,.int .i64 0]))) rSn:=by
 intro w g A n c l s gc b t cs i h hs D
 have gl:=h.rd.blk.lt
 have bl:=D.blk.lt
 go_enter Tryz.func134,Tryz.ntmps134
 go_wp2_with fail
 refine(rcText w g A n c l s gc b t cs i h hs D.fst).mono ?_
 rintro e w1 ⟨h1,t1,⟨e1,rfl,v1,l1,k1,n1⟩|⟨e1,rfl,cs1,l1,k1⟩⟩
 rotate_left
 · go_wp2
   exact⟨rfl,RPost.bad (s':=(rKey l s).2) ((rTwo_stk (mk:=fun _ _=>()) rVl_stk rSp_stk) l _ e1) e1 h1 t1 l1 k1⟩
 have D1:=D.nxt k1 l1 rfl (i+1) rfl
 clear k1
 go_wp2_with fail
 refine(rcValue w1 g A n c l (rKey l s).2 gc b t _ (i+1) h1 e1 D1.fst).mono ?_
 rintro e w2 ⟨h2,t2,⟨e2,rfl,v2,l2,k2,n2⟩|⟨e2,rfl,cs2,l2,k2⟩⟩
 rotate_left
 · go_wp2
   exact⟨rfl,RPost.bad (s':=(rVl l (rKey l s).2).2) (rSp_stk l _ e2) e2 h2 (t1.trans t2) (l2.trans (put_size _ _ _)) k2⟩
 have D2:=D1.nxt k2 l2 rfl (i+4) (by omega)
 clear k2
 go_wp2_with fail
 refine(rcStamp w2 g A n c l (rVl l (rKey l s).2).2 gc b t _ (i+4) h2 e2 D2).mono ?_
 rintro e w3 ⟨h3,t3,⟨e3,rfl,v3,l3,k3,n3⟩|⟨e3,rfl,cs3,l3,k3⟩⟩
 rotate_left
 · go_wp2
   exact⟨rfl,RPost.bad (s':=(rSp l (rVl l (rKey l s).2).2).2) rfl e3 h3 ((t1.trans t2).trans t3) (l3.trans ((put_size _ _ _).trans (put_size _ _ _))) k3⟩
 go_wp2
 go_end0
 refine⟨h3,((t1.trans t2).trans t3),.inl ⟨e3,rfl,v1++(v2++(v3)),by simp only[List.length_append,l1,l2,l3],?_,?_⟩⟩
 · rw[put_app,l1,put_app,l2]
   exact k3
 · obtain⟨rfl,o1⟩:=n1
   obtain⟨rfl,o2⟩:=n2
   obtain⟨rfl,o3⟩:=n3
   exact⟨rfl,o1,o2,o3⟩
theorem rlSeen:ListR 133 134 SnRel 7 rSn:=by
 obtain⟨i0,hi0,hz0,hz1,hz2⟩:=info_parts snY_info
 intro w g A n c l s gc b t cs i h hs D
 have fx:=h.fix D
 have hib:i<cs.size:=(Array.getElem?_eq_some_iff.1 (D.has 0 _ rfl)).1
 have c0:=cl (h.blk.cell 0)
 have c1:=cl (h.blk.cell 1)
 have z0:w.cell? ⟨b,i,none⟩=some (.slice none 0 0):=D.at0 rfl
 have hL:=wRLeft g A n c l s w.drew (h.below (Below.refl _ _).drew).rd
 have hC:=fun q=>wRCount g A n c l s (rLeft l s:Int) (w.drewN q) (h.below (belowN q)).rd
 have hkn:=rCount_ok l s (rLeft l s:Int) 3
 have hsm:=h.rd.small
 have hlf:rLeft l s≤n:=by rw[←h.rd.len];unfold rLeft;split<;>omega
 have HR:=Lib.hid (show rLs rSn l s=rLoop rSn l (rCount l s (rLeft l s:Int) 3).1.toNat (rCount l s (rLeft l s:Int) 3).2 from rfl)
 have HH:=Lib.hid h
 generalize rLs rSn l s=res at*
 generalize rCount l s (rLeft l s:Int) 3=x at*
 obtain⟨xn,s1⟩:=x
 obtain⟨N,rfl⟩:∃N:Nat,xn=(N:Int):=⟨xn.toNat,by have:=hkn.2.1;omega⟩
 have hN:N≤n:=by have:=hkn.2.2 (by omega);simp only at this;omega
 clear hkn hlf
 go_enter Tryz.func133,Tryz.ntmps133
 go_wp2_with fail
 go_region_held3 (fun w'=>w'.cell? ⟨gc,1,none⟩=some (.pointer (some ⟨g,0,none⟩)))
  (first|exact c1|exact c1')
  (first
    |((with_reducible refine hL.mono ?_);rintro e w1 ⟨rfl,q,rfl⟩)
    |((with_reducible refine(hC _).mono ?_);rintro e w2 ⟨rfl,hrd,hg⟩;have c1':w2.cell? ⟨gc,1,none⟩=some (.pointer (some ⟨g,0,none⟩)):=((h.below (belowN _)).blk.grown hg (by intro e;exact h.ne (by injection e))).cell 1))
 have hg2:w.grownBy w2 (some g):=(below_grown (belowN _) _).trans hg
 have h2:CR w2 g A n c l s1 gc:=HH.out.read hrd hg2
 have k2:Blk w2 b t cs:=D.blk.grown hg2 (by intro e;exact D.ng (by injection e))
 have t2:Two2 w w2 g b:=Two2.left hg2 b
 clear hg hg2 hrd hL hC c1' c1 h c0 z0
 go_wp2_with fail
 refine(look_any w2 g A n c l s1 gc h2).mono ?_
 rintro e w3 ⟨⟨q3,rfl⟩,⟨he,rfl⟩|⟨he,rfl⟩⟩
 rotate_left
 · have hQ:Below w2.heap.size w2 (w2.drewN q3):=belowN _
   go_wp2
   exact⟨rfl,RPost.bad (s':=s1) (by rw[HR.out];exact congrArg Prod.snd (rLoop_stk _ _ _ _ he)) he (h2.below hQ) (t2.trans (Two2.ofBelow g b hQ)) rfl (k2.below hQ k2.lt)⟩
 have hQ:Below w2.heap.size w2 (w2.drewN q3):=belowN _
 have k3:=k2.below hQ k2.lt
 have h3:=h2.below hQ
 have t3:=t2.trans (Two2.ofBelow g b hQ)
 have z3:(w2.drewN q3).cell? ⟨b,i,none⟩=some (.slice none 0 0):=(k3.cell i).trans (D.has 0 _ rfl)
 have f3:=k3.frozen i
 have hgs:=grown_set (w2.drewN q3) b i (.slice none 0 0)
 have h4:=h3.laid hgs fx.ng fx.nc fx.ap
 have t4:=t3.trans (Two2.right hgs g)
 have k4:Blk _ b t (put cs i [.slice none 0 0]):=k3.set_ i (.slice none 0 0)
 have hst:=LInv.start (R:=SnRel) (E:=104) (size:=7) (f:=rSn) (N:=N) h4 he k4 t4
 clear k3 h3 t3 hgs h4 t4 k4 k2 h2 t2 hQ D
 go_wp2_with fail
 go_loopw [39] (fun iv wr=>LHead SnRel 104 7 rSn w g A n c l gc b t cs i N s1 iv wr) (fun iv _=>N-(intOf iv).toNat)
 case atStart=>exact⟨0,_,_,_,rfl,hst⟩
 case round=>
  clear hst z3 f3
  obtain⟨k,L,sk,v,rfl,hI⟩:=hrel
  by_cases hlt:k<N
  · have hd1:decide ((k:Int)<(N:Int))=true:=by simp;omega
    have hk0:(0:Int)≤(k:Int):=by omega
    have hk1:(k:Int)<((k+1:Nat):Int):=by omega
    have d0:=cl (hI.cr.blk.cell 0)
    have y0:wr.cell? ⟨b,i,none⟩=some v:=(hI.blk.cell i).trans (put_in [v] cs i 0 v rfl (by simp;omega))
    have bl2:=hI.blk.lt
    have hlen:=hI.len
    have hzz:=hI.two.size
    obtain⟨Av,qv,rfl,hqv,hqvm⟩:=Single.form hI.row
    rw[hlen]at hqv y0 hI
    have HI:=Lib.hid hI
    have hX:Below wr.heap.size wr (((wr.alloc (.cells #[.string ⟨#[]⟩,.int .i64 0,.float .f64 0,.string ⟨#[]⟩,.int .i64 0,.int .i64 0,.int .i64 0] 104)).alloc (.cells #[.string ⟨#[]⟩,.int .i64 0,.float .f64 0,.string ⟨#[]⟩,.int .i64 0,.int .i64 0,.int .i64 0] 104)).drew):=(((Below.refl _ _).alloc (Nat.le_refl _) _).alloc (by simp) _).drew
    obtain⟨xs,hown0,hrd⟩:=hI.round SnRel.kept SnRel.mn fx hlt hib (z:=[.string ⟨#[]⟩,.int .i64 0,.float .f64 0,.string ⟨#[]⟩,.int .i64 0,.int .i64 0,.int .i64 0]) rfl hX
    have HRD:=Lib.hid hrd
    have hrd0:=reads_new' (wr.alloc (.cells #[.string ⟨#[]⟩,.int .i64 0,.float .f64 0,.string ⟨#[]⟩,.int .i64 0,.int .i64 0,.int .i64 0] 104)) 104 [.string ⟨#[]⟩,.int .i64 0,.float .f64 0,.string ⟨#[]⟩,.int .i64 0,.int .i64 0,.int .i64 0] 7 rfl
    replace hrd0:=hrd0.drew
    clear hrd hI
    rw[hlen]at hown0
    go_wp2
    go_region_law (refine step_append_any _ rfl (.tmp 50) (.tmp 52) _ rfl w.heap.size 104 i0 _ 7 72 Tryz.underlying28 hi0 hz0 hz1 hz2 rfl (by omega) (.slice Av k qv) _ xs (by simp[Act.eval]) hown0 _ (some ⟨(wr.alloc (.cells #[.string ⟨#[]⟩,.int .i64 0,.float .f64 0,.string ⟨#[]⟩,.int .i64 0,.int .i64 0,.int .i64 0] 104)).heap.size,0,none⟩) 1 1 [.string ⟨#[]⟩,.int .i64 0,.float .f64 0,.string ⟨#[]⟩,.int .i64 0,.int .i64 0,.int .i64 0] (by simp[Act.eval]) hrd0 (by intro u hu;simp only[List.mem_cons,List.not_mem_nil,or_false]at hu;rcases hu with rfl|rfl|rfl|rfl|rfl|rfl|rfl<;>rfl) (by unfold maxLen;omega) (by omega) (by simp;omega) ?_;intro v' w5 hown5 hg5 hat5;obtain⟨y5,f5,rb,cap,cur,rfl,y6,h6,D6,t6,hfin⟩:=HRD.out v' w5 (by rw[hlen];exact hown5) hg5 hat5;have HF:=Lib.hid hfin;clear hfin)
    all_goals
        go_wp2_with fail
        refine(rcSeen _ g A n c l sk gc rb _ cur (k*7) h6 HI.out.e D6).mono ?_
        intro e w7 hP
        rcases HF.out e w7 hP.m with ⟨rfl,hI7⟩|⟨rfl,hB⟩
        · go_wp2_with fail
          go_roundw
          case rel=>exact⟨k+1,_,_,_,by go_num,hI7⟩
          case measure=>simp[intOf];omega
        · go_wp2
          exact⟨rfl,by rw[HR.out];exact hB.post hP.1⟩
  · have hd1:decide ((k:Int)<(N:Int))=false:=by simp;omega
    go_wp2_with fail
    go_end0
    rw[HR.out]
    exact hI.done SnRel.mn (by omega) hlt
theorem rlRange:ListR 135 136 RgRel 4 rRg:=by
 obtain⟨i0,hi0,hz0,hz1,hz2⟩:=info_parts rgY_info
 intro w g A n c l s gc b t cs i h hs D
 have fx:=h.fix D
 have hib:i<cs.size:=(Array.getElem?_eq_some_iff.1 (D.has 0 _ rfl)).1
 have c0:=cl (h.blk.cell 0)
 have c1:=cl (h.blk.cell 1)
 have z0:w.cell? ⟨b,i,none⟩=some (.slice none 0 0):=D.at0 rfl
 have hL:=wRLeft g A n c l s w.drew (h.below (Below.refl _ _).drew).rd
 have hC:=fun q=>wRCount g A n c l s (rLeft l s:Int) (w.drewN q) (h.below (belowN q)).rd
 have hkn:=rCount_ok l s (rLeft l s:Int) 3
 have hsm:=h.rd.small
 have hlf:rLeft l s≤n:=by rw[←h.rd.len];unfold rLeft;split<;>omega
 have HR:=Lib.hid (show rLs rRg l s=rLoop rRg l (rCount l s (rLeft l s:Int) 3).1.toNat (rCount l s (rLeft l s:Int) 3).2 from rfl)
 have HH:=Lib.hid h
 generalize rLs rRg l s=res at*
 generalize rCount l s (rLeft l s:Int) 3=x at*
 obtain⟨xn,s1⟩:=x
 obtain⟨N,rfl⟩:∃N:Nat,xn=(N:Int):=⟨xn.toNat,by have:=hkn.2.1;omega⟩
 have hN:N≤n:=by have:=hkn.2.2 (by omega);simp only at this;omega
 clear hkn hlf
 go_enter Tryz.func135,Tryz.ntmps135
 go_wp2_with fail
 go_region_held3 (fun w'=>w'.cell? ⟨gc,1,none⟩=some (.pointer (some ⟨g,0,none⟩)))
  (first|exact c1|exact c1')
  (first
    |((with_reducible refine hL.mono ?_);rintro e w1 ⟨rfl,q,rfl⟩)
    |((with_reducible refine(hC _).mono ?_);rintro e w2 ⟨rfl,hrd,hg⟩;have c1':w2.cell? ⟨gc,1,none⟩=some (.pointer (some ⟨g,0,none⟩)):=((h.below (belowN _)).blk.grown hg (by intro e;exact h.ne (by injection e))).cell 1))
 have hg2:w.grownBy w2 (some g):=(below_grown (belowN _) _).trans hg
 have h2:CR w2 g A n c l s1 gc:=HH.out.read hrd hg2
 have k2:Blk w2 b t cs:=D.blk.grown hg2 (by intro e;exact D.ng (by injection e))
 have t2:Two2 w w2 g b:=Two2.left hg2 b
 clear hg hg2 hrd hL hC c1' c1 h c0 z0
 go_wp2_with fail
 refine(look_any w2 g A n c l s1 gc h2).mono ?_
 rintro e w3 ⟨⟨q3,rfl⟩,⟨he,rfl⟩|⟨he,rfl⟩⟩
 rotate_left
 · have hQ:Below w2.heap.size w2 (w2.drewN q3):=belowN _
   go_wp2
   exact⟨rfl,RPost.bad (s':=s1) (by rw[HR.out];exact congrArg Prod.snd (rLoop_stk _ _ _ _ he)) he (h2.below hQ) (t2.trans (Two2.ofBelow g b hQ)) rfl (k2.below hQ k2.lt)⟩
 have hQ:Below w2.heap.size w2 (w2.drewN q3):=belowN _
 have k3:=k2.below hQ k2.lt
 have h3:=h2.below hQ
 have t3:=t2.trans (Two2.ofBelow g b hQ)
 have z3:(w2.drewN q3).cell? ⟨b,i,none⟩=some (.slice none 0 0):=(k3.cell i).trans (D.has 0 _ rfl)
 have f3:=k3.frozen i
 have hgs:=grown_set (w2.drewN q3) b i (.slice none 0 0)
 have h4:=h3.laid hgs fx.ng fx.nc fx.ap
 have t4:=t3.trans (Two2.right hgs g)
 have k4:Blk _ b t (put cs i [.slice none 0 0]):=k3.set_ i (.slice none 0 0)
 have hst:=LInv.start (R:=RgRel) (E:=35) (size:=4) (f:=rRg) (N:=N) h4 he k4 t4
 clear k3 h3 t3 hgs h4 t4 k4 k2 h2 t2 hQ D
 go_wp2_with fail
 go_loopw [39] (fun iv wr=>LHead RgRel 35 4 rRg w g A n c l gc b t cs i N s1 iv wr) (fun iv _=>N-(intOf iv).toNat)
 case atStart=>exact⟨0,_,_,_,rfl,hst⟩
 case round=>
  clear hst z3 f3
  obtain⟨k,L,sk,v,rfl,hI⟩:=hrel
  by_cases hlt:k<N
  · have hd1:decide ((k:Int)<(N:Int))=true:=by simp;omega
    have hk0:(0:Int)≤(k:Int):=by omega
    have hk1:(k:Int)<((k+1:Nat):Int):=by omega
    have d0:=cl (hI.cr.blk.cell 0)
    have y0:wr.cell? ⟨b,i,none⟩=some v:=(hI.blk.cell i).trans (put_in [v] cs i 0 v rfl (by simp;omega))
    have bl2:=hI.blk.lt
    have hlen:=hI.len
    have hzz:=hI.two.size
    obtain⟨Av,qv,rfl,hqv,hqvm⟩:=Single.form hI.row
    rw[hlen]at hqv y0 hI
    have HI:=Lib.hid hI
    have hX:Below wr.heap.size wr (((wr.alloc (.cells #[.int .i64 0,.int .i64 0,.float .f64 0,.float .f64 0] 35)).alloc (.cells #[.int .i64 0,.int .i64 0,.float .f64 0,.float .f64 0] 35)).drew):=(((Below.refl _ _).alloc (Nat.le_refl _) _).alloc (by simp) _).drew
    obtain⟨xs,hown0,hrd⟩:=hI.round RgRel.kept RgRel.mn fx hlt hib (z:=[.int .i64 0,.int .i64 0,.float .f64 0,.float .f64 0]) rfl hX
    have HRD:=Lib.hid hrd
    have hrd0:=reads_new' (wr.alloc (.cells #[.int .i64 0,.int .i64 0,.float .f64 0,.float .f64 0] 35)) 35 [.int .i64 0,.int .i64 0,.float .f64 0,.float .f64 0] 4 rfl
    replace hrd0:=hrd0.drew
    clear hrd hI
    rw[hlen]at hown0
    go_wp2
    go_region_law (refine step_append_any _ rfl (.tmp 50) (.tmp 52) _ rfl w.heap.size 35 i0 _ 4 32 Tryz.underlying31 hi0 hz0 hz1 hz2 rfl (by omega) (.slice Av k qv) _ xs (by simp[Act.eval]) hown0 _ (some ⟨(wr.alloc (.cells #[.int .i64 0,.int .i64 0,.float .f64 0,.float .f64 0] 35)).heap.size,0,none⟩) 1 1 [.int .i64 0,.int .i64 0,.float .f64 0,.float .f64 0] (by simp[Act.eval]) hrd0 (by intro u hu;simp only[List.mem_cons,List.not_mem_nil,or_false]at hu;rcases hu with rfl|rfl|rfl|rfl<;>rfl) (by unfold maxLen;omega) (by omega) (by simp;omega) ?_;intro v' w5 hown5 hg5 hat5;obtain⟨y5,f5,rb,cap,cur,rfl,y6,h6,D6,t6,hfin⟩:=HRD.out v' w5 (by rw[hlen];exact hown5) hg5 hat5;have HF:=Lib.hid hfin;clear hfin)
    all_goals
        go_wp2_with fail
        refine(rcRange _ g A n c l sk gc rb _ cur (k*4) h6 HI.out.e D6).mono ?_
        intro e w7 hP
        rcases HF.out e w7 hP.m with ⟨rfl,hI7⟩|⟨rfl,hB⟩
        · go_wp2_with fail
          go_roundw
          case rel=>exact⟨k+1,_,_,_,by go_num,hI7⟩
          case measure=>simp[intOf];omega
        · go_wp2
          exact⟨rfl,by rw[HR.out];exact hB.post hP.1⟩
  · have hd1:decide ((k:Int)<(N:Int))=false:=by simp;omega
    go_wp2_with fail
    go_end0
    rw[HR.out]
    exact hI.done RgRel.mn (by omega) hlt
end Go.Proofs.YtcalkfgibflbnaaGreat
