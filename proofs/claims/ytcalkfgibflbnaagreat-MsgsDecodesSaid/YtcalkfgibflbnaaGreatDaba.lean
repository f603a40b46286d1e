/- Messages as plain Lean data; how their cells read; a message that came in. -/
import Derived.Test.YtcalkfgibflbnaaGreatDaaj
namespace Go.Proofs.YtcalkfgibflbnaaGreat
set_option maxHeartbeats 2000000
set_option maxRecDepth 100000
set_option linter.unusedVariables false
open Go.ChangeShapes Go.WideShapes Go.RowKit
structure Sn where
 key:ByteArray
 v:Vl
 s:Sp
def Sn.cells (a:Sn):List Value:=[.string a.key,.int .i64 a.v.k,.float .f64 a.v.n,.string a.v.t,.int .i64 a.s.w,.int .i64 a.s.l,.int .i64 a.s.n]
def Sn.ok (a:Sn):Prop:=a.key.size≤140737488351232∧a.v.ok∧a.s.ok
abbrev SnRel:Rel Sn:=Flat Sn.cells Sn.ok
theorem SnRel.kept:(SnRel).Kept:=Flat.kept _ _
theorem Sl.sn {w:World} {B n:Nat} {A:Option Addr} {l:List Sn} (h:Sl SnRel 7 w B A n l) {k:Nat} (hk:k<n):∃ad a,A=some ad∧l[k]?=some a∧(ad.add (k*7)).block<B∧a.ok∧w.cell? (ad.add (k*7))=some (.string a.key)∧
 w.cell? ⟨(ad.add (k*7)).block,(ad.add (k*7)).off+1,none⟩=some (.int .i64 a.v.k)∧w.cell? ⟨(ad.add (k*7)).block,(ad.add (k*7)).off+2,none⟩=some (.float .f64 a.v.n)∧w.cell? ⟨(ad.add (k*7)).block,(ad.add (k*7)).off+3,none⟩=some (.string a.v.t)∧
 w.cell? ⟨(ad.add (k*7)).block,(ad.add (k*7)).off+4,none⟩=some (.int .i64 a.s.w)∧w.cell? ⟨(ad.add (k*7)).block,(ad.add (k*7)).off+5,none⟩=some (.int .i64 a.s.l)∧w.cell? ⟨(ad.add (k*7)).block,(ad.add (k*7)).off+6,none⟩=some (.int .i64 a.s.n):=by
 obtain⟨ad,cs,a,e,hl,hb,_,hc,rfl,hok⟩:=h.at_ hk
 have e0:∀j,ad.add (k*7+j)=(ad.add (k*7)).add j:=fun j=>(add_of_add _ _ _).symm
 have c0:=hc 0 _ rfl
 have c1:=hc 1 _ rfl
 have c2:=hc 2 _ rfl
 have c3:=hc 3 _ rfl
 have c4:=hc 4 _ rfl
 have c5:=hc 5 _ rfl
 have c6:=hc 6 _ rfl
 rw[e0]at c1 c2 c3 c4 c5 c6
 exact⟨ad,a,e,hl,by rw[block_of_add];exact hb,hok,c0,c1,c2,c3,c4,c5,c6⟩
def RmRel:Rel Rc:=fun w B cs r=>∃h:Hds,cs=(r.vals h).toList∧r.ok∧h.caps∧RcLo w B r h
theorem RcLo.keep {w w':World} {B:Nat} {r:Rc} {h:Hds} (i:RcLo w B r h) (hk:∀p:Addr,p.block<B→w'.cell? p=w.cell? p):RcLo w' B r h:=
 ⟨i.rd.keep KyRel.kept hk,i.wr.keep WtRel.kept hk,i.ps.keep NmRel.kept hk,i.pr.keep WtRel.kept hk,i.hs.keep HsRel.kept hk,i.pn.keep PnRel.kept hk,i.na,i.nb,i.nc,i.nd,i.ne,i.nf⟩
theorem RmRel.kept:(RmRel).Kept:=
 ⟨fun w w' B cs r ⟨h,e,o,c,i⟩ hk=>⟨h,e,o,c,i.keep hk⟩,fun w B B' cs r ⟨h,e,o,c,i⟩ hb=>⟨h,e,o,c,i.more hb⟩⟩
theorem Sl.rm {w:World} {B n:Nat} {A:Option Addr} {l:List Rc} (h:Sl RmRel 29 w B A n l) {k:Nat} (hk:k<n):∃(ad:Addr) (r:Rc) (g:Hds),A=some ad∧l[k]?=some r∧(ad.add (k*29)).block<B∧(∀(j:Nat) (u:Value),(r.vals g).toList[j]?=some u→w.cell? ((ad.add (k*29)).add j)=some u)∧r.ok∧g.caps∧RcLo w B r g:=by
 obtain⟨ad,cs,a,e,hl,hb,_,hc,g,rfl,o,c,i⟩:=h.at_ hk
 refine⟨ad,a,g,e,hl,by rw[block_of_add];exact hb,fun j u hj=>?_,o,c,i⟩
 have:=hc j u hj
 rw[←add_of_add]at this
 exact this
structure Mg where
 k:Int
 fr:Int
 ton:Int
 t:Tx
 rg:Int
 ep:Int
 cd:Int
 s:Sp
 pv:Sp
 cm:Bool
 n:Int
 mx:Int
 ks:List ByteArray
 sn:List Sn
 ws:List Wt
 ps:List Int
 rs:List Rg
 rc:List Rc
 st:Stt
abbrev Mg.arr (m:Mg) (v1 v2 v3 v4 v5 v6 v7 v8:Value):Array Value:=#[.int .i64 m.k,.int .i64 m.fr,.int .i64 m.ton,.int .i64 m.t.c,.int .i64 m.t.l,.int .i64 m.t.s,.int .i64 m.rg,.int .i64 m.ep,.int .i64 m.cd,.int .i64 m.s.w,.int .i64 m.s.l,.int .i64 m.s.n,.int .i64 m.pv.w,.int .i64 m.pv.l,.int .i64 m.pv.n,.bool m.cm,.int .i64 m.n,.int .i64 m.mx,v1,v2,v3,v4,v5,v6,.int .i64 m.st.r.id,.int .i64 m.st.r.ep,.float .f64 m.st.r.lo,.float .f64 m.st.r.hi,.int .i64 m.st.f.w,.int .i64 m.st.f.l,.int .i64 m.st.f.n,.int .i64 m.st.c.w,.int .i64 m.st.c.l,.int .i64 m.st.c.n,v7,v8]
structure Hm where
 a:Hd
 b:Hd
 c:Hd
 d:Hd
 e:Hd
 f:Hd
 g:Hd
 i:Hd
abbrev Mg.vals (m:Mg) (h:Hm):Array Value:=m.arr (.slice h.a.A h.a.n h.a.c) (.slice h.b.A h.b.n h.b.c) (.slice h.c.A h.c.n h.c.c) (.slice h.d.A h.d.n h.d.c) (.slice h.e.A h.e.n h.e.c) (.slice h.f.A h.f.n h.f.c) (.slice h.g.A h.g.n h.g.c) (.slice h.i.A h.i.n h.i.c)
structure Hm.caps (h:Hm):Prop where
 a:h.a.n≤h.a.c∧h.a.c≤maxLen
 b:h.b.n≤h.b.c∧h.b.c≤maxLen
 c:h.c.n≤h.c.c∧h.c.c≤maxLen
 d:h.d.n≤h.d.c∧h.d.c≤maxLen
 e:h.e.n≤h.e.c∧h.e.c≤maxLen
 f:h.f.n≤h.f.c∧h.f.c≤maxLen
 g:h.g.n≤h.g.c∧h.g.c≤maxLen
 i:h.i.n≤h.i.c∧h.i.c≤maxLen
structure MgLo (w:World) (B:Nat) (m:Mg) (h:Hm):Prop where
 ks:Sl KyRel 1 w B h.a.A h.a.n m.ks
 sn:Sl SnRel 7 w B h.b.A h.b.n m.sn
 ws:Sl WtRel 4 w B h.c.A h.c.n m.ws
 ps:Sl NmRel 1 w B h.d.A h.d.n m.ps
 rs:Sl RgRel 4 w B h.e.A h.e.n m.rs
 rc:Sl RmRel 29 w B h.f.A h.f.n m.rc
 hs:Sl HsRel 2 w B h.g.A h.g.n m.st.h
 pn:Sl PnRel 8 w B h.i.A h.i.n m.st.p
section
variable {w w':World} {B B':Nat} {m:Mg} {h:Hm}
theorem MgLo.keep (i:MgLo w B m h) (hk:∀p:Addr,p.block<B→w'.cell? p=w.cell? p):MgLo w' B m h:=
 ⟨i.ks.keep KyRel.kept hk,i.sn.keep SnRel.kept hk,i.ws.keep WtRel.kept hk,i.ps.keep NmRel.kept hk,i.rs.keep RgRel.kept hk,i.rc.keep RmRel.kept hk,i.hs.keep HsRel.kept hk,i.pn.keep PnRel.kept hk⟩
theorem MgLo.more (i:MgLo w B m h) (hb:B≤B'):MgLo w B' m h:=
 ⟨i.ks.more KyRel.kept hb,i.sn.more SnRel.kept hb,i.ws.more WtRel.kept hb,i.ps.more NmRel.kept hb,i.rs.more RgRel.kept hb,i.rc.more RmRel.kept hb,i.hs.more HsRel.kept hb,i.pn.more PnRel.kept hb⟩
theorem MgLo.below (i:MgLo w B m h) (hb:Below B w w'):MgLo w' B m h:=i.keep fun _ hp=>hb.cell hp
theorem MgLo.up (i:MgLo w w.heap.size m h) (hb:Below w.heap.size w w'):MgLo w' w'.heap.size m h:=(i.below hb).more hb.size
end
structure Mg.ok (m:Mg):Prop where
 k:i64ok m.k
 fr:i64ok m.fr
 ton:i64ok m.ton
 t:m.t.ok
 rg:i64ok m.rg
 ep:i64ok m.ep
 cd:i64ok m.cd
 s:m.s.ok
 pv:m.pv.ok
 n:i64ok m.n
 mx:i64ok m.mx
 sr:m.st.r.ok
 sf:m.st.f.ok
 sc:m.st.c.ok
section
variable {H:Type} {enc:TypeId×Value→H} {w:World}
end
end Go.Proofs.YtcalkfgibflbnaaGreat
namespace Go.Proofs.YtcalkfgibflbnaaGreat
set_option linter.unusedVariables false
open Go.RowKit Fl
abbrev zSp:Sp:=⟨0,0,0⟩
abbrev zTx:Tx:=⟨0,0,0⟩
abbrev zSt:Stt:=⟨⟨0,0,0,0⟩,⟨0,0,0⟩,⟨0,0,0⟩,[],[]⟩
abbrev zRc:Rc:=⟨0,zTx,zSp,zSp,false,0,0,[],[],[],[],zSt⟩
abbrev zHds:Hds:=⟨Hd.nil,Hd.nil,Hd.nil,Hd.nil,Hd.nil,Hd.nil⟩
theorem i64z:i64ok 0:=by unfold i64ok;omega
theorem zSp_ok:zSp.ok:=⟨i64z,i64z,i64z⟩
theorem zTx_ok:zTx.ok:=⟨i64z,i64z,i64z⟩
theorem zRg_ok:zSt.r.ok:=⟨i64z,i64z,(by show 0<_;omega),(by show 0<_;omega)⟩
theorem zRc_ok:zRc.ok:=⟨i64z,zTx_ok,zSp_ok,zSp_ok,i64z,(by show 0<_;omega),zRg_ok,zSp_ok,zSp_ok⟩
theorem capZ:(0:Nat)≤0∧0≤maxLen:=⟨Nat.le_refl _,Nat.zero_le _⟩
inductive RF|k|t|s|pv|cm|n|pt|wr|ps|pr|st|pn
def RF.rd:RF→Stp Rc
 | .k=>rSet rInt fun a x=>{x with k:=a}
 | .t=>rSet rTx fun a x=>{x with t:=a}
 | .s=>rSet rSp fun a x=>{x with s:=a}
 | .pv=>rSet rSp fun a x=>{x with pv:=a}
 | .cm=>rSet rFlag fun a x=>{x with cm:=a}
 | .n=>rSet rInt fun a x=>{x with n:=a}
 | .pt=>rSet rFloat fun a x=>{x with pt:=a}
 | .wr=>rSet (rLs rWt) fun a x=>{x with wr:=a}
 | .ps=>rSet (rLs rInt) fun a x=>{x with ps:=a}
 | .pr=>rSet (rLs rWt) fun a x=>{x with pr:=a}
 | .st=>rSet rSt fun a x=>{x with st:=a}
 | .pn=>rSet rPn fun p x=>{x with t:=p.t,s:=p.s,rd:=p.r,wr:=p.w}
def bodyF (k:Int):List RF:=
 if k=1 then [.st] else if k=2 then [.n] else if k=3 then [.pn,.ps] else if k=4 then [.t,.cm,.s] else if k=5 then [.s] else if k=6 then [.pt,.n,.s] else if k=7 then [.n] else if k=8 then [.n] else
 if k=9 then [.t,.s,.ps] else if k=10 then [.t] else if k=11 then [.pv,.s,.t,.wr] else if k=12 then [.s,.pr] else []
def rRec:Rdf Rc:=fun l s=>rSeq RF.rd (.k::bodyF (rInt l s).1) zRc l s
theorem RF.stk:StkS RF.rd:=fun d x=>match d with
 | .k=>rSet_stk rInt_stk x
 | .t=>rSet_stk rTx_stk x
 | .s=>rSet_stk rSp_stk x
 | .pv=>rSet_stk rSp_stk x
 | .cm=>rSet_stk rFlag_stk x
 | .n=>rSet_stk rInt_stk x
 | .pt=>rSet_stk rFloat_stk x
 | .wr=>rSet_stk (rLs_stk _) x
 | .ps=>rSet_stk (rLs_stk _) x
 | .pr=>rSet_stk (rLs_stk _) x
 | .st=>rSet_stk rSt_stk x
 | .pn=>rSet_stk rPn_stk x
theorem RcLo.mn {w w':World} {B:Nat} {r:Rc} {h:Hds} (i:RcLo w B r h) (hk:∀p u,p.block<B→w.cell? p=some u→w'.cell? p=some u):RcLo w' B r h:=
 ⟨i.rd.mono KyRel.mono hk,i.wr.mono WtRel.mono hk,i.ps.mono NmRel.mono hk,i.pr.mono WtRel.mono hk,i.hs.mono HsRel.mono hk,i.pn.mono PnRel.mono hk,i.na,i.nb,i.nc,i.nd,i.ne,i.nf⟩
abbrev rcK:Bx Rc Hds:=⟨69,29,Rc.vals,fun w B x h=>x.ok∧h.caps∧RcLo w B x h⟩
theorem rcG:(rcK).Good:=⟨fun _ _=>rfl,fun w w' B B' x h i hk hB=>⟨i.1,i.2.1,(i.2.2.keep hk).more hB⟩,fun w w' B x h i hk=>⟨i.1,i.2.1,i.2.2.mn hk⟩⟩
theorem rcZ (w:World) (B:Nat):(rcK).lo w B zRc zHds:=⟨zRc_ok,⟨capZ,capZ,capZ,capZ,capZ,capZ⟩,⟨Sl.nil,Sl.nil,Sl.nil,Sl.nil,Sl.nil,Sl.nil,Nat.zero_le _,Nat.zero_le _,Nat.zero_le _,Nat.zero_le _,Nat.zero_le _,Nat.zero_le _⟩⟩
theorem rf_k:Fld rcK NmRel 1 0 (fun a x=>{x with k:=a}) (fun _ h=>h):=by
 rintro w B x h vs a ⟨ok,cp,⟨L1,L2,L3,L4,L5,L6,L7,L8,L9,L10,L11,L12⟩⟩ ⟨rfl,hok⟩ -
 exact⟨rfl,⟨hok,ok.t,ok.s,ok.pv,ok.n,ok.pt,ok.rg,ok.fl,ok.cl⟩,cp,⟨L1,L2,L3,L4,L5,L6,L7,L8,L9,L10,L11,L12⟩⟩
theorem rf_t:Fld rcK TxRel 3 1 (fun a x=>{x with t:=a}) (fun _ h=>h):=by
 rintro w B x h vs a ⟨ok,cp,⟨L1,L2,L3,L4,L5,L6,L7,L8,L9,L10,L11,L12⟩⟩ ⟨rfl,hok⟩ -
 exact⟨rfl,⟨ok.k,hok,ok.s,ok.pv,ok.n,ok.pt,ok.rg,ok.fl,ok.cl⟩,cp,⟨L1,L2,L3,L4,L5,L6,L7,L8,L9,L10,L11,L12⟩⟩
theorem rf_s:Fld rcK SpRel 3 4 (fun a x=>{x with s:=a}) (fun _ h=>h):=by
 rintro w B x h vs a ⟨ok,cp,⟨L1,L2,L3,L4,L5,L6,L7,L8,L9,L10,L11,L12⟩⟩ ⟨rfl,hok⟩ -
 exact⟨rfl,⟨ok.k,ok.t,hok,ok.pv,ok.n,ok.pt,ok.rg,ok.fl,ok.cl⟩,cp,⟨L1,L2,L3,L4,L5,L6,L7,L8,L9,L10,L11,L12⟩⟩
theorem rf_pv:Fld rcK SpRel 3 7 (fun a x=>{x with pv:=a}) (fun _ h=>h):=by
 rintro w B x h vs a ⟨ok,cp,⟨L1,L2,L3,L4,L5,L6,L7,L8,L9,L10,L11,L12⟩⟩ ⟨rfl,hok⟩ -
 exact⟨rfl,⟨ok.k,ok.t,ok.s,hok,ok.n,ok.pt,ok.rg,ok.fl,ok.cl⟩,cp,⟨L1,L2,L3,L4,L5,L6,L7,L8,L9,L10,L11,L12⟩⟩
theorem rf_cm:Fld rcK BoRel 1 10 (fun a x=>{x with cm:=a}) (fun _ h=>h):=by
 rintro w B x h vs a ⟨ok,cp,⟨L1,L2,L3,L4,L5,L6,L7,L8,L9,L10,L11,L12⟩⟩ ⟨rfl,hok⟩ -
 exact⟨rfl,⟨ok.k,ok.t,ok.s,ok.pv,ok.n,ok.pt,ok.rg,ok.fl,ok.cl⟩,cp,⟨L1,L2,L3,L4,L5,L6,L7,L8,L9,L10,L11,L12⟩⟩
theorem rf_n:Fld rcK NmRel 1 11 (fun a x=>{x with n:=a}) (fun _ h=>h):=by
 rintro w B x h vs a ⟨ok,cp,⟨L1,L2,L3,L4,L5,L6,L7,L8,L9,L10,L11,L12⟩⟩ ⟨rfl,hok⟩ -
 exact⟨rfl,⟨ok.k,ok.t,ok.s,ok.pv,hok,ok.pt,ok.rg,ok.fl,ok.cl⟩,cp,⟨L1,L2,L3,L4,L5,L6,L7,L8,L9,L10,L11,L12⟩⟩
theorem rf_pt:Fld rcK FlRel 1 12 (fun a x=>{x with pt:=a}) (fun _ h=>h):=by
 rintro w B x h vs a ⟨ok,cp,⟨L1,L2,L3,L4,L5,L6,L7,L8,L9,L10,L11,L12⟩⟩ ⟨rfl,hok⟩ -
 exact⟨rfl,⟨ok.k,ok.t,ok.s,ok.pv,ok.n,hok,ok.rg,ok.fl,ok.cl⟩,cp,⟨L1,L2,L3,L4,L5,L6,L7,L8,L9,L10,L11,L12⟩⟩
theorem rf_wr:Fld rcK (LsRel WtRel 4) 1 14 (fun a x=>{x with wr:=a}) (fun vs h=>{h with b:=hdAt vs 0}):=by
 rintro w B x h vs a ⟨ok,cp,⟨L1,L2,L3,L4,L5,L6,L7,L8,L9,L10,L11,L12⟩⟩ ⟨v,rfl,A,n,c,rfl,q1,q2,sl⟩ -
 exact⟨rfl,⟨ok.k,ok.t,ok.s,ok.pv,ok.n,ok.pt,ok.rg,ok.fl,ok.cl⟩,⟨cp.a,⟨q1,q2⟩,cp.c,cp.d,cp.e,cp.f⟩,⟨L1,sl,L3,L4,L5,L6,L7,(Nat.le_trans q1 q2),L9,L10,L11,L12⟩⟩
theorem rf_ps:Fld rcK (LsRel NmRel 1) 1 15 (fun a x=>{x with ps:=a}) (fun vs h=>{h with c:=hdAt vs 0}):=by
 rintro w B x h vs a ⟨ok,cp,⟨L1,L2,L3,L4,L5,L6,L7,L8,L9,L10,L11,L12⟩⟩ ⟨v,rfl,A,n,c,rfl,q1,q2,sl⟩ -
 exact⟨rfl,⟨ok.k,ok.t,ok.s,ok.pv,ok.n,ok.pt,ok.rg,ok.fl,ok.cl⟩,⟨cp.a,cp.b,⟨q1,q2⟩,cp.d,cp.e,cp.f⟩,⟨L1,L2,sl,L4,L5,L6,L7,L8,(Nat.le_trans q1 q2),L10,L11,L12⟩⟩
theorem rf_pr:Fld rcK (LsRel WtRel 4) 1 16 (fun a x=>{x with pr:=a}) (fun vs h=>{h with d:=hdAt vs 0}):=by
 rintro w B x h vs a ⟨ok,cp,⟨L1,L2,L3,L4,L5,L6,L7,L8,L9,L10,L11,L12⟩⟩ ⟨v,rfl,A,n,c,rfl,q1,q2,sl⟩ -
 exact⟨rfl,⟨ok.k,ok.t,ok.s,ok.pv,ok.n,ok.pt,ok.rg,ok.fl,ok.cl⟩,⟨cp.a,cp.b,cp.c,⟨q1,q2⟩,cp.e,cp.f⟩,⟨L1,L2,L3,sl,L5,L6,L7,L8,L9,(Nat.le_trans q1 q2),L11,L12⟩⟩
theorem rf_st:Fld rcK SttRel 12 17 (fun a x=>{x with st:=a}) (fun vs h=>{h with e:=hdAt vs 10,f:=hdAt vs 11}):=by
 rintro w B x h vs a ⟨ok,cp,⟨L1,L2,L3,L4,L5,L6,L7,L8,L9,L10,L11,L12⟩⟩ ⟨v1,v2,rfl,p1,p2,p3,⟨A1,n1,c1,rfl,q1,q2,y1⟩,A2,n2,c2,rfl,q3,q4,y2⟩ -
 exact⟨by kernel_rfl,⟨ok.k,ok.t,ok.s,ok.pv,ok.n,ok.pt,p1,p2,p3⟩,⟨cp.a,cp.b,cp.c,cp.d,⟨q1,q2⟩,⟨q3,q4⟩⟩,⟨L1,L2,L3,L4,y1,y2,L7,L8,L9,L10,(Nat.le_trans q1 q2),(Nat.le_trans q3 q4)⟩⟩
theorem SttRel.mono:(show Rel Stt from SttRel).Mono:=fun w w' B cs a ⟨x,y,e,a1,a2,a3,h4,h5⟩ hk=>⟨x,y,e,a1,a2,a3,h4.mono HsRel.mono hk,h5.mono PnRel.mono hk⟩
end Go.Proofs.YtcalkfgibflbnaaGreat
namespace Go.Proofs.YtcalkfgibflbnaaGreat
set_option maxHeartbeats 4000000
set_option maxRecDepth 100000
set_option linter.unusedVariables false
open Go.RowKit Fl
attribute [local go_sem] run_store_float
def nodeB (n:Int):Bool:=rgI n||(decide (20<n)&&decide (n≤22))||n==31||n==32
theorem mnode_any (n:Int) (w:World):Calls Tryz.prog 13 #[.int .i64 n] w fun e w'=>e=.returned (.bool (nodeB n))∧w=w':=by
 have hM:=fun w=>mranges_any n w
 have HI:=Lib.hid (show nodeB n=(rgI n||(decide (20<n)&&decide (n≤22))||n==31||n==32) from rfl)
 generalize rgI n=b0 at*
 cases b0<;>cases h1:decide (20<n)<;>cases h2:decide (n≤22)<;>cases h3:(n==31)<;>cases h4:(n==32)
 all_goals
  rw[h1,h2,h3,h4]at HI
  go_enter Tryz.func13,Tryz.ntmps13
  go_wp2_with ((with_reducible refine(hM _).mono ?_);rintro e w1 ⟨rfl,rfl⟩)
  go_ret
  rw[HI.out]
  exact⟨rfl,rfl⟩
def snFine (a:Sn):Bool:=a.s.may&&a.v.may&& !(a.s.zero&& !(a.v.k==0))
def seenB (l:List Sn):Bool:=l.all snFine&&riseB (l.map (·.key))
def SeenR (l:List Sn) (w:World) (v i:Value) (wr:World):Prop:=∃k:Nat,k≤l.length∧i=.int .i64 (k:Int)∧OwnL keyCells 9 1 w.heap.size wr v ((l.take k).map (·.key))∧(l.drop k).all snFine=l.all snFine∧Below w.heap.size w wr
theorem mseen_any (A:Option Addr) (n c:Nat) (l:List Sn) (w:World) (h:Sl SnRel 7 w w.heap.size A n l) (hn:n≤1000000):
 Calls Tryz.prog 104 #[.slice A n c] w fun e w'=>e=.returned (.bool (seenB l))∧Below w.heap.size w w':=by
 obtain⟨i0,hi0,hz0,hz1,hz2⟩:=info_parts ky_info
 have hl:=h.1
 have hle:l.length≤n:=by omega
 have hge:n≤l.length:=by omega
 have HK:=Lib.hid (fun k hk=>(Sl.all_ok h k hk).1:∀a∈l,a.key.size≤140737488351232)
 clear hl
 go_enter Tryz.func104,Tryz.ntmps104
 go_wp2
 go_loopw [3,8] (fun v i wr=>SeenR l w v i wr) (fun _ i _=>n-(intOf i).toNat)
 case atStart=>exact⟨0,by omega,rfl,OwnL.nil _,rfl,Below.refl _ _⟩
 case round=>
  obtain⟨k,hk,rfl,ho,hs,hb⟩:=hrel
  have hzz:=hb.size
  by_cases hlt:k<n
  · obtain⟨ad,a,rfl,ha,hbk,hok,c0,c1,c2,c3,c4,c5,c6⟩:=((h.below SnRel.kept hb).more SnRel.kept hb.size).sn hlt
    have hd1:decide ((k:Int)<(n:Int))=true:=by simp;omega
    have hk0:(0:Int)≤(k:Int):=by omega
    have hk1:(k:Int)<(n:Int):=by omega
    have HS:=Lib.hid (show (l.take (k+1)).map (·.key)=(l.take k).map (·.key)++[a.key] by rw[List.take_add_one,ha];simp)
    have hln:((l.take k).map (·.key)).length≤1000000:=by simp;omega
    rw[all_drop ha]at hs
    clear ha
    obtain⟨A1,q1,rfl,hq1,hq1m⟩:=ho.form
    generalize (l.take k).map (·.key)=ks at*
    have hX:Below wr.heap.size wr ((wr.alloc (.cells a.cells.toArray 104)).alloc (.cells (keyCells a.key).toArray 9)):=((Below.refl _ _).alloc (Nat.le_refl _) _).alloc (by simp) _
    have hown0:=ho.below hX
    have hrd0:=reads_new' (wr.alloc (.cells a.cells.toArray 104)) 9 (keyCells a.key) 1 rfl
    rw[show (wr.alloc (.cells a.cells.toArray 104)).heap.size=wr.heap.size+1 from by simp]at hrd0
    have hsz0:((wr.alloc (.cells a.cells.toArray 104)).alloc (.cells (keyCells a.key).toArray 9)).heap.size=wr.heap.size+2:=by simp
    have bS:=(Blk.new wr 104 a.cells.toArray).alloc (.cells (keyCells a.key).toArray 9)
    go_upto_region 6 with (first
        |(at_builtin
          refine wpList_append_any _ rfl (.tmp 12) (.tmp 15) _ rfl w.heap.size 9 i0 _ 1 16 Tryz.underlying27 hi0 hz0 hz1 hz2 rfl (by omega) (.slice A1 ks.length q1) _ (ks.flatMap keyCells) (by rfl) hown0 _ (some ⟨wr.heap.size+1,0,none⟩) 1 1 (keyCells a.key) (by rfl)
           hrd0 (ky_one a.key) (by unfold maxLen;omega) (by omega) (by simp;omega) ?_
          intro v3 w3 hown3 hg3 hat3
          obtain⟨A3,q3,rfl,hq3,hq3m⟩:=own_form hown3))
    have hp:=OwnL.push a.key hown3
    have hbw:=(hb.trans (hX.mono hzz)).grown hg3 (by simp;omega) (fun q hq=>(hown0.lt q hq).1)
    have bS3:=bS.grown hg3 (fun e=>by have:=(ho.lt _ e.symm).2;omega)
    have x1:=cl (bS3.cell 1)
    have x2:=cl (bS3.cell 2)
    have x3:=cl (bS3.cell 3)
    have x4:=cl (bS3.cell 4)
    have x5:=cl (bS3.cell 5)
    have x6:=cl (bS3.cell 6)
    have hlx:=bS3.lt
    have hm:=fun w=>hmay_any a.s w
    have hv:=fun w=>vmay_any a.v w
    have hzr:=fun w=>zero_run a.s w
    have HF:=Lib.hid (show snFine a=(a.s.may&&a.v.may&& !(a.s.zero&& !(a.v.k==0))) from rfl)
    have HD:=Lib.hid hs
    have HP:=Lib.hid hp
    clear hs hp hown3 hg3 hat3 hown0 hrd0 hsz0 hX bS bS3 c0 c1 c2 c3 c4 c5 c6 ho hq3 hq3m hbk
    generalize wr.heap.size=bx at*
    generalize a.s.may=u1 at*
    generalize a.v.may=u2 at*
    generalize a.s.zero=u3 at*
    have hne:(a.v.k !=0)= !(a.v.k==0):=rfl
    generalize (a.v.k==0)=u4 at*
    cases u1<;>cases u2<;>cases u3<;>cases u4
    all_goals
        go_wp2_with (first
         |((with_reducible refine(hm _).mono ?_);rintro e w4 ⟨rfl,rfl⟩
           have h4:Below w3.heap.size w3 (w3.alloc (.cells #[.int .i64 a.s.w,.int .i64 a.s.l,.int .i64 a.s.n] 26)):=by go_grown
           have x1':=(h4.cell (p:=⟨bx,1,none⟩) hlx).trans x1
           have x2':=(h4.cell (p:=⟨bx,2,none⟩) hlx).trans x2
           have x3':=(h4.cell (p:=⟨bx,3,none⟩) hlx).trans x3)
         |((with_reducible refine(hv _).mono ?_);rintro e w5 ⟨rfl,hb5⟩
           have h5:=h4.trans (hb5.mono h4.size)
           have y1:=(h5.cell (p:=⟨bx,1,none⟩) hlx).trans x1
           have y4:=(h5.cell (p:=⟨bx,4,none⟩) hlx).trans x4
           have y5:=(h5.cell (p:=⟨bx,5,none⟩) hlx).trans x5
           have y6:=(h5.cell (p:=⟨bx,6,none⟩) hlx).trans x6))
        first
         |(go_roundw
           case rel=>
            refine⟨k+1,by omega,by go_num,?_,?_,hbw.trans (h5.mono hbw.size)⟩
            · rw[HS.out];exact HP.out.below h5
            · rw[←HD.out,HF.out];rfl
           case measure=>simp[intOf];omega)
         |(go_ret
           have e:seenB l=false:=by unfold seenB;rw[←HD.out,HF.out];rfl
           rw[e]
           first
            |exact⟨rfl,hbw.trans (h5.mono hbw.size)⟩
            |exact⟨rfl,hbw.trans (h4.mono hbw.size)⟩)
  · have hd1:decide ((k:Int)<(n:Int))=false:=by simp;omega
    rw[List.take_of_length_le (by omega)]at ho
    rw[List.drop_of_length_le (by omega)]at hs
    have HE:=Lib.hid (show seenB l=riseB (l.map (·.key)) by unfold seenB;rw[←hs];rfl)
    obtain⟨A1,q1,rfl,hq1,hq1m⟩:=ho.form
    have hkk:=ho.sl (ok:=fun k=>k.size≤140737488351232) (by omega) ky_len (fun k hk=>by obtain⟨a,ha,rfl⟩:=List.mem_map.1 hk;exact HK.out a ha)
    obtain⟨_,_,_,ee,-,-,hkk⟩:=hkk
    injection ee with e1 e2 e3
    subst e1 e2 e3
    have hR:=mrise_any A1 _ q1 (l.map (·.key)) wr hkk (by rw[List.length_map];unfold maxLen;omega)
    rw[List.length_map]at hR
    clear hs ho
    go_wp2_with ((with_reducible refine hR.mono ?_);rintro e w4 ⟨rfl,rfl⟩)
    go_ret
    rw[HE.out]
    exact⟨rfl,hb⟩
def wrtB (l:List Wt):Bool:=(l.all fun a=>a.v.may)&&riseB (l.map (·.key))
def WrtR (l:List Wt) (w:World) (v i:Value) (wr:World):Prop:=∃k:Nat,k≤l.length∧i=.int .i64 (k:Int)∧OwnL keyCells 9 1 w.heap.size wr v ((l.take k).map (·.key))∧((l.drop k).all fun a=>a.v.may)=(l.all fun a=>a.v.may)∧Below w.heap.size w wr
theorem mwritten_any (A:Option Addr) (n c:Nat) (l:List Wt) (w:World) (h:Sl WtRel 4 w w.heap.size A n l) (hn:n≤1000000):
 Calls Tryz.prog 105 #[.slice A n c] w fun e w'=>e=.returned (.bool (wrtB l))∧Below w.heap.size w w':=by
 obtain⟨i0,hi0,hz0,hz1,hz2⟩:=info_parts ky_info
 have hl:=h.1
 have hle:l.length≤n:=by omega
 have hge:n≤l.length:=by omega
 have HK:=Lib.hid (fun k hk=>(Sl.all_ok h k hk).1:∀a∈l,a.key.size≤140737488351232)
 clear hl
 go_enter Tryz.func105,Tryz.ntmps105
 go_wp2
 go_loopw [3,8] (fun v i wr=>WrtR l w v i wr) (fun _ i _=>n-(intOf i).toNat)
 case atStart=>exact⟨0,by omega,rfl,OwnL.nil _,rfl,Below.refl _ _⟩
 case round=>
  obtain⟨k,hk,rfl,ho,hs,hb⟩:=hrel
  have hzz:=hb.size
  by_cases hlt:k<n
  · obtain⟨ad,a,rfl,ha,hbk,hok,c0,c1,c2,c3⟩:=((h.below WtRel.kept hb).more WtRel.kept hb.size).wt hlt
    have hd1:decide ((k:Int)<(n:Int))=true:=by simp;omega
    have hk0:(0:Int)≤(k:Int):=by omega
    have hk1:(k:Int)<(n:Int):=by omega
    have HS:=Lib.hid (show (l.take (k+1)).map (·.key)=(l.take k).map (·.key)++[a.key] by rw[List.take_add_one,ha];simp)
    have hln:((l.take k).map (·.key)).length≤1000000:=by simp;omega
    rw[all_drop ha]at hs
    clear ha
    obtain⟨A1,q1,rfl,hq1,hq1m⟩:=ho.form
    generalize (l.take k).map (·.key)=ks at*
    have hX:Below wr.heap.size wr ((wr.alloc (.cells a.cells.toArray 61)).alloc (.cells (keyCells a.key).toArray 9)):=((Below.refl _ _).alloc (Nat.le_refl _) _).alloc (by simp) _
    have hown0:=ho.below hX
    have hrd0:=reads_new' (wr.alloc (.cells a.cells.toArray 61)) 9 (keyCells a.key) 1 rfl
    rw[show (wr.alloc (.cells a.cells.toArray 61)).heap.size=wr.heap.size+1 from by simp]at hrd0
    have hsz0:((wr.alloc (.cells a.cells.toArray 61)).alloc (.cells (keyCells a.key).toArray 9)).heap.size=wr.heap.size+2:=by simp
    have bS:=(Blk.new wr 61 a.cells.toArray).alloc (.cells (keyCells a.key).toArray 9)
    go_upto_region 6 with (first
        |(at_builtin
          refine wpList_append_any _ rfl (.tmp 12) (.tmp 15) _ rfl w.heap.size 9 i0 _ 1 16 Tryz.underlying27 hi0 hz0 hz1 hz2 rfl (by omega) (.slice A1 ks.length q1) _ (ks.flatMap keyCells) (by rfl) hown0 _ (some ⟨wr.heap.size+1,0,none⟩) 1 1 (keyCells a.key) (by rfl)
           hrd0 (ky_one a.key) (by unfold maxLen;omega) (by omega) (by simp;omega) ?_
          intro v3 w3 hown3 hg3 hat3
          obtain⟨A3,q3,rfl,hq3,hq3m⟩:=own_form hown3))
    have hp:=OwnL.push a.key hown3
    have hbw:=(hb.trans (hX.mono hzz)).grown hg3 (by simp;omega) (fun q hq=>(hown0.lt q hq).1)
    have bS3:=bS.grown hg3 (fun e=>by have:=(ho.lt _ e.symm).2;omega)
    have x1:=cl (bS3.cell 1)
    have x2:=cl (bS3.cell 2)
    have x3:=cl (bS3.cell 3)
    have hlx:=bS3.lt
    have hv:=fun w=>vmay_any a.v w
    have HD:=Lib.hid hs
    have HP:=Lib.hid hp
    clear hs hp hown3 hg3 hat3 hown0 hrd0 hsz0 hX bS bS3 c0 c1 c2 c3 ho hq3 hq3m hbk
    generalize wr.heap.size=bx at*
    generalize a.v.may=u2 at*
    cases u2
    all_goals
        go_wp2_with ((with_reducible refine(hv _).mono ?_);rintro e w5 ⟨rfl,h5⟩)
        first
         |(go_roundw
           case rel=>
            refine⟨k+1,by omega,by go_num,?_,?_,hbw.trans (h5.mono hbw.size)⟩
            · rw[HS.out];exact HP.out.below h5
            · rw[←HD.out];rfl
           case measure=>simp[intOf];omega)
         |(go_ret
           have e:wrtB l=false:=by unfold wrtB;rw[←HD.out];rfl
           rw[e]
           exact⟨rfl,hbw.trans (h5.mono hbw.size)⟩)
  · have hd1:decide ((k:Int)<(n:Int))=false:=by simp;omega
    rw[List.take_of_length_le (by omega)]at ho
    rw[List.drop_of_length_le (by omega)]at hs
    have HE:=Lib.hid (show wrtB l=riseB (l.map (·.key)) by unfold wrtB;rw[←hs];rfl)
    obtain⟨A1,q1,rfl,hq1,hq1m⟩:=ho.form
    have hkk:=ho.sl (ok:=fun k=>k.size≤140737488351232) (by omega) ky_len (fun k hk=>by obtain⟨a,ha,rfl⟩:=List.mem_map.1 hk;exact HK.out a ha)
    obtain⟨_,_,_,ee,-,-,hkk⟩:=hkk
    injection ee with e1 e2 e3
    subst e1 e2 e3
    have hR:=mrise_any A1 _ q1 (l.map (·.key)) wr hkk (by rw[List.length_map];unfold maxLen;omega)
    rw[List.length_map]at hR
    clear hs ho
    go_wp2_with ((with_reducible refine hR.mono ?_);rintro e w4 ⟨rfl,rfl⟩)
    go_ret
    rw[HE.out]
    exact⟨rfl,hb⟩
theorem mgC {w:World} {g:Nat} {t:TypeId} {m:Mg} {v1 v2 v3 v4 v5 v6 v7 v8:Value} (h:Blk w g t (m.arr v1 v2 v3 v4 v5 v6 v7 v8)):g<w.heap.size∧w.cell? ⟨g,0,none⟩=some (.int .i64 m.k)∧w.cell? ⟨g,1,none⟩=some (.int .i64 m.fr)∧w.cell? ⟨g,2,none⟩=some (.int .i64 m.ton)∧w.cell? ⟨g,3,none⟩=some (.int .i64 m.t.c)∧w.cell? ⟨g,4,none⟩=some (.int .i64 m.t.l)∧w.cell? ⟨g,5,none⟩=some (.int .i64 m.t.s)∧w.cell? ⟨g,6,none⟩=some (.int .i64 m.rg)∧w.cell? ⟨g,7,none⟩=some (.int .i64 m.ep)∧w.cell? ⟨g,8,none⟩=some (.int .i64 m.cd)∧w.cell? ⟨g,9,none⟩=some (.int .i64 m.s.w)∧w.cell? ⟨g,10,none⟩=some (.int .i64 m.s.l)∧w.cell? ⟨g,11,none⟩=some (.int .i64 m.s.n)∧w.cell? ⟨g,12,none⟩=some (.int .i64 m.pv.w)∧w.cell? ⟨g,13,none⟩=some (.int .i64 m.pv.l)∧w.cell? ⟨g,14,none⟩=some (.int .i64 m.pv.n)∧w.cell? ⟨g,15,none⟩=some (.bool m.cm)∧w.cell? ⟨g,16,none⟩=some (.int .i64 m.n)∧w.cell? ⟨g,17,none⟩=some (.int .i64 m.mx)∧w.cell? ⟨g,18,none⟩=some (v1)∧w.cell? ⟨g,19,none⟩=some (v2)∧w.cell? ⟨g,20,none⟩=some (v3)∧w.cell? ⟨g,21,none⟩=some (v4)∧w.cell? ⟨g,22,none⟩=some (v5)∧w.cell? ⟨g,23,none⟩=some (v6)∧w.cell? ⟨g,24,none⟩=some (.int .i64 m.st.r.id)∧w.cell? ⟨g,25,none⟩=some (.int .i64 m.st.r.ep)∧w.cell? ⟨g,26,none⟩=some (.float .f64 m.st.r.lo)∧w.cell? ⟨g,27,none⟩=some (.float .f64 m.st.r.hi)∧w.cell? ⟨g,28,none⟩=some (.int .i64 m.st.f.w)∧w.cell? ⟨g,29,none⟩=some (.int .i64 m.st.f.l)∧w.cell? ⟨g,30,none⟩=some (.int .i64 m.st.f.n)∧w.cell? ⟨g,31,none⟩=some (.int .i64 m.st.c.w)∧w.cell? ⟨g,32,none⟩=some (.int .i64 m.st.c.l)∧w.cell? ⟨g,33,none⟩=some (.int .i64 m.st.c.n)∧w.cell? ⟨g,34,none⟩=some (v7)∧w.cell? ⟨g,35,none⟩=some (v8):=
 ⟨h.lt,h.cell 0,h.cell 1,h.cell 2,h.cell 3,h.cell 4,h.cell 5,h.cell 6,h.cell 7,h.cell 8,h.cell 9,h.cell 10,h.cell 11,h.cell 12,h.cell 13,h.cell 14,h.cell 15,h.cell 16,h.cell 17,h.cell 18,h.cell 19,h.cell 20,h.cell 21,h.cell 22,h.cell 23,h.cell 24,h.cell 25,h.cell 26,h.cell 27,h.cell 28,h.cell 29,h.cell 30,h.cell 31,h.cell 32,h.cell 33,h.cell 34,h.cell 35⟩
def Mg.flatB (m:Mg):Bool:=decide (m.t=⟨0,0,0⟩)&&(m.rg==0)&&(m.ep==0)&&(m.cd==0)&&m.s.zero&&m.pv.zero&& !m.cm&&(m.n==0)&&(m.mx==0)
def Mg.noneB (m:Mg):Bool:=decide (m.ks.length+m.sn.length+m.ws.length+m.ps.length+m.rs.length+m.rc.length=0)
def Mg.zeroB (m:Mg):Bool:=m.flatB&&m.st.zeroB&&m.noneB
set_option maxRecDepth 100000 in
set_option maxHeartbeats 8000000 in
theorem mzero_any (m:Mg) (h:Hm) (w:World) (i:MgLo w w.heap.size m h) (sm:h.a.n≤1000000∧h.b.n≤1000000∧h.c.n≤1000000∧h.d.n≤1000000∧h.e.n≤1000000∧h.f.n≤1000000):
 Calls Tryz.prog 29 #[.agg (m.vals h)] w fun e w'=>e=.returned (.bool m.zeroB)∧Below w.heap.size w w':=by
 have hX:Below w.heap.size w (w.alloc (.cells (m.vals h) 41)):=by go_grown
 have bM:Blk (w.alloc (.cells (m.vals h) 41)) w.heap.size 41 (m.vals h):=Blk.new _ _ _
 have z0:=fun w=>txn_run m.t ⟨0,0,0⟩ w
 have z1:=fun w=>zero_run m.s w
 have z2:=fun w=>zero_run m.pv w
 have z3:=fun w=>zero_run m.st.f w
 have z4:=fun w=>zero_run m.st.c w
 have HF:=Lib.hid (show m.flatB=(decide (m.t=⟨0,0,0⟩)&&(m.rg==0)&&(m.ep==0)&&(m.cd==0)&&m.s.zero&&m.pv.zero&& !m.cm&&(m.n==0)&&(m.mx==0)) from rfl)
 have HS:=Lib.hid (show m.st.zeroB=((m.st.r.id==0)&&(m.st.r.ep==0)&&((m.st.r.lo:Int)==0)&&((m.st.r.hi:Int)==0)&&m.st.f.zero&&m.st.c.zero&&((h.g.n:Int)==0)&&((h.i.n:Int)==0)) by unfold Stt.zeroB;rw[i.hs.1,i.pn.1])
 have HN:=Lib.hid (show m.noneB=decide (h.a.n+h.b.n+h.c.n+h.d.n+h.e.n+h.f.n=0) by unfold Mg.noneB;rw[i.ks.1,i.sn.1,i.ws.1,i.ps.1,i.rs.1,i.rc.1])
 have HZ:=Lib.hid (show m.zeroB=(m.flatB&&m.st.zeroB&&m.noneB) from rfl)
 obtain⟨sa,sb,sc,sd,se,sf⟩:=sm
 clear i
 generalize decide (m.t=⟨0,0,0⟩)=u0 at*
 generalize m.s.zero=u1 at*
 generalize m.pv.zero=u2 at*
 generalize m.st.f.zero=u3 at*
 generalize m.st.c.zero=u4 at*
 generalize m.flatB=x1 at*
 generalize m.st.zeroB=x2 at*
 generalize m.noneB=x3 at*
 go_enter Tryz.func29,Tryz.ntmps29
 go_upto_region 1 with fail
 generalize (w.alloc (.cells (m.vals h) 41))=w1 at*
 obtain⟨lM,y0,y1,y2,y3,y4,y5,y6,y7,y8,y9,y10,y11,y12,y13,y14,y15,y16,y17,y18,y19,y20,y21,y22,y23,y24,y25,y26,y27,y28,y29,y30,y31,y32,y33,y34,y35⟩:=mgC bM
 have bS:=Blk.new w1 39 #[.int .i64 m.st.r.id,.int .i64 m.st.r.ep,.float .f64 m.st.r.lo,.float .f64 m.st.r.hi,.int .i64 m.st.f.w,.int .i64 m.st.f.l,.int .i64 m.st.f.n,.int .i64 m.st.c.w,.int .i64 m.st.c.l,.int .i64 m.st.c.n,.slice h.g.A h.g.n h.g.c,.slice h.i.A h.i.n h.i.c]
 have hY:Below w.heap.size w (w1.alloc (.cells #[.int .i64 m.st.r.id,.int .i64 m.st.r.ep,.float .f64 m.st.r.lo,.float .f64 m.st.r.hi,.int .i64 m.st.f.w,.int .i64 m.st.f.l,.int .i64 m.st.f.n,.int .i64 m.st.c.w,.int .i64 m.st.c.l,.int .i64 m.st.c.n,.slice h.g.A h.g.n h.g.c,.slice h.i.A h.i.n h.i.c] 39)):=hX.alloc (by omega) _
 have bN:=bM.alloc (.cells #[.int .i64 m.st.r.id,.int .i64 m.st.r.ep,.float .f64 m.st.r.lo,.float .f64 m.st.r.hi,.int .i64 m.st.f.w,.int .i64 m.st.f.l,.int .i64 m.st.f.n,.int .i64 m.st.c.w,.int .i64 m.st.c.l,.int .i64 m.st.c.n,.slice h.g.A h.g.n h.g.c,.slice h.i.A h.i.n h.i.c] 39)
 go_upto_region 2 with fail
 generalize (w1.alloc (.cells #[.int .i64 m.st.r.id,.int .i64 m.st.r.ep,.float .f64 m.st.r.lo,.float .f64 m.st.r.hi,.int .i64 m.st.f.w,.int .i64 m.st.f.l,.int .i64 m.st.f.n,.int .i64 m.st.c.w,.int .i64 m.st.c.l,.int .i64 m.st.c.n,.slice h.g.A h.g.n h.g.c,.slice h.i.A h.i.n h.i.c] 39))=w2 at*
 generalize w1.heap.size=gS at*
 clear y0 y1 y2 y3 y4 y5 y6 y7 y8 y9 y10 y11 y12 y13 y14 y15 y16 y17 y18 y19 y20 y21 y22 y23 y24 y25 y26 y27 y28 y29 y30 y31 y32 y33 y34 y35 lM bM hX
 obtain⟨lM,y0,y1,y2,y3,y4,y5,y6,y7,y8,y9,y10,y11,y12,y13,y14,y15,y16,y17,y18,y19,y20,y21,y22,y23,y24,y25,y26,y27,y28,y29,y30,y31,y32,y33,y34,y35⟩:=mgC bN
 go_cut [4] from 6 (fun v w'=>v=.bool x1∧w'=w2)
 case first=>
  go_wp2_with fail
  all_goals
   go_meet
   case rel=>exact⟨congrArg Value.bool (by rw[HF.out];simp_all),rfl⟩
 case rest=>
  obtain⟨rfl,rfl⟩:=hcut
  obtain⟨lS,q0,q1,q2,q3,q4,q5,q6,q7,q8,q9,q10,q11⟩:=bS.dozen
  go_upto_region 3 with fail
  go_cut [5] from 54 (fun v w'=>v=.bool x2∧w'=wc)
  case first=>
   go_wp2_with fail
   all_goals
        go_meet
        case rel=>exact⟨congrArg Value.bool (by rw[HS.out];simp_all),rfl⟩
  case rest=>
   rename_i wd
   obtain⟨rfl,rfl⟩:=hcut
   have w1:IntKind.i64.wrap ((h.a.n:Int)+(h.b.n:Int))=((h.a.n+h.b.n:Nat):Int):=by rw[IntKind.wrap_i64];omega
   have w2:IntKind.i64.wrap (((h.a.n+h.b.n:Nat):Int)+(h.c.n:Int))=((h.a.n+h.b.n+h.c.n:Nat):Int):=by rw[IntKind.wrap_i64];omega
   have w3:IntKind.i64.wrap (((h.a.n+h.b.n+h.c.n:Nat):Int)+(h.d.n:Int))=((h.a.n+h.b.n+h.c.n+h.d.n:Nat):Int):=by rw[IntKind.wrap_i64];omega
   have w4:IntKind.i64.wrap (((h.a.n+h.b.n+h.c.n+h.d.n:Nat):Int)+(h.e.n:Int))=((h.a.n+h.b.n+h.c.n+h.d.n+h.e.n:Nat):Int):=by rw[IntKind.wrap_i64];omega
   have w5:IntKind.i64.wrap (((h.a.n+h.b.n+h.c.n+h.d.n+h.e.n:Nat):Int)+(h.f.n:Int))=((h.a.n+h.b.n+h.c.n+h.d.n+h.e.n+h.f.n:Nat):Int):=by rw[IntKind.wrap_i64];omega
   have HE:(((h.a.n+h.b.n+h.c.n+h.d.n+h.e.n+h.f.n:Nat):Int)==0)=x3:=by rw[HN.out,Bool.eq_iff_iff,beq_iff_eq,decide_eq_true_eq];omega
   generalize h.a.n+h.b.n+h.c.n+h.d.n+h.e.n+h.f.n=s6 at*
   generalize h.a.n+h.b.n+h.c.n+h.d.n+h.e.n=s5 at*
   generalize h.a.n+h.b.n+h.c.n+h.d.n=s4 at*
   generalize h.a.n+h.b.n+h.c.n=s3 at*
   generalize h.a.n+h.b.n=s2 at*
   cases x1<;>cases x2
   all_goals
        go_wp2_with fail
        go_ret
        rw[HZ.out]
        exact⟨ret_bool (by simp),hY⟩
end Go.Proofs.YtcalkfgibflbnaaGreat
