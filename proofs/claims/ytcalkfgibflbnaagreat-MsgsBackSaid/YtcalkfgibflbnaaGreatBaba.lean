/- Messages as plain Lean data; how their cells read; a message that came in. -/
import Derived.Test.YtcalkfgibflbnaaGreatBaaj
namespace Go.Proofs.YtcalkfgibflbnaaGreat
set_option maxHeartbeats 6000000
set_option maxRecDepth 100000
set_option linter.unusedVariables false
open Go.ChangeShapes Go.WideShapes Go.RowKit
structure Sn where
 key:ByteArray
 v:Vl
 s:Sp
def Sn.cells (a:Sn):List Value:=[.string a.key,.int .i64 a.v.k,.float .f64 a.v.n,.string a.v.t,.int .i64 a.s.w,.int .i64 a.s.l,.int .i64 a.s.n]
def Sn.ok (a:Sn):Prop:=a.key.size<=140737488351232/\a.v.ok/\a.s.ok
abbrev gI:Rel Sn:=Flat Sn.cells Sn.ok
theorem gI.kept:(gI).Kept:=Flat.kept _ _
theorem Sl.sn {w:World} {B n:Nat} {A:Option Addr} {l:List Sn} (h:Sl gI 7 w B A n l) {k:Nat} (hk:k<n):∃ad a,A=some ad/\l[k]?=some a/\(ad.add (k*7)).block<B/\a.ok/\w.cell? (ad.add (k*7))=some (.string a.key)/\
 w.cell? ⟨(ad.add (k*7)).block,(ad.add (k*7)).off+1,none⟩=some (.int .i64 a.v.k)/\w.cell? ⟨(ad.add (k*7)).block,(ad.add (k*7)).off+2,none⟩=some (.float .f64 a.v.n)/\w.cell? ⟨(ad.add (k*7)).block,(ad.add (k*7)).off+3,none⟩=some (.string a.v.t)/\
 w.cell? ⟨(ad.add (k*7)).block,(ad.add (k*7)).off+4,none⟩=some (.int .i64 a.s.w)/\w.cell? ⟨(ad.add (k*7)).block,(ad.add (k*7)).off+5,none⟩=some (.int .i64 a.s.l)/\w.cell? ⟨(ad.add (k*7)).block,(ad.add (k*7)).off+6,none⟩=some (.int .i64 a.s.n):=by
 obtain⟨ad,cs,a,e,hl,hb,_,hc,rfl,hok⟩:=h.at_ hk;have e0:∀j,ad.add (k*7+j)=(ad.add (k*7)).add j:=fun j=>(oh _ _ _).symm
 have c0:=hc 0 _ rfl;have c1:=hc 1 _ rfl;have c2:=hc 2 _ rfl;have c3:=hc 3 _ rfl;have c4:=hc 4 _ rfl;have c5:=hc 5 _ rfl;have c6:=hc 6 _ rfl;rw[e0]at c1 c2 c3 c4 c5 c6;exact⟨ad,a,e,hl,by rw[iW];exact hb,hok,c0,c1,c2,c3,c4,c5,c6⟩
def eX:Rel Rc:=fun w B cs r=>∃h:aV,cs=(r.vals h).toList/\r.ok/\h.caps/\fZ w B r h
theorem fZ.keep {w w':World} {B:Nat} {r:Rc} {h:aV} (i:fZ w B r h) (hk:∀p:Addr,p.block<B->w'.cell? p=w.cell? p):fZ w' B r h:=
 ⟨i.rd.keep aO.kept hk,i.wr.keep aF.kept hk,i.ps.keep bK.kept hk,i.pr.keep aF.kept hk,i.hs.keep aQ.kept hk,i.pn.keep aP.kept hk,i.na,i.nb,i.nc,i.nd,i.ne,i.nf⟩
theorem eX.kept:(eX).Kept:=
 ⟨fun w w' B cs r ⟨h,e,o,c,i⟩ hk=>⟨h,e,o,c,i.keep hk⟩,fun w B B' cs r ⟨h,e,o,c,i⟩ hb=>⟨h,e,o,c,i.more hb⟩⟩
theorem Sl.rm {w:World} {B n:Nat} {A:Option Addr} {l:List Rc} (h:Sl eX 29 w B A n l) {k:Nat} (hk:k<n):∃(ad:Addr) (r:Rc) (g:aV),A=some ad/\l[k]?=some r/\(ad.add (k*29)).block<B/\(∀(j:Nat) (u:Value),(r.vals g).toList[j]?=some u->w.cell? ((ad.add (k*29)).add j)=some u)/\r.ok/\g.caps/\fZ w B r g:=by
 obtain⟨ad,cs,a,e,hl,hb,_,hc,g,rfl,o,c,i⟩:=h.at_ hk;refine⟨ad,a,g,e,hl,by rw[iW];exact hb,fun j u hj=>?_,o,c,i⟩;have:=hc j u hj;rw[<-oh]at this;exact this
structure Mg where
 k:Int
 fr:Int
 aG:Int
 t:Tx
 rg:Int
 ep:Int
 cd:Int
 s:Sp
 pv:Sp
 cm:Bool
 n:Int
 mx:Int
 ks:List ByteArray
 sn:List Sn
 ws:List Wt
 ps:List Int
 rs:List Rg
 rc:List Rc
 st:dP
abbrev Mg.arr (m:Mg) (v1 v2 v3 v4 v5 v6 v7 v8:Value):Array Value:=#[.int .i64 m.k,.int .i64 m.fr,.int .i64 m.aG,.int .i64 m.t.c,.int .i64 m.t.l,.int .i64 m.t.s,.int .i64 m.rg,.int .i64 m.ep,.int .i64 m.cd,.int .i64 m.s.w,.int .i64 m.s.l,.int .i64 m.s.n,.int .i64 m.pv.w,.int .i64 m.pv.l,.int .i64 m.pv.n,.bool m.cm,.int .i64 m.n,.int .i64 m.mx,v1,v2,v3,v4,v5,v6,.int .i64 m.st.r.id,.int .i64 m.st.r.ep,.float .f64 m.st.r.lo,.float .f64 m.st.r.hi,.int .i64 m.st.f.w,.int .i64 m.st.f.l,.int .i64 m.st.f.n,.int .i64 m.st.c.w,.int .i64 m.st.c.l,.int .i64 m.st.c.n,v7,v8]
structure Hm where
 a:Hd
 b:Hd
 c:Hd
 d:Hd
 e:Hd
 f:Hd
 g:Hd
 i:Hd
abbrev Mg.vals (m:Mg) (h:Hm):Array Value:=m.arr (.slice h.a.A h.a.n h.a.c) (.slice h.b.A h.b.n h.b.c) (.slice h.c.A h.c.n h.c.c) (.slice h.d.A h.d.n h.d.c) (.slice h.e.A h.e.n h.e.c) (.slice h.f.A h.f.n h.f.c) (.slice h.g.A h.g.n h.g.c) (.slice h.i.A h.i.n h.i.c)
structure Hm.caps (h:Hm):Prop where
 a:h.a.n<=h.a.c/\h.a.c<=maxLen
 b:h.b.n<=h.b.c/\h.b.c<=maxLen
 c:h.c.n<=h.c.c/\h.c.c<=maxLen
 d:h.d.n<=h.d.c/\h.d.c<=maxLen
 e:h.e.n<=h.e.c/\h.e.c<=maxLen
 f:h.f.n<=h.f.c/\h.f.c<=maxLen
 g:h.g.n<=h.g.c/\h.g.c<=maxLen
 i:h.i.n<=h.i.c/\h.i.c<=maxLen
structure bH (w:World) (B:Nat) (m:Mg) (h:Hm):Prop where
 ks:Sl aO 1 w B h.a.A h.a.n m.ks
 sn:Sl gI 7 w B h.b.A h.b.n m.sn
 ws:Sl aF 4 w B h.c.A h.c.n m.ws
 ps:Sl bK 1 w B h.d.A h.d.n m.ps
 rs:Sl gX 4 w B h.e.A h.e.n m.rs
 rc:Sl eX 29 w B h.f.A h.f.n m.rc
 hs:Sl aQ 2 w B h.g.A h.g.n m.st.h
 pn:Sl aP 8 w B h.i.A h.i.n m.st.p
section
variable {w w':World} {B B':Nat} {m:Mg} {h:Hm}
theorem bH.keep (i:bH w B m h) (hk:∀p:Addr,p.block<B->w'.cell? p=w.cell? p):bH w' B m h:=
 ⟨i.ks.keep aO.kept hk,i.sn.keep gI.kept hk,i.ws.keep aF.kept hk,i.ps.keep bK.kept hk,i.rs.keep gX.kept hk,i.rc.keep eX.kept hk,i.hs.keep aQ.kept hk,i.pn.keep aP.kept hk⟩
theorem bH.more (i:bH w B m h) (hb:B<=B'):bH w B' m h:=
 ⟨i.ks.more aO.kept hb,i.sn.more gI.kept hb,i.ws.more aF.kept hb,i.ps.more bK.kept hb,i.rs.more gX.kept hb,i.rc.more eX.kept hb,i.hs.more aQ.kept hb,i.pn.more aP.kept hb⟩
theorem bH.below (i:bH w B m h) (hb:Below B w w'):bH w' B m h:=i.keep fun _ hp=>hb.cell hp
theorem bH.up (i:bH w w.heap.size m h) (hb:Below w.heap.size w w'):bH w' w'.heap.size m h:=(i.below hb).more hb.size
end
structure Mg.ok (m:Mg):Prop where
 k:bG m.k
 fr:bG m.fr
 aG:bG m.aG
 t:m.t.ok
 rg:bG m.rg
 ep:bG m.ep
 cd:bG m.cd
 s:m.s.ok
 pv:m.pv.ok
 n:bG m.n
 mx:bG m.mx
 sr:m.st.r.ok
 sf:m.st.f.ok
 sc:m.st.c.ok
section
variable {H:Type} {enc:TypeId×Value->H} {w:World}
theorem acr {cs:List Value} (h:Opn enc Tryz.prog w 104 cs):∃v:Sn,cs=v.cells/\v.ok:=by
 have hl:=h.len Tryz.underlying104;rw[show Tryz.prog.cellsOf 104=7 from ah]at hl
 match cs,hl with
 |[c0,c1,c2,c3,c4,c5,c6],_=>
  obtain⟨x0,rfl,h0⟩:=(h.cZ 0 1 (ty:=9) (off:=0) ah ah).str Tryz.underlying9;obtain⟨x1,e1,h1⟩:=Ht (h.cZ 1 3 (ty:=59) (off:=1) ah ah);obtain⟨x2,e2,h2⟩:=yP (h.cZ 2 3 (ty:=26) (off:=4) ah ah);refine⟨⟨x0,x1,x2⟩,?_,h0,h1,h2⟩;change [c1,c2,c3]=_ at e1;change [c4,c5,c6]=_ at e2;show [.string x0]++([c1,c2,c3]++[c4,c5,c6])=_;rw[e1,e2];rfl
theorem acs {v:Value} (h:Opn enc Tryz.prog w 28 [v]):∃l,dH gI 7 w w.heap.size v l:=
 h.slice gI 7 byOmega Tryz.underlying28 ah fun _ _ ho=>acr ho
theorem acu {v:Value} (h:Opn enc Tryz.prog w 31 [v]):∃l,dH gX 4 w w.heap.size v l:=
 h.slice gX 4 byOmega Tryz.underlying31 ah fun _ _ ho=>Qq ho
theorem acv {cs:List Value} (h:Opn enc Tryz.prog w 69 cs):∃r:Rc,eX w w.heap.size cs r:=by
 obtain⟨x,v1,v2,v3,v4,v5,v6,e,hok,⟨A1,n1,c1,rfl,q1,q1',h1⟩,⟨A2,n2,c2,rfl,q2,q2',h2⟩,⟨A3,n3,c3,rfl,q3,q3',h3⟩,⟨A4,n4,c4,rfl,q4,MR,h4⟩,⟨A5,n5,c5,rfl,q5,SG,h5⟩,⟨A6,n6,c6,rfl,q6,SH,h6⟩⟩:=ZC h;exact⟨x,⟨⟨A1,n1,c1⟩,⟨A2,n2,c2⟩,⟨A3,n3,c3⟩,⟨A4,n4,c4⟩,⟨A5,n5,c5⟩,⟨A6,n6,c6⟩⟩,e,hok,⟨⟨q1,q1'⟩,⟨q2,q2'⟩,⟨q3,q3'⟩,⟨q4,MR⟩,⟨q5,SG⟩,⟨q6,SH⟩⟩,⟨h1,h2,h3,h4,h5,h6,Nat.le_trans q1 q1',Nat.le_trans q2 q2',Nat.le_trans q3 q3',Nat.le_trans q4 MR,Nat.le_trans q5 SG,Nat.le_trans q6 SH⟩⟩
theorem acw {v:Value} (h:Opn enc Tryz.prog w 32 [v]):∃l,dH eX 29 w w.heap.size v l:=
 h.slice eX 29 byOmega Tryz.underlying32 ah fun _ _ ho=>acv ho
theorem acy {cs:List Value} (h:Opn enc Tryz.prog w 41 cs):∃(m:Mg) (g:Hm),cs=(m.vals g).toList/\m.ok/\g.caps/\bH w w.heap.size m g:=by
 have hl:=h.len Tryz.underlying41;rw[show Tryz.prog.cellsOf 41=36 from ah]at hl
 match cs,hl with
 |c0::c1::c2::c3::c4::c5::c6::c7::c8::c9::c10::c11::c12::c13::c14::c15::c16::c17::c18::c19::c20::c21::Fv::c23::c24::c25::Bl::Bo::c28::c29::SI::c31::c32::SK::c34::SL::[],_=>
  obtain⟨xk,rfl,hxk⟩:=(h.cZ 0 1 (ty:=3) (off:=0) ah ah).int Tryz.underlying3;obtain⟨xf,rfl,hxf⟩:=(h.cZ 1 1 (ty:=3) (off:=1) ah ah).int Tryz.underlying3;obtain⟨xt,rfl,hxt⟩:=(h.cZ 2 1 (ty:=3) (off:=2) ah ah).int Tryz.underlying3;obtain⟨xx,SN,hxx⟩:=Ld (h.cZ 3 3 (ty:=23) (off:=3) ah ah);obtain⟨xr,rfl,hxr⟩:=(h.cZ 4 1 (ty:=3) (off:=6) ah ah).int Tryz.underlying3;obtain⟨xe,rfl,hxe⟩:=(h.cZ 5 1 (ty:=3) (off:=7) ah ah).int Tryz.underlying3;obtain⟨xc,rfl,hxc⟩:=(h.cZ 6 1 (ty:=24) (off:=8) ah ah).int Tryz.underlying24;obtain⟨xs,exs,hxs⟩:=yP (h.cZ 7 3 (ty:=26) (off:=9) ah ah);obtain⟨xp,exp,hxp⟩:=yP (h.cZ 8 3 (ty:=26) (off:=12) ah ah);obtain⟨xb,rfl⟩:=(h.cZ 9 1 (ty:=4) (off:=15) ah ah).bool Tryz.underlying4;obtain⟨xn,rfl,hxn⟩:=(h.cZ 10 1 (ty:=3) (off:=16) ah ah).int Tryz.underlying3;obtain⟨xm,rfl,hxm⟩:=(h.cZ 11 1 (ty:=3) (off:=17) ah ah).int Tryz.underlying3;obtain⟨ya,SQ,SS,SV,rfl,qya,acz,iya⟩:=Le (h.cZ 12 1 (ty:=27) (off:=18) ah ah);obtain⟨yb,SX,SY,S9,rfl,qyb,acA,iyb⟩:=acs (h.cZ 13 1 (ty:=28) (off:=19) ah ah);obtain⟨yc,Tc,Td,Tf,rfl,qyc,acB,iyc⟩:=J6 (h.cZ 14 1 (ty:=29) (off:=20) ah ah);obtain⟨yd,Ti,Tj,Tm,rfl,qyd,acC,iyd⟩:=QB (h.cZ 15 1 (ty:=30) (off:=21) ah ah);obtain⟨ye,Tn,Tq,Tt,rfl,qye,acD,iye⟩:=acu (h.cZ 16 1 (ty:=31) (off:=22) ah ah);obtain⟨yf,Tv,Tz,TA,rfl,qyf,acE,iyf⟩:=acw (h.cZ 17 1 (ty:=32) (off:=23) ah ah);obtain⟨st,a,b,est,q1,q2,q3,⟨Ag,ng,lg,rfl,qg,qg',ig⟩,⟨Ah,nh,lh,rfl,qh,qh',ih⟩⟩:=Qr (h.cZ 18 12 (ty:=39) (off:=24) ah ah);refine⟨⟨xk,xf,xt,xx,xr,xe,xc,xs,xp,xb,xn,xm,ya,yb,yc,yd,ye,yf,st⟩,⟨⟨SQ,SS,SV⟩,⟨SX,SY,S9⟩,⟨Tc,Td,Tf⟩,⟨Ti,Tj,Tm⟩,⟨Tn,Tq,Tt⟩,⟨Tv,Tz,TA⟩,⟨Ag,ng,lg⟩,⟨Ah,nh,lh⟩⟩,?_,⟨hxk,hxf,hxt,hxx,hxr,hxe,hxc,hxs,hxp,hxn,hxm,q1,q2,q3⟩,⟨⟨qya,acz⟩,⟨qyb,acA⟩,⟨qyc,acB⟩,⟨qyd,acC⟩,⟨qye,acD⟩,⟨qyf,acE⟩,⟨qg,qg'⟩,⟨qh,qh'⟩⟩,⟨iya,iyb,iyc,iyd,iye,iyf,ig,ih⟩⟩;change [c3,c4,c5]=_ at SN;change [c9,c10,c11]=_ at exs;change [c12,c13,c14]=_ at exp;change [c24,c25,Bl,Bo,c28,c29,SI,c31,c32,SK,c34,SL]=_ at est;show [.int .i64 xk,.int .i64 xf,.int .i64 xt]++([c3,c4,c5]++([.int .i64 xr,.int .i64 xe,.int .i64 xc]++([c9,c10,c11]++([c12,c13,c14]++([.bool xb,.int .i64 xn,.int .i64 xm,.slice SQ SS SV,.slice SX SY S9,.slice Tc Td Tf,.slice Ti Tj Tm,.slice Tn Tq Tt,.slice Tv Tz TA]++[c24,c25,Bl,Bo,c28,c29,SI,c31,c32,SK,c34,SL])))))=_;rw[SN,exs,exp,est];rfl
theorem acF {r:Reach} {b0:Nat} {v:Value} {d:DataW H} {ps:List MemPlace} (hv:Value.okWide Tryz.prog w r b0 41 v) (h:DataW.Trod enc Tryz.prog w 0 (fun _=>true) true 41 v d ps) (hs:vK Tryz.prog 41 d):
 ∃(m:Mg) (g:Hm),v=.agg (m.vals g)/\m.ok/\g.caps/\bH w w.heap.size m g:=by
 obtain⟨cs,rfl,hsz⟩:=okWide_struct Tryz.underlying41 hv;obtain⟨m,g,e,ok,cp,i⟩:=acy (Opn.of h hs);refine⟨m,g,?_,ok,cp,i⟩;have e2:cs.toList=_:=e;rw[<-Array.toArray_toList (xs:=cs),e2]
end
end Go.Proofs.YtcalkfgibflbnaaGreat
namespace Go.Proofs.YtcalkfgibflbnaaGreat
set_option linter.unusedVariables false
open Go.RowKit Fl
abbrev iq:Sp:=⟨0,0,0⟩
abbrev sQ:Tx:=⟨0,0,0⟩
abbrev nY:dP:=⟨⟨0,0,0,0⟩,⟨0,0,0⟩,⟨0,0,0⟩,[],[]⟩
abbrev ql:Rc:=⟨0,sQ,iq,iq,false,0,0,[],[],[],[],nY⟩
abbrev BK:aV:=⟨Hd.nil,Hd.nil,Hd.nil,Hd.nil,Hd.nil,Hd.nil⟩
theorem lK:bG 0:=by unfold bG;omega
theorem sU:iq.ok:=⟨lK,lK,lK⟩
theorem MS:sQ.ok:=⟨lK,lK,lK⟩
theorem IK:nY.r.ok:=⟨lK,lK,(by show 0<_;omega),(by show 0<_;omega)⟩
theorem acG:ql.ok:=⟨lK,MS,sU,sU,lK,(by show 0<_;omega),IK,sU,sU⟩
theorem qm:(0:Nat)<=0/\0<=maxLen:=⟨Nat.le_refl _,Nat.zero_le _⟩
inductive RF|k|t|s|pv|cm|n|pt|wr|ps|pr|st|pn
def RF.rd:RF->Stp Rc
 | .k=>iH aS fun a x=>{x with k:=a}
 | .t=>iH oD fun a x=>{x with t:=a}
 | .s=>iH dY fun a x=>{x with s:=a}
 | .pv=>iH dY fun a x=>{x with pv:=a}
 | .cm=>iH nS fun a x=>{x with cm:=a}
 | .n=>iH aS fun a x=>{x with n:=a}
 | .pt=>iH fK fun a x=>{x with pt:=a}
 | .wr=>iH (dn nT) fun a x=>{x with wr:=a}
 | .ps=>iH (dn aS) fun a x=>{x with ps:=a}
 | .pr=>iH (dn nT) fun a x=>{x with pr:=a}
 | .st=>iH xW fun a x=>{x with st:=a}
 | .pn=>iH pq fun p x=>{x with t:=p.t,s:=p.s,rd:=p.r,wr:=p.w}
def uU (k:Int):List RF:=
 if k=1 then [.st] else if k=2 then [.n] else if k=3 then [.pn,.ps] else if k=4 then [.t,.cm,.s] else if k=5 then [.s] else if k=6 then [.pt,.n,.s] else if k=7 then [.n] else if k=8 then [.n] else
 if k=9 then [.t,.s,.ps] else if k=10 then [.t] else if k=11 then [.pv,.s,.t,.wr] else if k=12 then [.s,.pr] else []
def lZ:eG Rc:=fun l s=>dL RF.rd (.k::uU (aS l s).1) ql l s
theorem RF.stk:BI RF.rd:=fun d x=>match d with
 | .k=>jw kV x
 | .t=>jw LD x
 | .s=>jw qH x
 | .pv=>jw qH x
 | .cm=>jw Lu x
 | .n=>jw kV x
 | .pt=>jw uO x
 | .wr=>jw (jv _) x
 | .ps=>jw (jv _) x
 | .pr=>jw (jv _) x
 | .st=>jw Q7 x
 | .pn=>jw aad x
theorem fZ.mn {w w':World} {B:Nat} {r:Rc} {h:aV} (i:fZ w B r h) (hk:∀p u,p.block<B->w.cell? p=some u->w'.cell? p=some u):fZ w' B r h:=
 ⟨i.rd.mono aO.mono hk,i.wr.mono aF.mono hk,i.ps.mono bK.mono hk,i.pr.mono aF.mono hk,i.hs.mono aQ.mono hk,i.pn.mono aP.mono hk,i.na,i.nb,i.nc,i.nd,i.ne,i.nf⟩
abbrev kY:Bx Rc aV:=⟨69,29,Rc.vals,fun w B x h=>x.ok/\h.caps/\fZ w B x h⟩
theorem jC:(kY).Good:=⟨fun _ _=>rfl,fun w w' B B' x h i hk hB=>⟨i.1,i.2.1,(i.2.2.keep hk).more hB⟩,fun w w' B x h i hk=>⟨i.1,i.2.1,i.2.2.mn hk⟩⟩
theorem D8 (w:World) (B:Nat):(kY).lo w B ql BK:=⟨acG,⟨qm,qm,qm,qm,qm,qm⟩,⟨Sl.nil,Sl.nil,Sl.nil,Sl.nil,Sl.nil,Sl.nil,Nat.zero_le _,Nat.zero_le _,Nat.zero_le _,Nat.zero_le _,Nat.zero_le _,Nat.zero_le _⟩⟩
theorem TB:jf kY bK 1 0 (fun a x=>{x with k:=a}) (fun _ h=>h):=by
 rintro w B x h vs a ⟨ok,cp,⟨L1,L2,L3,L4,L5,L6,L7,L8,L9,oJ,oK,oL⟩⟩ ⟨rfl,hok⟩ -;exact⟨rfl,⟨hok,ok.t,ok.s,ok.pv,ok.n,ok.pt,ok.rg,ok.fl,ok.cl⟩,cp,⟨L1,L2,L3,L4,L5,L6,L7,L8,L9,oJ,oK,oL⟩⟩
theorem IL:jf kY Iq 3 1 (fun a x=>{x with t:=a}) (fun _ h=>h):=by
 rintro w B x h vs a ⟨ok,cp,⟨L1,L2,L3,L4,L5,L6,L7,L8,L9,oJ,oK,oL⟩⟩ ⟨rfl,hok⟩ -;exact⟨rfl,⟨ok.k,hok,ok.s,ok.pv,ok.n,ok.pt,ok.rg,ok.fl,ok.cl⟩,cp,⟨L1,L2,L3,L4,L5,L6,L7,L8,L9,oJ,oK,oL⟩⟩
theorem D9:jf kY DR 3 4 (fun a x=>{x with s:=a}) (fun _ h=>h):=by
 rintro w B x h vs a ⟨ok,cp,⟨L1,L2,L3,L4,L5,L6,L7,L8,L9,oJ,oK,oL⟩⟩ ⟨rfl,hok⟩ -;exact⟨rfl,⟨ok.k,ok.t,hok,ok.pv,ok.n,ok.pt,ok.rg,ok.fl,ok.cl⟩,cp,⟨L1,L2,L3,L4,L5,L6,L7,L8,L9,oJ,oK,oL⟩⟩
theorem acH:jf kY DR 3 7 (fun a x=>{x with pv:=a}) (fun _ h=>h):=by
 rintro w B x h vs a ⟨ok,cp,⟨L1,L2,L3,L4,L5,L6,L7,L8,L9,oJ,oK,oL⟩⟩ ⟨rfl,hok⟩ -;exact⟨rfl,⟨ok.k,ok.t,ok.s,hok,ok.n,ok.pt,ok.rg,ok.fl,ok.cl⟩,cp,⟨L1,L2,L3,L4,L5,L6,L7,L8,L9,oJ,oK,oL⟩⟩
theorem acI:jf kY FB 1 10 (fun a x=>{x with cm:=a}) (fun _ h=>h):=by
 rintro w B x h vs a ⟨ok,cp,⟨L1,L2,L3,L4,L5,L6,L7,L8,L9,oJ,oK,oL⟩⟩ ⟨rfl,hok⟩ -;exact⟨rfl,⟨ok.k,ok.t,ok.s,ok.pv,ok.n,ok.pt,ok.rg,ok.fl,ok.cl⟩,cp,⟨L1,L2,L3,L4,L5,L6,L7,L8,L9,oJ,oK,oL⟩⟩
theorem IQ:jf kY bK 1 11 (fun a x=>{x with n:=a}) (fun _ h=>h):=by
 rintro w B x h vs a ⟨ok,cp,⟨L1,L2,L3,L4,L5,L6,L7,L8,L9,oJ,oK,oL⟩⟩ ⟨rfl,hok⟩ -;exact⟨rfl,⟨ok.k,ok.t,ok.s,ok.pv,hok,ok.pt,ok.rg,ok.fl,ok.cl⟩,cp,⟨L1,L2,L3,L4,L5,L6,L7,L8,L9,oJ,oK,oL⟩⟩
theorem acJ:jf kY Ip 1 12 (fun a x=>{x with pt:=a}) (fun _ h=>h):=by
 rintro w B x h vs a ⟨ok,cp,⟨L1,L2,L3,L4,L5,L6,L7,L8,L9,oJ,oK,oL⟩⟩ ⟨rfl,hok⟩ -;exact⟨rfl,⟨ok.k,ok.t,ok.s,ok.pv,ok.n,hok,ok.rg,ok.fl,ok.cl⟩,cp,⟨L1,L2,L3,L4,L5,L6,L7,L8,L9,oJ,oK,oL⟩⟩
theorem acK:jf kY (jl aF 4) 1 14 (fun a x=>{x with wr:=a}) (fun vs h=>{h with b:=uS vs 0}):=by
 rintro w B x h vs a ⟨ok,cp,⟨L1,L2,L3,L4,L5,L6,L7,L8,L9,oJ,oK,oL⟩⟩ ⟨v,rfl,A,n,c,rfl,q1,q2,sl⟩ -;exact⟨rfl,⟨ok.k,ok.t,ok.s,ok.pv,ok.n,ok.pt,ok.rg,ok.fl,ok.cl⟩,⟨cp.a,⟨q1,q2⟩,cp.c,cp.d,cp.e,cp.f⟩,⟨L1,sl,L3,L4,L5,L6,L7,(Nat.le_trans q1 q2),L9,oJ,oK,oL⟩⟩
theorem TD:jf kY (jl bK 1) 1 15 (fun a x=>{x with ps:=a}) (fun vs h=>{h with c:=uS vs 0}):=by
 rintro w B x h vs a ⟨ok,cp,⟨L1,L2,L3,L4,L5,L6,L7,L8,L9,oJ,oK,oL⟩⟩ ⟨v,rfl,A,n,c,rfl,q1,q2,sl⟩ -;exact⟨rfl,⟨ok.k,ok.t,ok.s,ok.pv,ok.n,ok.pt,ok.rg,ok.fl,ok.cl⟩,⟨cp.a,cp.b,⟨q1,q2⟩,cp.d,cp.e,cp.f⟩,⟨L1,L2,sl,L4,L5,L6,L7,L8,(Nat.le_trans q1 q2),oJ,oK,oL⟩⟩
theorem acL:jf kY (jl aF 4) 1 16 (fun a x=>{x with pr:=a}) (fun vs h=>{h with d:=uS vs 0}):=by
 rintro w B x h vs a ⟨ok,cp,⟨L1,L2,L3,L4,L5,L6,L7,L8,L9,oJ,oK,oL⟩⟩ ⟨v,rfl,A,n,c,rfl,q1,q2,sl⟩ -;exact⟨rfl,⟨ok.k,ok.t,ok.s,ok.pv,ok.n,ok.pt,ok.rg,ok.fl,ok.cl⟩,⟨cp.a,cp.b,cp.c,⟨q1,q2⟩,cp.e,cp.f⟩,⟨L1,L2,L3,sl,L5,L6,L7,L8,L9,(Nat.le_trans q1 q2),oK,oL⟩⟩
theorem acM:jf kY zO 12 17 (fun a x=>{x with st:=a}) (fun vs h=>{h with e:=uS vs 10,f:=uS vs 11}):=by
 rintro w B x h vs a ⟨ok,cp,⟨L1,L2,L3,L4,L5,L6,L7,L8,L9,oJ,oK,oL⟩⟩ ⟨v1,v2,rfl,p1,p2,p3,⟨A1,n1,c1,rfl,q1,q2,y1⟩,A2,n2,c2,rfl,q3,q4,y2⟩ -;exact⟨ah,⟨ok.k,ok.t,ok.s,ok.pv,ok.n,ok.pt,p1,p2,p3⟩,⟨cp.a,cp.b,cp.c,cp.d,⟨q1,q2⟩,⟨q3,q4⟩⟩,⟨L1,L2,L3,L4,y1,y2,L7,L8,L9,oJ,(Nat.le_trans q1 q2),(Nat.le_trans q3 q4)⟩⟩
theorem zO.mono:(show Rel dP from zO).ji:=fun w w' B cs a ⟨x,y,e,a1,a2,a3,h4,h5⟩ hk=>⟨x,y,e,a1,a2,a3,h4.mono aQ.mono hk,h5.mono aP.mono hk⟩
end Go.Proofs.YtcalkfgibflbnaaGreat
namespace Go.Proofs.YtcalkfgibflbnaaGreat
set_option maxHeartbeats 6000000
set_option maxRecDepth 100000
set_option linter.unusedVariables false
open Go.RowKit Fl
attribute [local go_sem] dJ
def nZ (n:Int):Bool:=bY n||(decide (20<n)&&decide (n<=22))||n==31||n==32
theorem IU (n:Int) (w:World):Calls Tryz.prog 13 #[.int .i64 n] w fun e w'=>e=.returned (.bool (nZ n))/\w=w':=by
 have hM:=fun w=>vS n w
 have HI:=au (show nZ n=(bY n||(decide (20<n)&&decide (n<=22))||n==31||n==32) from rfl);generalize bY n=b0 at*;cases b0<;>cases h1:decide (20<n)<;>cases h2:decide (n<=22)<;>cases h3:(n==31)<;>cases h4:(n==32)
 all_goals
  rw[h1,h2,h3,h4]at HI;go_enter Tryz.func13,Tryz.ntmps13;go_wp2_with ((with_reducible refine(hM _).mono ?_);rintro e w1 ⟨rfl,rfl⟩);go_ret;rw[HI.out];exact⟨rfl,rfl⟩
def zk (a:Sn):Bool:=a.s.may&&a.v.may&& !(a.s.zero&& !(a.v.k==0))
def iJ (l:List Sn):Bool:=l.all zk&&cu (l.map (·.key))
def acN (l:List Sn) (w:World) (v i:Value) (wr:World):Prop:=∃k:Nat,k<=l.length/\i=.int .i64 (k:Int)/\bV gQ 9 1 w.heap.size wr v ((l.take k).map (·.key))/\(l.drop k).all zk=l.all zk/\Below w.heap.size w wr
theorem TF (A:Option Addr) (n c:Nat) (l:List Sn) (w:World) (h:Sl gI 7 w w.heap.size A n l) (hn:n<=5000000):
 Calls Tryz.prog 104 #[.slice A n c] w fun e w'=>e=.returned (.bool (iJ l))/\Below w.heap.size w w':=by
 obtain⟨i0,hi0,hz0,hz1,hz2⟩:=info_parts Dv;have hl:=h.1;have hle:l.length<=n:=byOmega;have hge:n<=l.length:=byOmega;have HK:=au (fun k hk=>(Sl.oO h k hk).1:∀a∈l,a.key.size<=140737488351232);clear hl;go_enter Tryz.func104,Tryz.ntmps104;go_wp2
 go_loopw [3,8] (fun v i wr=>acN l w v i wr) (fun _ i _=>n-(intOf i).toNat)
 case atStart=>exact⟨0,byOmega,rfl,bV.nil _,rfl,aC⟩
 case round=>
  obtain⟨k,hk,rfl,ho,hs,hb⟩:=hrel;have hzz:=hb.size;by_cases hlt:k<n
  · obtain⟨ad,a,rfl,ha,hbk,hok,c0,c1,c2,c3,c4,c5,c6⟩:=((h.below gI.kept hb).more gI.kept hb.size).sn hlt;have hd1:decide ((k:Int)<(n:Int))=true:=ay;have hk0:(0:Int)<=(k:Int):=byOmega;have hk1:(k:Int)<(n:Int):=byOmega;have HS:=au (show (l.take (k+1)).map (·.key)=(l.take k).map (·.key)++[a.key] by rw[List.take_add_one,ha];simp);have hln:((l.take k).map (·.key)).length<=5000000:=ay;rw[rZ ha]at hs;clear ha;obtain⟨A1,q1,rfl,hq1,yL⟩:=ho.form;generalize (l.take k).map (·.key)=ks at*;have hX:Below wr.heap.size wr ((wr.alloc (.cells a.cells.toArray 104)).alloc (.cells (gQ a.key).toArray 9)):=((aC).alloc (Nat.le_refl _) _).alloc aA _;have hown0:=ho.below hX;have dF:=nK (wr.alloc (.cells a.cells.toArray 104)) 9 (gQ a.key) 1 rfl;rw[show (wr.alloc (.cells a.cells.toArray 104)).heap.size=wr.heap.size+1 from aA]at dF;have hsz0:((wr.alloc (.cells a.cells.toArray 104)).alloc (.cells (gQ a.key).toArray 9)).heap.size=wr.heap.size+2:=aA;have bS:=(aj.new wr 104 a.cells.toArray).alloc (.cells (gQ a.key).toArray 9);go_upto_region 6 with (first
        |(at_builtin
          refine iI _ rfl (.tmp 12) (.tmp 15) _ rfl w.heap.size 9 i0 _ 1 16 Tryz.underlying27 hi0 hz0 hz1 hz2 rfl byOmega (.slice A1 ks.length q1) _ (ks.flatMap gQ) aI hown0 _ (some ⟨wr.heap.size+1,0,none⟩) 1 1 (gQ a.key) aI
           dF (EP a.key) dX byOmega ay ?_
          intro v3 w3 hown3 hg3 wJ;obtain⟨A3,q3,rfl,hq3,xG⟩:=fP hown3))
    have hp:=bV.push a.key hown3;have hbw:=(hb.trans (hX.mono hzz)).grown hg3 ay (fun q hq=>(hown0.lt q hq).1);have uj:=bS.grown hg3 (fun e=>by have:=(ho.lt _ e.symm).2;omega);have x1:=cl (uj.cell 1);have x2:=cl (uj.cell 2);have x3:=cl (uj.cell 3);have x4:=cl (uj.cell 4);have x5:=cl (uj.cell 5);have x6:=cl (uj.cell 6);have hlx:=uj.lt;have hm:=fun w=>zS a.s w
    have hv:=fun w=>Du a.v w
    have zT:=fun w=>fQ a.s w
    have HF:=au (show zk a=(a.s.may&&a.v.may&& !(a.s.zero&& !(a.v.k==0))) from rfl);have HD:=au hs;have HP:=au hp;clear hs hp hown3 hg3 wJ hown0 dF hsz0 hX bS uj c0 c1 c2 c3 c4 c5 c6 ho hq3 xG hbk;generalize wr.heap.size=bx at*;generalize a.s.may=u1 at*;generalize a.v.may=u2 at*;generalize a.s.zero=u3 at*;have hne:(a.v.k !=0)= !(a.v.k==0):=rfl;generalize (a.v.k==0)=u4 at*;cases u1<;>cases u2<;>cases u3<;>cases u4
    all_goals
        go_wp2_with (first
         |((with_reducible refine(hm _).mono ?_);rintro e w4 ⟨rfl,rfl⟩
           have h4:Below w3.heap.size w3 (w3.alloc (.cells #[.int .i64 a.s.w,.int .i64 a.s.l,.int .i64 a.s.n] 26)):=aJ;have x1':=(h4.cell (p:=⟨bx,1,none⟩) hlx).trans x1;have x2':=(h4.cell (p:=⟨bx,2,none⟩) hlx).trans x2;have x3':=(h4.cell (p:=⟨bx,3,none⟩) hlx).trans x3)
         |((with_reducible refine(hv _).mono ?_);rintro e w5 ⟨rfl,hb5⟩
           have h5:=h4.trans (hb5.mono h4.size);have y1:=(h5.cell (p:=⟨bx,1,none⟩) hlx).trans x1;have y4:=(h5.cell (p:=⟨bx,4,none⟩) hlx).trans x4;have y5:=(h5.cell (p:=⟨bx,5,none⟩) hlx).trans x5;have y6:=(h5.cell (p:=⟨bx,6,none⟩) hlx).trans x6))
        first
         |(go_roundw
           case rel=>
            refine⟨k+1,byOmega,by go_num,?_,?_,hbw.trans (h5.mono hbw.size)⟩
            · rw[HS.out];exact HP.out.below h5
            · rw[<-HD.out,HF.out];rfl
           case measure=>simp[intOf];omega)
         |(go_ret
           have e:iJ l=false:=(by unfold iJ;rw[<-HD.out,HF.out];rfl);rw[e]
           first
            |exact⟨rfl,hbw.trans (h5.mono hbw.size)⟩
            |exact⟨rfl,hbw.trans (h4.mono hbw.size)⟩)
  · have hd1:decide ((k:Int)<(n:Int))=false:=ay;rw[List.take_of_length_le byOmega]at ho;rw[bF byOmega]at hs;have HE:=au (show iJ l=cu (l.map (·.key)) by unfold iJ;rw[<-hs];rfl);obtain⟨A1,q1,rfl,hq1,yL⟩:=ho.form;have hkk:=ho.sl (ok:=fun k=>k.size<=140737488351232) byOmega AU (fun k hk=>by obtain⟨a,ha,rfl⟩:=List.mem_map.1 hk;exact HK.out a ha);obtain⟨_,_,_,ee,-,-,hkk⟩:=hkk;injection ee with e1 e2 e3
    subst e1 e2 e3;have hR:=Lr A1 _ q1 (l.map (·.key)) wr hkk (by rw[List.length_map];unfold maxLen;omega);rw[List.length_map]at hR;clear hs ho;go_wp2_with ((with_reducible refine hR.mono ?_);rintro e w4 ⟨rfl,rfl⟩);go_ret;rw[HE.out];exact⟨rfl,hb⟩
def um (l:List Wt):Bool:=(l.all fun a=>a.v.may)&&cu (l.map (·.key))
def acO (l:List Wt) (w:World) (v i:Value) (wr:World):Prop:=∃k:Nat,k<=l.length/\i=.int .i64 (k:Int)/\bV gQ 9 1 w.heap.size wr v ((l.take k).map (·.key))/\((l.drop k).all fun a=>a.v.may)=(l.all fun a=>a.v.may)/\Below w.heap.size w wr
theorem acP (A:Option Addr) (n c:Nat) (l:List Wt) (w:World) (h:Sl aF 4 w w.heap.size A n l) (hn:n<=5000000):
 Calls Tryz.prog 105 #[.slice A n c] w fun e w'=>e=.returned (.bool (um l))/\Below w.heap.size w w':=by
 obtain⟨i0,hi0,hz0,hz1,hz2⟩:=info_parts Dv;have hl:=h.1;have hle:l.length<=n:=byOmega;have hge:n<=l.length:=byOmega;have HK:=au (fun k hk=>(Sl.oO h k hk).1:∀a∈l,a.key.size<=140737488351232);clear hl;go_enter Tryz.func105,Tryz.ntmps105;go_wp2
 go_loopw [3,8] (fun v i wr=>acO l w v i wr) (fun _ i _=>n-(intOf i).toNat)
 case atStart=>exact⟨0,byOmega,rfl,bV.nil _,rfl,aC⟩
 case round=>
  obtain⟨k,hk,rfl,ho,hs,hb⟩:=hrel;have hzz:=hb.size;by_cases hlt:k<n
  · obtain⟨ad,a,rfl,ha,hbk,hok,c0,c1,c2,c3⟩:=((h.below aF.kept hb).more aF.kept hb.size).wt hlt;have hd1:decide ((k:Int)<(n:Int))=true:=ay;have hk0:(0:Int)<=(k:Int):=byOmega;have hk1:(k:Int)<(n:Int):=byOmega;have HS:=au (show (l.take (k+1)).map (·.key)=(l.take k).map (·.key)++[a.key] by rw[List.take_add_one,ha];simp);have hln:((l.take k).map (·.key)).length<=5000000:=ay;rw[rZ ha]at hs;clear ha;obtain⟨A1,q1,rfl,hq1,yL⟩:=ho.form;generalize (l.take k).map (·.key)=ks at*;have hX:Below wr.heap.size wr ((wr.alloc (.cells a.cells.toArray 61)).alloc (.cells (gQ a.key).toArray 9)):=((aC).alloc (Nat.le_refl _) _).alloc aA _;have hown0:=ho.below hX;have dF:=nK (wr.alloc (.cells a.cells.toArray 61)) 9 (gQ a.key) 1 rfl;rw[show (wr.alloc (.cells a.cells.toArray 61)).heap.size=wr.heap.size+1 from aA]at dF;have hsz0:((wr.alloc (.cells a.cells.toArray 61)).alloc (.cells (gQ a.key).toArray 9)).heap.size=wr.heap.size+2:=aA;have bS:=(aj.new wr 61 a.cells.toArray).alloc (.cells (gQ a.key).toArray 9);go_upto_region 6 with (first
        |(at_builtin
          refine iI _ rfl (.tmp 12) (.tmp 15) _ rfl w.heap.size 9 i0 _ 1 16 Tryz.underlying27 hi0 hz0 hz1 hz2 rfl byOmega (.slice A1 ks.length q1) _ (ks.flatMap gQ) aI hown0 _ (some ⟨wr.heap.size+1,0,none⟩) 1 1 (gQ a.key) aI
           dF (EP a.key) dX byOmega ay ?_
          intro v3 w3 hown3 hg3 wJ;obtain⟨A3,q3,rfl,hq3,xG⟩:=fP hown3))
    have hp:=bV.push a.key hown3;have hbw:=(hb.trans (hX.mono hzz)).grown hg3 ay (fun q hq=>(hown0.lt q hq).1);have uj:=bS.grown hg3 (fun e=>by have:=(ho.lt _ e.symm).2;omega);have x1:=cl (uj.cell 1);have x2:=cl (uj.cell 2);have x3:=cl (uj.cell 3);have hlx:=uj.lt;have hv:=fun w=>Du a.v w
    have HD:=au hs;have HP:=au hp;clear hs hp hown3 hg3 wJ hown0 dF hsz0 hX bS uj c0 c1 c2 c3 ho hq3 xG hbk;generalize wr.heap.size=bx at*;generalize a.v.may=u2 at*;cases u2;all_goals
        go_wp2_with ((with_reducible refine(hv _).mono ?_);rintro e w5 ⟨rfl,h5⟩)
        first
         |(go_roundw
           case rel=>
            refine⟨k+1,byOmega,by go_num,?_,?_,hbw.trans (h5.mono hbw.size)⟩
            · rw[HS.out];exact HP.out.below h5
            · rw[<-HD.out];rfl
           case measure=>simp[intOf];omega)
         |(go_ret
           have e:um l=false:=(by unfold um;rw[<-HD.out];rfl);rw[e];exact⟨rfl,hbw.trans (h5.mono hbw.size)⟩)
  · have hd1:decide ((k:Int)<(n:Int))=false:=ay;rw[List.take_of_length_le byOmega]at ho;rw[bF byOmega]at hs;have HE:=au (show um l=cu (l.map (·.key)) by unfold um;rw[<-hs];rfl);obtain⟨A1,q1,rfl,hq1,yL⟩:=ho.form;have hkk:=ho.sl (ok:=fun k=>k.size<=140737488351232) byOmega AU (fun k hk=>by obtain⟨a,ha,rfl⟩:=List.mem_map.1 hk;exact HK.out a ha);obtain⟨_,_,_,ee,-,-,hkk⟩:=hkk;injection ee with e1 e2 e3
    subst e1 e2 e3;have hR:=Lr A1 _ q1 (l.map (·.key)) wr hkk (by rw[List.length_map];unfold maxLen;omega);rw[List.length_map]at hR;clear hs ho;go_wp2_with ((with_reducible refine hR.mono ?_);rintro e w4 ⟨rfl,rfl⟩);go_ret;rw[HE.out];exact⟨rfl,hb⟩
theorem TG {w:World} {g:Nat} {t:TypeId} {m:Mg} {v1 v2 v3 v4 v5 v6 v7 v8:Value} (h:aj w g t (m.arr v1 v2 v3 v4 v5 v6 v7 v8)):g<w.heap.size/\w.cell? ⟨g,0,none⟩=some (.int .i64 m.k)/\w.cell? ⟨g,1,none⟩=some (.int .i64 m.fr)/\w.cell? ⟨g,2,none⟩=some (.int .i64 m.aG)/\w.cell? ⟨g,3,none⟩=some (.int .i64 m.t.c)/\w.cell? ⟨g,4,none⟩=some (.int .i64 m.t.l)/\w.cell? ⟨g,5,none⟩=some (.int .i64 m.t.s)/\w.cell? ⟨g,6,none⟩=some (.int .i64 m.rg)/\w.cell? ⟨g,7,none⟩=some (.int .i64 m.ep)/\w.cell? ⟨g,8,none⟩=some (.int .i64 m.cd)/\w.cell? ⟨g,9,none⟩=some (.int .i64 m.s.w)/\w.cell? ⟨g,10,none⟩=some (.int .i64 m.s.l)/\w.cell? ⟨g,11,none⟩=some (.int .i64 m.s.n)/\w.cell? ⟨g,12,none⟩=some (.int .i64 m.pv.w)/\w.cell? ⟨g,13,none⟩=some (.int .i64 m.pv.l)/\w.cell? ⟨g,14,none⟩=some (.int .i64 m.pv.n)/\w.cell? ⟨g,15,none⟩=some (.bool m.cm)/\w.cell? ⟨g,16,none⟩=some (.int .i64 m.n)/\w.cell? ⟨g,17,none⟩=some (.int .i64 m.mx)/\w.cell? ⟨g,18,none⟩=some (v1)/\w.cell? ⟨g,19,none⟩=some (v2)/\w.cell? ⟨g,20,none⟩=some (v3)/\w.cell? ⟨g,21,none⟩=some (v4)/\w.cell? ⟨g,22,none⟩=some (v5)/\w.cell? ⟨g,23,none⟩=some (v6)/\w.cell? ⟨g,24,none⟩=some (.int .i64 m.st.r.id)/\w.cell? ⟨g,25,none⟩=some (.int .i64 m.st.r.ep)/\w.cell? ⟨g,26,none⟩=some (.float .f64 m.st.r.lo)/\w.cell? ⟨g,27,none⟩=some (.float .f64 m.st.r.hi)/\w.cell? ⟨g,28,none⟩=some (.int .i64 m.st.f.w)/\w.cell? ⟨g,29,none⟩=some (.int .i64 m.st.f.l)/\w.cell? ⟨g,30,none⟩=some (.int .i64 m.st.f.n)/\w.cell? ⟨g,31,none⟩=some (.int .i64 m.st.c.w)/\w.cell? ⟨g,32,none⟩=some (.int .i64 m.st.c.l)/\w.cell? ⟨g,33,none⟩=some (.int .i64 m.st.c.n)/\w.cell? ⟨g,34,none⟩=some (v7)/\w.cell? ⟨g,35,none⟩=some (v8):=
 ⟨h.lt,h.cell 0,h.cell 1,h.cell 2,h.cell 3,h.cell 4,h.cell 5,h.cell 6,h.cell 7,h.cell 8,h.cell 9,h.cell 10,h.cell 11,h.cell 12,h.cell 13,h.cell 14,h.cell 15,h.cell 16,h.cell 17,h.cell 18,h.cell 19,h.cell 20,h.cell 21,h.cell 22,h.cell 23,h.cell 24,h.cell 25,h.cell 26,h.cell 27,h.cell 28,h.cell 29,h.cell 30,h.cell 31,h.cell 32,h.cell 33,h.cell 34,h.cell 35⟩
def Mg.Ea (m:Mg):Bool:=decide (m.t=⟨0,0,0⟩)&&(m.rg==0)&&(m.ep==0)&&(m.cd==0)&&m.s.zero&&m.pv.zero&& !m.cm&&(m.n==0)&&(m.mx==0)
def Mg.BL (m:Mg):Bool:=decide (m.ks.length+m.sn.length+m.ws.length+m.ps.length+m.rs.length+m.rc.length=0)
def Mg.eH (m:Mg):Bool:=m.Ea&&m.st.eH&&m.BL
set_option maxRecDepth 100000 in
set_option maxHeartbeats 8000000 in
theorem acQ (m:Mg) (h:Hm) (w:World) (i:bH w w.heap.size m h) (sm:h.a.n<=5000000/\h.b.n<=5000000/\h.c.n<=5000000/\h.d.n<=5000000/\h.e.n<=5000000/\h.f.n<=5000000):
 Calls Tryz.prog 29 #[.agg (m.vals h)] w fun e w'=>e=.returned (.bool m.eH)/\Below w.heap.size w w':=by
 have hX:Below w.heap.size w (w.alloc (.cells (m.vals h) 41)):=aJ;have bM:aj (w.alloc (.cells (m.vals h) 41)) w.heap.size 41 (m.vals h):=aj.new _ _ _;have z0:=fun w=>DY m.t ⟨0,0,0⟩ w
 have z1:=fun w=>fQ m.s w
 have z2:=fun w=>fQ m.pv w
 have z3:=fun w=>fQ m.st.f w
 have z4:=fun w=>fQ m.st.c w
 have HF:=au (show m.Ea=(decide (m.t=⟨0,0,0⟩)&&(m.rg==0)&&(m.ep==0)&&(m.cd==0)&&m.s.zero&&m.pv.zero&& !m.cm&&(m.n==0)&&(m.mx==0)) from rfl);have HS:=au (show m.st.eH=((m.st.r.id==0)&&(m.st.r.ep==0)&&((m.st.r.lo:Int)==0)&&((m.st.r.hi:Int)==0)&&m.st.f.zero&&m.st.c.zero&&((h.g.n:Int)==0)&&((h.i.n:Int)==0)) by unfold dP.eH;rw[i.hs.1,i.pn.1]);have HN:=au (show m.BL=decide (h.a.n+h.b.n+h.c.n+h.d.n+h.e.n+h.f.n=0) by unfold Mg.BL;rw[i.ks.1,i.sn.1,i.ws.1,i.ps.1,i.rs.1,i.rc.1]);have HZ:=au (show m.eH=(m.Ea&&m.st.eH&&m.BL) from rfl);obtain⟨sa,sb,sc,sd,se,sf⟩:=sm;clear i;generalize decide (m.t=⟨0,0,0⟩)=u0 at*;generalize m.s.zero=u1 at*;generalize m.pv.zero=u2 at*;generalize m.st.f.zero=u3 at*;generalize m.st.c.zero=u4 at*;generalize m.Ea=x1 at*;generalize m.st.eH=x2 at*;generalize m.BL=x3 at*;go_enter Tryz.func29,Tryz.ntmps29;go_upto_region 1 with fail;generalize (w.alloc (.cells (m.vals h) 41))=w1 at*;obtain⟨lM,y0,y1,y2,y3,y4,y5,y6,y7,y8,y9,rE,rF,IV,y13,IW,IZ,I4,I5,I7,BN,y20,y21,y22,y23,y24,y25,FK,y27,y28,y29,FM,y31,y32,FN,y34,FP⟩:=TG bM;have bS:=aj.new w1 39 #[.int .i64 m.st.r.id,.int .i64 m.st.r.ep,.float .f64 m.st.r.lo,.float .f64 m.st.r.hi,.int .i64 m.st.f.w,.int .i64 m.st.f.l,.int .i64 m.st.f.n,.int .i64 m.st.c.w,.int .i64 m.st.c.l,.int .i64 m.st.c.n,.slice h.g.A h.g.n h.g.c,.slice h.i.A h.i.n h.i.c];have hY:Below w.heap.size w (w1.alloc (.cells #[.int .i64 m.st.r.id,.int .i64 m.st.r.ep,.float .f64 m.st.r.lo,.float .f64 m.st.r.hi,.int .i64 m.st.f.w,.int .i64 m.st.f.l,.int .i64 m.st.f.n,.int .i64 m.st.c.w,.int .i64 m.st.c.l,.int .i64 m.st.c.n,.slice h.g.A h.g.n h.g.c,.slice h.i.A h.i.n h.i.c] 39)):=hX.alloc byOmega _;have bN:=bM.alloc (.cells #[.int .i64 m.st.r.id,.int .i64 m.st.r.ep,.float .f64 m.st.r.lo,.float .f64 m.st.r.hi,.int .i64 m.st.f.w,.int .i64 m.st.f.l,.int .i64 m.st.f.n,.int .i64 m.st.c.w,.int .i64 m.st.c.l,.int .i64 m.st.c.n,.slice h.g.A h.g.n h.g.c,.slice h.i.A h.i.n h.i.c] 39);go_upto_region 2 with fail;generalize (w1.alloc (.cells #[.int .i64 m.st.r.id,.int .i64 m.st.r.ep,.float .f64 m.st.r.lo,.float .f64 m.st.r.hi,.int .i64 m.st.f.w,.int .i64 m.st.f.l,.int .i64 m.st.f.n,.int .i64 m.st.c.w,.int .i64 m.st.c.l,.int .i64 m.st.c.n,.slice h.g.A h.g.n h.g.c,.slice h.i.A h.i.n h.i.c] 39))=w2 at*;generalize w1.heap.size=gS at*;clear y0 y1 y2 y3 y4 y5 y6 y7 y8 y9 rE rF IV y13 IW IZ I4 I5 I7 BN y20 y21 y22 y23 y24 y25 FK y27 y28 y29 FM y31 y32 FN y34 FP lM bM hX;obtain⟨lM,y0,y1,y2,y3,y4,y5,y6,y7,y8,y9,rE,rF,IV,y13,IW,IZ,I4,I5,I7,BN,y20,y21,y22,y23,y24,y25,FK,y27,y28,y29,FM,y31,y32,FN,y34,FP⟩:=TG bN
 go_cut [4] from 6 (fun v w'=>v=.bool x1/\w'=w2)
 case first=>
  go_wp2_with fail;all_goals
   go_meet
   case rel=>exact⟨congrArg Value.bool (by rw[HF.out];simp_all),rfl⟩
 case rest=>
  obtain⟨rfl,rfl⟩:=hcut;obtain⟨lS,q0,q1,q2,q3,q4,q5,q6,q7,q8,q9,q10,q11⟩:=bS.dozen;go_upto_region 3 with fail
  go_cut [5] from 54 (fun v w'=>v=.bool x2/\w'=wc)
  case first=>
   go_wp2_with fail;all_goals
        go_meet
        case rel=>exact⟨congrArg Value.bool (by rw[HS.out];simp_all),rfl⟩
  case rest=>
   rename_i wd;obtain⟨rfl,rfl⟩:=hcut;have w1:IntKind.i64.wrap ((h.a.n:Int)+(h.b.n:Int))=((h.a.n+h.b.n:Nat):Int):=(by rw[IntKind.wrap_i64];omega);have w2:IntKind.i64.wrap (((h.a.n+h.b.n:Nat):Int)+(h.c.n:Int))=((h.a.n+h.b.n+h.c.n:Nat):Int):=(by rw[IntKind.wrap_i64];omega);have w3:IntKind.i64.wrap (((h.a.n+h.b.n+h.c.n:Nat):Int)+(h.d.n:Int))=((h.a.n+h.b.n+h.c.n+h.d.n:Nat):Int):=(by rw[IntKind.wrap_i64];omega);have w4:IntKind.i64.wrap (((h.a.n+h.b.n+h.c.n+h.d.n:Nat):Int)+(h.e.n:Int))=((h.a.n+h.b.n+h.c.n+h.d.n+h.e.n:Nat):Int):=(by rw[IntKind.wrap_i64];omega);have w5:IntKind.i64.wrap (((h.a.n+h.b.n+h.c.n+h.d.n+h.e.n:Nat):Int)+(h.f.n:Int))=((h.a.n+h.b.n+h.c.n+h.d.n+h.e.n+h.f.n:Nat):Int):=(by rw[IntKind.wrap_i64];omega);have HE:(((h.a.n+h.b.n+h.c.n+h.d.n+h.e.n+h.f.n:Nat):Int)==0)=x3:=(by rw[HN.out,Bool.eq_iff_iff,beq_iff_eq,decide_eq_true_eq];omega);generalize h.a.n+h.b.n+h.c.n+h.d.n+h.e.n+h.f.n=s6 at*;generalize h.a.n+h.b.n+h.c.n+h.d.n+h.e.n=s5 at*;generalize h.a.n+h.b.n+h.c.n+h.d.n=s4 at*;generalize h.a.n+h.b.n+h.c.n=s3 at*;generalize h.a.n+h.b.n=s2 at*;cases x1<;>cases x2
   all_goals
        go_wp2_with fail;go_ret;rw[HZ.out];exact⟨aZ aA,hY⟩
