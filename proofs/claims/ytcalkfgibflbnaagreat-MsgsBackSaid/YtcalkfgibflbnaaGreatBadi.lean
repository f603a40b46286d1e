/- The walks of the document's Applies and good. -/
import Derived.Test.YtcalkfgibflbnaaGreatBacb
import Derived.Test.YtcalkfgibflbnaaGreatBadd
namespace Go.Proofs.YtcalkfgibflbnaaGreat
set_option maxHeartbeats 4000000
set_option maxRecDepth 100000
set_option linter.unusedVariables false
open Go.RowKit Fl
attribute [local go_sem] dJ
def qY (pv s:Sp) (t:Tx) (l:List Wt):Bool:=pv.may&&s.may&&decide (pv.cmp s<0)&&t.may&&decide (1<=l.length)&&jY l
theorem AQ (pv s:Sp) (t:Tx) (A:Option Addr) (n c:Nat) (l:List Wt) (w:World) (h:Sl aF 4 w w.heap.size A n l) (hn:n<=maxLen):
 Calls Tryz.prog 74 #[pv.val,s.val,t.val,.slice A n c] w fun e w'=>e=.returned (.bool (qY pv s t l))/\Below w.heap.size w w':=by
 have hM:=fun w=>jF pv w
 have hN:=fun w=>jF s w
 have hC:=fun w=>MP pv s w
 have hT:=fun w=>nI t w
 have hP:=fun w' (hb:Below w.heap.size w w')=>zo A n c l w' ((h.below aF.kept hb).more aF.kept hb.size) hn
 have HZ:=au (show qY pv s t l=(pv.may&&s.may&&decide (pv.cmp s<0)&&t.may&&decide (1<=n)&&jY l) by unfold qY;rw[h.1]);have hX:Below w.heap.size w (((w.alloc (.cells pv.arr 26)).alloc (.cells s.arr 26)).alloc (.cells #[.int .i64 t.c,.int .i64 t.l,.int .i64 t.s] 23)):=aJ;have B0:=((aj.new w 26 pv.arr).alloc (.cells s.arr 26)).alloc (.cells #[.int .i64 t.c,.int .i64 t.l,.int .i64 t.s] 23);have B1:=(aj.new' (w:=w.alloc (.cells pv.arr 26)) (g:=w.heap.size+1) 26 s.arr aA).alloc (.cells #[.int .i64 t.c,.int .i64 t.l,.int .i64 t.s] 23);have B2:=aj.new' (w:=(w.alloc (.cells pv.arr 26)).alloc (.cells s.arr 26)) (g:=w.heap.size+1+1) 23 #[.int .i64 t.c,.int .i64 t.l,.int .i64 t.s] aA;clear h;generalize decide (pv.cmp s<0)=z at*;generalize jY l=p at*;generalize hg1:pv.may=b1 at*;generalize hg2:s.may=b2 at*;generalize hg3:t.may=b3 at*;clear hg1 hg2 hg3;go_enter Tryz.func74,Tryz.ntmps74;go_wp2_with (first
  |((with_reducible refine(hM _).mono ?_);rintro e w1 ⟨rfl,hb1⟩
    have C0:=B0.below hb1 B0.lt;have C1:=B1.below hb1 B1.lt;have C2:=B2.below hb1 B2.lt;have hY:=hX.trans (hb1.mono hX.size);obtain⟨g0,x0,x1,x2⟩:=C0.three;obtain⟨g1,y0,y1,y2⟩:=C1.three;obtain⟨g2,t0,t1,t2⟩:=C2.three)
  |((with_reducible refine(hN _).mono ?_);rintro e w2 ⟨rfl,hb2⟩
    have D0:=C0.below hb2 C0.lt;have D1:=C1.below hb2 C1.lt;have D2:=C2.below hb2 C2.lt;have hZ:=hY.trans (hb2.mono hY.size);obtain⟨k0,r0,r1,r2⟩:=D0.three;obtain⟨k1,u0,u1,u2⟩:=D1.three;obtain⟨k2,v0,v1,v2⟩:=D2.three)
  |((with_reducible refine(hC _).mono ?_);rintro e w3 ⟨rfl,hb3⟩
    have E2:=D2.below hb3 D2.lt;have hU:=hZ.trans (hb3.mono hZ.size);obtain⟨m2,q0,q1,q2⟩:=E2.three)
  |((with_reducible refine(hT _).mono ?_);rintro e w4 ⟨rfl,hb4⟩
    have hV:=hU.trans (hb4.mono hU.size))
  |((with_reducible refine(hP _ hV).mono ?_);rintro e w5 ⟨rfl,hb5⟩))
 all_goals go_ret
 all_goals refine⟨aZ ?_,by first|exact hV.trans (hb5.mono hV.size)|exact hV|exact hU|exact hZ|exact hY⟩
 all_goals rw[HZ.out]
 all_goals first|(simp_all;done)|(simp_all;omega)
def jQ (r:Rc):Bool:=
 if r.k=1 then (dV r.st) else
 if r.k=2 then (decide (0<=r.n)&&decide (r.n<=281474976710656)) else
 if r.k=3 then ((dw ⟨r.t,r.s,r.rd,r.wr⟩==0)&&dQ r.ps) else
 if r.k=4 then (r.t.may&&r.s.may&&(r.s.zero== !r.cm)) else
 if r.k=5 then r.s.may else
 if r.k=6 then (ku r.pt 0&&jS r.pt 4607182418800017408&&decide (1<=r.n)&&decide (r.n<=12)&&r.s.may) else
 if r.k=7 then (decide (1<=r.n)&&decide (r.n<=12)) else
 if r.k=8 then (decide (1<=r.n)) else
 if r.k=9 then (r.t.may&&r.s.may&& !r.s.zero&&dQ r.ps) else
 if r.k=10 then r.t.may else
 if r.k=11 then (qY r.pv r.s r.t r.wr) else
 if r.k=12 then (r.s.may&&pF r.pr) else
 false
theorem ag8 (r:Rc) (h:aV) (w:World) (hk:r.k=1) (ok:r.ok) (i:dO w r h) (sm:iR r h):
 Calls Tryz.prog 173 #[.agg (r.vals h)] w fun e w'=>e=.returned (.bool (dV r.st))/\Below w.heap.size w w':=by
 obtain⟨k,t,s,pv,cm,n,pt,rd,wr,ps,pr,st⟩:=r;change k=1 at hk;subst hk;have z1:=fun w=>fQ s w
 have hM:=fun w=>jF s w
 have hT:=fun w=>nI t w
 have hS:=fun w' (hb:Below w.heap.size w w')=>Ar st h.e.A h.f.A h.e.n h.f.n h.e.c h.f.c w' ok.rg (i.below hb).hs (i.below hb).pn sm.h sm.p
 have hX:Below w.heap.size w (w.alloc (.cells (Rc.vals ⟨1,t,s,pv,cm,n,pt,rd,wr,ps,pr,st⟩ h) 69)):=aJ;have B0:aj (w.alloc (.cells (Rc.vals ⟨1,t,s,pv,cm,n,pt,rd,wr,ps,pr,st⟩ h) 69)) w.heap.size 69 (Rc.vals ⟨1,t,s,pv,cm,n,pt,rd,wr,ps,pr,st⟩ h):=aj.new _ _ _;clear ok i sm;generalize hg0:dV st=g0 at*;generalize hg1:s.may=g1 at*;generalize hg2:t.may=g2 at*;generalize hg3:s.zero=g3 at*;clear hg0 hg1 hg2 hg3;go_enter Tryz.func173,Tryz.ntmps173;go_wp2_with (first
  |((with_reducible refine(hM _).mono ?_);rintro e w1 ⟨rfl,hb1⟩
    have hY:=hX.trans (hb1.mono hX.size);have C0:=B0.below hb1 B0.lt;have l0:=C0.lt;have mJ:=C0.cell 0;have mM:=C0.cell 1;have mO:=C0.cell 2;have mP:=C0.cell 3;have ag9:=C0.cell 17;have ag':=C0.cell 18;have aha:=C0.cell 19;have ahb:=C0.cell 20;have ahc:=C0.cell 21;have ahd:=C0.cell 22;have ahe:=C0.cell 23;have ahf:=C0.cell 24;have ahg:=C0.cell 25;have ahh:=C0.cell 26;have ahi:=C0.cell 27;have ahj:=C0.cell 28;simp only[List.getElem?_toArray,List.getElem?_cons_succ,getZero]at mJ mM mO mP ag9 ag' aha ahb ahc ahd ahe ahf ahg ahh ahi ahj)
  |((with_reducible refine(hT _).mono ?_);rintro e w2 ⟨rfl,hb2⟩
    have hZ:=hY.trans (hb2.mono hY.size);have C1:=C0.below hb2 C0.lt;have l1:=C1.lt;have mQ:=C1.cell 0;have ahk:=C1.cell 17;have ahl:=C1.cell 18;have ahm:=C1.cell 19;have ahn:=C1.cell 20;have aho:=C1.cell 21;have ahp:=C1.cell 22;have ahq:=C1.cell 23;have ahr:=C1.cell 24;have ahs:=C1.cell 25;have aht:=C1.cell 26;have ahu:=C1.cell 27;have ahv:=C1.cell 28;simp only[List.getElem?_toArray,List.getElem?_cons_succ,getZero]at mQ ahk ahl ahm ahn aho ahp ahq ahr ahs aht ahu ahv)
  |((with_reducible refine(hS _ hZ).mono ?_);rintro e w3 ⟨rfl,hb3⟩
    have hU:=hZ.trans (hb3.mono hZ.size)))
 all_goals go_ret
 all_goals refine⟨aZ ?_,by first|exact hU|exact hZ⟩
 all_goals first|rfl|(simp_all;done)|(simp_all;omega)
theorem ahw (r:Rc) (h:aV) (w:World) (hk:r.k=2) (ok:r.ok) (i:dO w r h) (sm:iR r h):
 Calls Tryz.prog 173 #[.agg (r.vals h)] w fun e w'=>e=.returned (.bool (decide (0<=r.n)&&decide (r.n<=281474976710656)))/\Below w.heap.size w w':=by
 obtain⟨k,t,s,pv,cm,n,pt,rd,wr,ps,pr,st⟩:=r;change k=2 at hk;subst hk;have z1:=fun w=>fQ s w
 have hM:=fun w=>jF s w
 have hT:=fun w=>nI t w
 have hX:Below w.heap.size w (w.alloc (.cells (Rc.vals ⟨2,t,s,pv,cm,n,pt,rd,wr,ps,pr,st⟩ h) 69)):=aJ;have B0:aj (w.alloc (.cells (Rc.vals ⟨2,t,s,pv,cm,n,pt,rd,wr,ps,pr,st⟩ h) 69)) w.heap.size 69 (Rc.vals ⟨2,t,s,pv,cm,n,pt,rd,wr,ps,pr,st⟩ h):=aj.new _ _ _;clear ok i sm;generalize hg0:s.may=g0 at*;generalize hg1:t.may=g1 at*;generalize hg2:s.zero=g2 at*;clear hg0 hg1 hg2;go_enter Tryz.func173,Tryz.ntmps173;go_wp2_with (first
  |((with_reducible refine(hM _).mono ?_);rintro e w1 ⟨rfl,hb1⟩
    have hY:=hX.trans (hb1.mono hX.size);have C0:=B0.below hb1 B0.lt;have l0:=C0.lt;have mJ:=C0.cell 0;have mM:=C0.cell 1;have mO:=C0.cell 2;have mP:=C0.cell 3;have CU:=C0.cell 11;simp only[List.getElem?_toArray,List.getElem?_cons_succ,getZero]at mJ mM mO mP CU)
  |((with_reducible refine(hT _).mono ?_);rintro e w2 ⟨rfl,hb2⟩
    have hZ:=hY.trans (hb2.mono hY.size);have C1:=C0.below hb2 C0.lt;have l1:=C1.lt;have mQ:=C1.cell 0;have CV:=C1.cell 11;simp only[List.getElem?_toArray,List.getElem?_cons_succ,getZero]at mQ CV))
 all_goals go_ret
 all_goals refine⟨aZ ?_,by first|exact hZ⟩
 all_goals first|rfl|(simp_all;done)|(simp_all;omega)
theorem ahx (r:Rc) (h:aV) (w:World) (hk:r.k=3) (ok:r.ok) (i:dO w r h) (sm:iR r h):
 Calls Tryz.prog 173 #[.agg (r.vals h)] w fun e w'=>e=.returned (.bool ((dw ⟨r.t,r.s,r.rd,r.wr⟩==0)&&dQ r.ps))/\Below w.heap.size w w':=by
 obtain⟨k,t,s,pv,cm,n,pt,rd,wr,ps,pr,st⟩:=r;change k=3 at hk;subst hk;have z1:=fun w=>fQ s w
 have hM:=fun w=>jF s w
 have hT:=fun w=>nI t w
 have hS:=fun w' (hb:Below w.heap.size w w')=>TW ⟨t,s,rd,wr⟩ h.a.A h.b.A h.a.n h.b.n h.a.c h.b.c w' (i.below hb).rd (i.below hb).wr i.na i.nb
 have hQ:=fun w' (hb:Below w.heap.size w w')=>yR h.c.A h.c.n h.c.c ps w' (i.below hb).ps i.nc
 have hX:Below w.heap.size w (w.alloc (.cells (Rc.vals ⟨3,t,s,pv,cm,n,pt,rd,wr,ps,pr,st⟩ h) 69)):=aJ;have B0:aj (w.alloc (.cells (Rc.vals ⟨3,t,s,pv,cm,n,pt,rd,wr,ps,pr,st⟩ h) 69)) w.heap.size 69 (Rc.vals ⟨3,t,s,pv,cm,n,pt,rd,wr,ps,pr,st⟩ h):=aj.new _ _ _;clear ok i sm;generalize hg0:dw ⟨t,s,rd,wr⟩=g0 at*;generalize hg1:dQ ps=g1 at*;generalize hg2:s.may=g2 at*;generalize hg3:t.may=g3 at*;generalize hg4:s.zero=g4 at*;clear hg0 hg1 hg2 hg3 hg4;go_enter Tryz.func173,Tryz.ntmps173;go_wp2_with (first
  |((with_reducible refine(hM _).mono ?_);rintro e w1 ⟨rfl,hb1⟩
    have hY:=hX.trans (hb1.mono hX.size);have C0:=B0.below hb1 B0.lt;have l0:=C0.lt;have mJ:=C0.cell 0;have mM:=C0.cell 1;have mO:=C0.cell 2;have mP:=C0.cell 3;have BR:=C0.cell 4;have BU:=C0.cell 5;have BZ:=C0.cell 6;have ahy:=C0.cell 13;have OE:=C0.cell 14;have BQ:=C0.cell 15;simp only[List.getElem?_toArray,List.getElem?_cons_succ,getZero]at mJ mM mO mP BR BU BZ ahy OE BQ)
  |((with_reducible refine(hT _).mono ?_);rintro e w2 ⟨rfl,hb2⟩
    have hZ:=hY.trans (hb2.mono hY.size);have C1:=C0.below hb2 C0.lt;have l1:=C1.lt;have mQ:=C1.cell 0;have OG:=C1.cell 1;have OH:=C1.cell 2;have OI:=C1.cell 3;have FQ:=C1.cell 4;have FT:=C1.cell 5;have FU:=C1.cell 6;have ahz:=C1.cell 13;have OJ:=C1.cell 14;have FV:=C1.cell 15;simp only[List.getElem?_toArray,List.getElem?_cons_succ,getZero]at mQ OG OH OI FQ FT FU ahz OJ FV)
  |((with_reducible refine(hS _ hZ).mono ?_);rintro e w3 ⟨rfl,hb3⟩
    have hU:=hZ.trans (hb3.mono hZ.size);have C2:=C1.below hb3 C1.lt;have l2:=C2.lt;have ahA:=C2.cell 15;simp only[List.getElem?_toArray,List.getElem?_cons_succ,getZero]at ahA)
  |((with_reducible refine(hQ _ hU).mono ?_);rintro e w4 ⟨rfl,hb4⟩
    have hV:=hU.trans (hb4.mono hU.size)))
 all_goals go_ret
 all_goals refine⟨aZ ?_,by first|exact hV|exact hU|exact hZ⟩
 all_goals first|rfl|(simp_all;done)|(simp_all;omega)
theorem ahB (r:Rc) (h:aV) (w:World) (hk:r.k=4) (ok:r.ok) (i:dO w r h) (sm:iR r h):
 Calls Tryz.prog 173 #[.agg (r.vals h)] w fun e w'=>e=.returned (.bool (r.t.may&&r.s.may&&(r.s.zero== !r.cm)))/\Below w.heap.size w w':=by
 obtain⟨k,t,s,pv,cm,n,pt,rd,wr,ps,pr,st⟩:=r;change k=4 at hk;subst hk;have z1:=fun w=>fQ s w
 have hM:=fun w=>jF s w
 have hT:=fun w=>nI t w
 have hX:Below w.heap.size w (w.alloc (.cells (Rc.vals ⟨4,t,s,pv,cm,n,pt,rd,wr,ps,pr,st⟩ h) 69)):=aJ;have B0:aj (w.alloc (.cells (Rc.vals ⟨4,t,s,pv,cm,n,pt,rd,wr,ps,pr,st⟩ h) 69)) w.heap.size 69 (Rc.vals ⟨4,t,s,pv,cm,n,pt,rd,wr,ps,pr,st⟩ h):=aj.new _ _ _;clear ok i sm;generalize hg0:s.may=g0 at*;generalize hg1:t.may=g1 at*;generalize hg2:s.zero=g2 at*;clear hg0 hg1 hg2;go_enter Tryz.func173,Tryz.ntmps173;go_wp2_with (first
  |((with_reducible refine(hM _).mono ?_);rintro e w1 ⟨rfl,hb1⟩
    have hY:=hX.trans (hb1.mono hX.size);have C0:=B0.below hb1 B0.lt;have l0:=C0.lt;have mJ:=C0.cell 0;have mM:=C0.cell 1;have mO:=C0.cell 2;have mP:=C0.cell 3;have Nl:=C0.cell 10;simp only[List.getElem?_toArray,List.getElem?_cons_succ,getZero]at mJ mM mO mP Nl)
  |((with_reducible refine(hT _).mono ?_);rintro e w2 ⟨rfl,hb2⟩
    have hZ:=hY.trans (hb2.mono hY.size);have C1:=C0.below hb2 C0.lt;have l1:=C1.lt;have mQ:=C1.cell 0;have ahC:=C1.cell 10;simp only[List.getElem?_toArray,List.getElem?_cons_succ,getZero]at mQ ahC))
 all_goals go_ret
 all_goals refine⟨aZ ?_,by first|exact hZ⟩
 all_goals first|rfl|(simp_all;done)|(simp_all;omega)
theorem ahD (r:Rc) (h:aV) (w:World) (hk:r.k=5) (ok:r.ok) (i:dO w r h) (sm:iR r h):
 Calls Tryz.prog 173 #[.agg (r.vals h)] w fun e w'=>e=.returned (.bool r.s.may)/\Below w.heap.size w w':=by
 obtain⟨k,t,s,pv,cm,n,pt,rd,wr,ps,pr,st⟩:=r;change k=5 at hk;subst hk;have z1:=fun w=>fQ s w
 have hM:=fun w=>jF s w
 have hT:=fun w=>nI t w
 have hX:Below w.heap.size w (w.alloc (.cells (Rc.vals ⟨5,t,s,pv,cm,n,pt,rd,wr,ps,pr,st⟩ h) 69)):=aJ;have B0:aj (w.alloc (.cells (Rc.vals ⟨5,t,s,pv,cm,n,pt,rd,wr,ps,pr,st⟩ h) 69)) w.heap.size 69 (Rc.vals ⟨5,t,s,pv,cm,n,pt,rd,wr,ps,pr,st⟩ h):=aj.new _ _ _;clear ok i sm;generalize hg0:s.may=g0 at*;generalize hg1:t.may=g1 at*;generalize hg2:s.zero=g2 at*;clear hg0 hg1 hg2;go_enter Tryz.func173,Tryz.ntmps173;go_wp2_with (first
  |((with_reducible refine(hM _).mono ?_);rintro e w1 ⟨rfl,hb1⟩
    have hY:=hX.trans (hb1.mono hX.size);have C0:=B0.below hb1 B0.lt;have l0:=C0.lt;have mJ:=C0.cell 0;have mM:=C0.cell 1;have mO:=C0.cell 2;have mP:=C0.cell 3;simp only[List.getElem?_toArray,List.getElem?_cons_succ,getZero]at mJ mM mO mP)
  |((with_reducible refine(hT _).mono ?_);rintro e w2 ⟨rfl,hb2⟩
    have hZ:=hY.trans (hb2.mono hY.size);have C1:=C0.below hb2 C0.lt;have l1:=C1.lt;have mQ:=C1.cell 0;simp only[List.getElem?_toArray,getZero]at mQ))
 all_goals go_ret
 all_goals refine⟨aZ ?_,by first|exact hZ⟩
 all_goals first|rfl|(simp_all;done)|(simp_all;omega)
theorem ahE (r:Rc) (h:aV) (w:World) (hk:r.k=6) (ok:r.ok) (i:dO w r h) (sm:iR r h):
 Calls Tryz.prog 173 #[.agg (r.vals h)] w fun e w'=>e=.returned (.bool (ku r.pt 0&&jS r.pt 4607182418800017408&&decide (1<=r.n)&&decide (r.n<=12)&&r.s.may))/\Below w.heap.size w w':=by
 obtain⟨k,t,s,pv,cm,n,pt,rd,wr,ps,pr,st⟩:=r;change k=6 at hk;subst hk;have z1:=fun w=>fQ s w
 have hM:=fun w=>jF s w
 have hT:=fun w=>nI t w
 have hX:Below w.heap.size w (w.alloc (.cells (Rc.vals ⟨6,t,s,pv,cm,n,pt,rd,wr,ps,pr,st⟩ h) 69)):=aJ;have B0:aj (w.alloc (.cells (Rc.vals ⟨6,t,s,pv,cm,n,pt,rd,wr,ps,pr,st⟩ h) 69)) w.heap.size 69 (Rc.vals ⟨6,t,s,pv,cm,n,pt,rd,wr,ps,pr,st⟩ h):=aj.new _ _ _;clear ok i sm;generalize hg0:s.may=g0 at*;generalize hg1:t.may=g1 at*;generalize hg2:s.zero=g2 at*;clear hg0 hg1 hg2;go_enter Tryz.func173,Tryz.ntmps173;go_wp2_with (first
  |((with_reducible refine(hM _).mono ?_);rintro e w1 ⟨rfl,hb1⟩
    have hY:=hX.trans (hb1.mono hX.size);have C0:=B0.below hb1 B0.lt;have l0:=C0.lt;have mJ:=C0.cell 0;have mM:=C0.cell 1;have mO:=C0.cell 2;have mP:=C0.cell 3;have CU:=C0.cell 11;have ahF:=C0.cell 12;simp only[List.getElem?_toArray,List.getElem?_cons_succ,getZero]at mJ mM mO mP CU ahF)
  |((with_reducible refine(hT _).mono ?_);rintro e w2 ⟨rfl,hb2⟩
    have hZ:=hY.trans (hb2.mono hY.size);have C1:=C0.below hb2 C0.lt;have l1:=C1.lt;have mQ:=C1.cell 0;have CV:=C1.cell 11;have ahG:=C1.cell 12;simp only[List.getElem?_toArray,List.getElem?_cons_succ,getZero]at mQ CV ahG))
 all_goals go_ret
 all_goals refine⟨aZ ?_,by first|exact hZ⟩
 all_goals first|rfl|(simp_all [ku,jS];done)|(simp_all;omega)
theorem ahH (r:Rc) (h:aV) (w:World) (hk:r.k=7) (ok:r.ok) (i:dO w r h) (sm:iR r h):
 Calls Tryz.prog 173 #[.agg (r.vals h)] w fun e w'=>e=.returned (.bool (decide (1<=r.n)&&decide (r.n<=12)))/\Below w.heap.size w w':=by
 obtain⟨k,t,s,pv,cm,n,pt,rd,wr,ps,pr,st⟩:=r;change k=7 at hk;subst hk;have z1:=fun w=>fQ s w
 have hM:=fun w=>jF s w
 have hT:=fun w=>nI t w
 have hX:Below w.heap.size w (w.alloc (.cells (Rc.vals ⟨7,t,s,pv,cm,n,pt,rd,wr,ps,pr,st⟩ h) 69)):=aJ;have B0:aj (w.alloc (.cells (Rc.vals ⟨7,t,s,pv,cm,n,pt,rd,wr,ps,pr,st⟩ h) 69)) w.heap.size 69 (Rc.vals ⟨7,t,s,pv,cm,n,pt,rd,wr,ps,pr,st⟩ h):=aj.new _ _ _;clear ok i sm;generalize hg0:s.may=g0 at*;generalize hg1:t.may=g1 at*;generalize hg2:s.zero=g2 at*;clear hg0 hg1 hg2;go_enter Tryz.func173,Tryz.ntmps173;go_wp2_with (first
  |((with_reducible refine(hM _).mono ?_);rintro e w1 ⟨rfl,hb1⟩
    have hY:=hX.trans (hb1.mono hX.size);have C0:=B0.below hb1 B0.lt;have l0:=C0.lt;have mJ:=C0.cell 0;have mM:=C0.cell 1;have mO:=C0.cell 2;have mP:=C0.cell 3;have CU:=C0.cell 11;simp only[List.getElem?_toArray,List.getElem?_cons_succ,getZero]at mJ mM mO mP CU)
  |((with_reducible refine(hT _).mono ?_);rintro e w2 ⟨rfl,hb2⟩
    have hZ:=hY.trans (hb2.mono hY.size);have C1:=C0.below hb2 C0.lt;have l1:=C1.lt;have mQ:=C1.cell 0;have CV:=C1.cell 11;simp only[List.getElem?_toArray,List.getElem?_cons_succ,getZero]at mQ CV))
 all_goals go_ret
 all_goals refine⟨aZ ?_,by first|exact hZ⟩
 all_goals first|rfl|(simp_all;done)|(simp_all;omega)
theorem ahI (r:Rc) (h:aV) (w:World) (hk:r.k=8) (ok:r.ok) (i:dO w r h) (sm:iR r h):
 Calls Tryz.prog 173 #[.agg (r.vals h)] w fun e w'=>e=.returned (.bool (decide (1<=r.n)))/\Below w.heap.size w w':=by
 obtain⟨k,t,s,pv,cm,n,pt,rd,wr,ps,pr,st⟩:=r;change k=8 at hk;subst hk;have z1:=fun w=>fQ s w
 have hM:=fun w=>jF s w
 have hT:=fun w=>nI t w
 have hX:Below w.heap.size w (w.alloc (.cells (Rc.vals ⟨8,t,s,pv,cm,n,pt,rd,wr,ps,pr,st⟩ h) 69)):=aJ;have B0:aj (w.alloc (.cells (Rc.vals ⟨8,t,s,pv,cm,n,pt,rd,wr,ps,pr,st⟩ h) 69)) w.heap.size 69 (Rc.vals ⟨8,t,s,pv,cm,n,pt,rd,wr,ps,pr,st⟩ h):=aj.new _ _ _;clear ok i sm;generalize hg0:s.may=g0 at*;generalize hg1:t.may=g1 at*;generalize hg2:s.zero=g2 at*;clear hg0 hg1 hg2;go_enter Tryz.func173,Tryz.ntmps173;go_wp2_with (first
  |((with_reducible refine(hM _).mono ?_);rintro e w1 ⟨rfl,hb1⟩
    have hY:=hX.trans (hb1.mono hX.size);have C0:=B0.below hb1 B0.lt;have l0:=C0.lt;have mJ:=C0.cell 0;have mM:=C0.cell 1;have mO:=C0.cell 2;have mP:=C0.cell 3;have CU:=C0.cell 11;simp only[List.getElem?_toArray,List.getElem?_cons_succ,getZero]at mJ mM mO mP CU)
  |((with_reducible refine(hT _).mono ?_);rintro e w2 ⟨rfl,hb2⟩
    have hZ:=hY.trans (hb2.mono hY.size);have C1:=C0.below hb2 C0.lt;have l1:=C1.lt;have mQ:=C1.cell 0;have CV:=C1.cell 11;simp only[List.getElem?_toArray,List.getElem?_cons_succ,getZero]at mQ CV))
 all_goals go_ret
 all_goals refine⟨aZ ?_,by first|exact hZ⟩
 all_goals first|rfl|(simp_all;done)|(simp_all;omega)
theorem ahJ (r:Rc) (h:aV) (w:World) (hk:r.k=9) (ok:r.ok) (i:dO w r h) (sm:iR r h):
 Calls Tryz.prog 173 #[.agg (r.vals h)] w fun e w'=>e=.returned (.bool (r.t.may&&r.s.may&& !r.s.zero&&dQ r.ps))/\Below w.heap.size w w':=by
 obtain⟨k,t,s,pv,cm,n,pt,rd,wr,ps,pr,st⟩:=r;change k=9 at hk;subst hk;have z1:=fun w=>fQ s w
 have hM:=fun w=>jF s w
 have hT:=fun w=>nI t w
 have hS:=fun w' (hb:Below w.heap.size w w')=>yR h.c.A h.c.n h.c.c ps w' (i.below hb).ps i.nc
 have hX:Below w.heap.size w (w.alloc (.cells (Rc.vals ⟨9,t,s,pv,cm,n,pt,rd,wr,ps,pr,st⟩ h) 69)):=aJ;have B0:aj (w.alloc (.cells (Rc.vals ⟨9,t,s,pv,cm,n,pt,rd,wr,ps,pr,st⟩ h) 69)) w.heap.size 69 (Rc.vals ⟨9,t,s,pv,cm,n,pt,rd,wr,ps,pr,st⟩ h):=aj.new _ _ _;clear ok i sm;generalize hg0:dQ ps=g0 at*;generalize hg1:s.may=g1 at*;generalize hg2:t.may=g2 at*;generalize hg3:s.zero=g3 at*;clear hg0 hg1 hg2 hg3;go_enter Tryz.func173,Tryz.ntmps173;go_wp2_with (first
  |((with_reducible refine(hM _).mono ?_);rintro e w1 ⟨rfl,hb1⟩
    have hY:=hX.trans (hb1.mono hX.size);have C0:=B0.below hb1 B0.lt;have l0:=C0.lt;have mJ:=C0.cell 0;have mM:=C0.cell 1;have mO:=C0.cell 2;have mP:=C0.cell 3;have BQ:=C0.cell 15;simp only[List.getElem?_toArray,List.getElem?_cons_succ,getZero]at mJ mM mO mP BQ)
  |((with_reducible refine(hT _).mono ?_);rintro e w2 ⟨rfl,hb2⟩
    have hZ:=hY.trans (hb2.mono hY.size);have C1:=C0.below hb2 C0.lt;have l1:=C1.lt;have mQ:=C1.cell 0;have FV:=C1.cell 15;simp only[List.getElem?_toArray,List.getElem?_cons_succ,getZero]at mQ FV)
  |((with_reducible refine(hS _ hZ).mono ?_);rintro e w3 ⟨rfl,hb3⟩
    have hU:=hZ.trans (hb3.mono hZ.size)))
 all_goals go_ret
 all_goals refine⟨aZ ?_,by first|exact hU|exact hZ⟩
 all_goals first|rfl|(simp_all;done)|(simp_all;omega)
theorem ahK (r:Rc) (h:aV) (w:World) (hk:r.k=10) (ok:r.ok) (i:dO w r h) (sm:iR r h):
 Calls Tryz.prog 173 #[.agg (r.vals h)] w fun e w'=>e=.returned (.bool r.t.may)/\Below w.heap.size w w':=by
 obtain⟨k,t,s,pv,cm,n,pt,rd,wr,ps,pr,st⟩:=r;change k=10 at hk;subst hk;have z1:=fun w=>fQ s w
 have hM:=fun w=>jF s w
 have hT:=fun w=>nI t w
 have hX:Below w.heap.size w (w.alloc (.cells (Rc.vals ⟨10,t,s,pv,cm,n,pt,rd,wr,ps,pr,st⟩ h) 69)):=aJ;have B0:aj (w.alloc (.cells (Rc.vals ⟨10,t,s,pv,cm,n,pt,rd,wr,ps,pr,st⟩ h) 69)) w.heap.size 69 (Rc.vals ⟨10,t,s,pv,cm,n,pt,rd,wr,ps,pr,st⟩ h):=aj.new _ _ _;clear ok i sm;generalize hg0:s.may=g0 at*;generalize hg1:t.may=g1 at*;generalize hg2:s.zero=g2 at*;clear hg0 hg1 hg2;go_enter Tryz.func173,Tryz.ntmps173;go_wp2_with (first
  |((with_reducible refine(hM _).mono ?_);rintro e w1 ⟨rfl,hb1⟩
    have hY:=hX.trans (hb1.mono hX.size);have C0:=B0.below hb1 B0.lt;have l0:=C0.lt;have mJ:=C0.cell 0;have mM:=C0.cell 1;have mO:=C0.cell 2;have mP:=C0.cell 3;simp only[List.getElem?_toArray,List.getElem?_cons_succ,getZero]at mJ mM mO mP)
  |((with_reducible refine(hT _).mono ?_);rintro e w2 ⟨rfl,hb2⟩
    have hZ:=hY.trans (hb2.mono hY.size);have C1:=C0.below hb2 C0.lt;have l1:=C1.lt;have mQ:=C1.cell 0;simp only[List.getElem?_toArray,getZero]at mQ))
 all_goals go_ret
 all_goals refine⟨aZ ?_,by first|exact hZ⟩
 all_goals first|rfl|(simp_all;done)|(simp_all;omega)
theorem ahL (r:Rc) (h:aV) (w:World) (hk:r.k=11) (ok:r.ok) (i:dO w r h) (sm:iR r h):
 Calls Tryz.prog 173 #[.agg (r.vals h)] w fun e w'=>e=.returned (.bool (qY r.pv r.s r.t r.wr))/\Below w.heap.size w w':=by
 obtain⟨k,t,s,pv,cm,n,pt,rd,wr,ps,pr,st⟩:=r;change k=11 at hk;subst hk;have z1:=fun w=>fQ s w
 have hM:=fun w=>jF s w
 have hT:=fun w=>nI t w
 have hS:=fun w' (hb:Below w.heap.size w w')=>AQ pv s t h.b.A h.b.n h.b.c wr w' (i.below hb).wr i.nb
 have hX:Below w.heap.size w (w.alloc (.cells (Rc.vals ⟨11,t,s,pv,cm,n,pt,rd,wr,ps,pr,st⟩ h) 69)):=aJ;have B0:aj (w.alloc (.cells (Rc.vals ⟨11,t,s,pv,cm,n,pt,rd,wr,ps,pr,st⟩ h) 69)) w.heap.size 69 (Rc.vals ⟨11,t,s,pv,cm,n,pt,rd,wr,ps,pr,st⟩ h):=aj.new _ _ _;clear ok i sm;generalize hg0:qY pv s t wr=g0 at*;generalize hg1:s.may=g1 at*;generalize hg2:t.may=g2 at*;generalize hg3:s.zero=g3 at*;clear hg0 hg1 hg2 hg3;go_enter Tryz.func173,Tryz.ntmps173;go_wp2_with (first
  |((with_reducible refine(hM _).mono ?_);rintro e w1 ⟨rfl,hb1⟩
    have hY:=hX.trans (hb1.mono hX.size);have C0:=B0.below hb1 B0.lt;have l0:=C0.lt;have mJ:=C0.cell 0;have mM:=C0.cell 1;have mO:=C0.cell 2;have mP:=C0.cell 3;have BR:=C0.cell 4;have BU:=C0.cell 5;have BZ:=C0.cell 6;have ahM:=C0.cell 7;have ahN:=C0.cell 8;have ahO:=C0.cell 9;have OE:=C0.cell 14;simp only[List.getElem?_toArray,List.getElem?_cons_succ,getZero]at mJ mM mO mP BR BU BZ ahM ahN ahO OE)
  |((with_reducible refine(hT _).mono ?_);rintro e w2 ⟨rfl,hb2⟩
    have hZ:=hY.trans (hb2.mono hY.size);have C1:=C0.below hb2 C0.lt;have l1:=C1.lt;have mQ:=C1.cell 0;have OG:=C1.cell 1;have OH:=C1.cell 2;have OI:=C1.cell 3;have FQ:=C1.cell 4;have FT:=C1.cell 5;have FU:=C1.cell 6;have ahP:=C1.cell 7;have ahQ:=C1.cell 8;have ahR:=C1.cell 9;have OJ:=C1.cell 14;simp only[List.getElem?_toArray,List.getElem?_cons_succ,getZero]at mQ OG OH OI FQ FT FU ahP ahQ ahR OJ)
  |((with_reducible refine(hS _ hZ).mono ?_);rintro e w3 ⟨rfl,hb3⟩
    have hU:=hZ.trans (hb3.mono hZ.size)))
 all_goals go_ret
 all_goals refine⟨aZ ?_,by first|exact hU|exact hZ⟩
 all_goals first|rfl|(simp_all;done)|(simp_all;omega)
theorem ahS (r:Rc) (h:aV) (w:World) (hk:r.k=12) (ok:r.ok) (i:dO w r h) (sm:iR r h):
 Calls Tryz.prog 173 #[.agg (r.vals h)] w fun e w'=>e=.returned (.bool (r.s.may&&pF r.pr))/\Below w.heap.size w w':=by
 obtain⟨k,t,s,pv,cm,n,pt,rd,wr,ps,pr,st⟩:=r;change k=12 at hk;subst hk;have z1:=fun w=>fQ s w
 have hM:=fun w=>jF s w
 have hT:=fun w=>nI t w
 have hS:=fun w' (hb:Below w.heap.size w w')=>adi h.d.A h.d.n h.d.c pr w' (i.below hb).pr i.nd
 have hX:Below w.heap.size w (w.alloc (.cells (Rc.vals ⟨12,t,s,pv,cm,n,pt,rd,wr,ps,pr,st⟩ h) 69)):=aJ;have B0:aj (w.alloc (.cells (Rc.vals ⟨12,t,s,pv,cm,n,pt,rd,wr,ps,pr,st⟩ h) 69)) w.heap.size 69 (Rc.vals ⟨12,t,s,pv,cm,n,pt,rd,wr,ps,pr,st⟩ h):=aj.new _ _ _;clear ok i sm;generalize hg0:pF pr=g0 at*;generalize hg1:s.may=g1 at*;generalize hg2:t.may=g2 at*;generalize hg3:s.zero=g3 at*;clear hg0 hg1 hg2 hg3;go_enter Tryz.func173,Tryz.ntmps173;go_wp2_with (first
  |((with_reducible refine(hM _).mono ?_);rintro e w1 ⟨rfl,hb1⟩
    have hY:=hX.trans (hb1.mono hX.size);have C0:=B0.below hb1 B0.lt;have l0:=C0.lt;have mJ:=C0.cell 0;have mM:=C0.cell 1;have mO:=C0.cell 2;have mP:=C0.cell 3;have Np:=C0.cell 16;simp only[List.getElem?_toArray,List.getElem?_cons_succ,getZero]at mJ mM mO mP Np)
  |((with_reducible refine(hT _).mono ?_);rintro e w2 ⟨rfl,hb2⟩
    have hZ:=hY.trans (hb2.mono hY.size);have C1:=C0.below hb2 C0.lt;have l1:=C1.lt;have mQ:=C1.cell 0;have ahT:=C1.cell 16;simp only[List.getElem?_toArray,List.getElem?_cons_succ,getZero]at mQ ahT)
  |((with_reducible refine(hS _ hZ).mono ?_);rintro e w3 ⟨rfl,hb3⟩
    have hU:=hZ.trans (hb3.mono hZ.size)))
 all_goals go_ret
 all_goals refine⟨aZ ?_,by first|exact hU|exact hZ⟩
 all_goals first|rfl|(simp_all;done)|(simp_all;omega)
theorem ahU (r:Rc) (h:aV) (w:World) (hk:gy r.k=true) (ok:r.ok) (i:dO w r h) (sm:iR r h):
 Calls Tryz.prog 173 #[.agg (r.vals h)] w fun e w'=>e=.returned (.bool (jQ r))/\Below w.heap.size w w':=by
 unfold gy at hk;rw[decide_eq_true_eq]at hk;have hc:r.k=1∨r.k=2∨r.k=3∨r.k=4∨r.k=5∨r.k=6∨r.k=7∨r.k=8∨r.k=9∨r.k=10∨r.k=11∨r.k=12:=byOmega;rcases hc with e|e|e|e|e|e|e|e|e|e|e|e
 · have e1:jQ r=(dV r.st):=(by unfold jQ;simp only[e];rfl);rw[e1];exact ag8 r h w e ok i sm
 · have e1:jQ r=(decide (0<=r.n)&&decide (r.n<=281474976710656)):=(by unfold jQ;simp only[e];rfl);rw[e1];exact ahw r h w e ok i sm
 · have e1:jQ r=((dw ⟨r.t,r.s,r.rd,r.wr⟩==0)&&dQ r.ps):=(by unfold jQ;simp only[e];rfl);rw[e1];exact ahx r h w e ok i sm
 · have e1:jQ r=(r.t.may&&r.s.may&&(r.s.zero== !r.cm)):=(by unfold jQ;simp only[e];rfl);rw[e1];exact ahB r h w e ok i sm
 · have e1:jQ r=r.s.may:=(by unfold jQ;simp only[e];rfl);rw[e1];exact ahD r h w e ok i sm
 · have e1:jQ r=(ku r.pt 0&&jS r.pt 4607182418800017408&&decide (1<=r.n)&&decide (r.n<=12)&&r.s.may):=(by unfold jQ;simp only[e];rfl);rw[e1];exact ahE r h w e ok i sm
 · have e1:jQ r=(decide (1<=r.n)&&decide (r.n<=12)):=(by unfold jQ;simp only[e];rfl);rw[e1];exact ahH r h w e ok i sm
 · have e1:jQ r=(decide (1<=r.n)):=(by unfold jQ;simp only[e];rfl);rw[e1];exact ahI r h w e ok i sm
 · have e1:jQ r=(r.t.may&&r.s.may&& !r.s.zero&&dQ r.ps):=(by unfold jQ;simp only[e];rfl);rw[e1];exact ahJ r h w e ok i sm
 · have e1:jQ r=r.t.may:=(by unfold jQ;simp only[e];rfl);rw[e1];exact ahK r h w e ok i sm
 · have e1:jQ r=(qY r.pv r.s r.t r.wr):=(by unfold jQ;simp only[e];rfl);rw[e1];exact ahL r h w e ok i sm
 · have e1:jQ r=(r.s.may&&pF r.pr):=(by unfold jQ;simp only[e];rfl);rw[e1];exact ahS r h w e ok i sm
