/- The walk of msgs' dealt. -/
import Derived.Test.YtcalkfgibflbnaaGreatBabg
import Derived.Test.YtcalkfgibflbnaaGreatBacd
namespace Go.Proofs.YtcalkfgibflbnaaGreat
set_option maxHeartbeats 8000000
set_option maxRecDepth 100000
set_option linter.unusedVariables false
open Go.RowKit Fl
attribute [local go_sem] dJ
structure iV (m:Mg) (h:Hm):Prop where
 a:h.a.n<=5000000
 b:h.b.n<=5000000
 c:h.c.n<=5000000
 d:h.d.n<=5000000
 e:h.e.n<=5000000
 f:h.f.n<=5000000
 hs:tY m.st.h
 pn:uK m.st.p
theorem afd (m:Mg) (h:Hm) (w:World) (hk:m.k=1) (i:bH w w.heap.size m h) (sm:iV m h):
 Calls Tryz.prog 59 #[.agg (m.vals h)] w fun e w'=>e=.returned (.bool (m.t.may&&bY m.rg&&(decide (0<=m.ep)&&m.s.may&&cu m.ks&&decide (0<h.a.n))))/\Below w.heap.size w w':=by
 obtain⟨k,fr,aG,t,rg,ep,cd,s,pv,cm,n,mx,ks,sn,ws,ps,rs,rc,st⟩:=m;change k=1 at hk;subst hk;dsimp only;have hT:=fun w' (hb:Below w.heap.size w w')=>wI t w'
 have hR:=fun w' (hb:Below w.heap.size w w')=>vS rg w'
 have hM:=fun w' (hb:Below w.heap.size w w')=>vV s w'
 have hK:=fun w' (hb:Below w.heap.size w w')=>Lr h.a.A h.a.n h.a.c ks w' (i.up hb).ks (by have:=sm.a;unfold maxLen;omega)
 obtain⟨W0,hW0⟩:∃W0,W0=w.alloc (.cells ((⟨1,fr,aG,t,rg,ep,cd,s,pv,cm,n,mx,ks,sn,ws,ps,rs,rc,st⟩:Mg).vals h) 41):=⟨_,rfl⟩;have hX:Below w.heap.size w W0:=by rw[hW0];go_grown
 have bM:aj W0 w.heap.size 41 ((⟨1,fr,aG,t,rg,ep,cd,s,pv,cm,n,mx,ks,sn,ws,ps,rs,rc,st⟩:Mg).vals h):=by rw[hW0];exact aj.new _ _ _
 have HW:=au hW0;have zr:=fun w=>fQ s w
 clear i sm hW0;generalize t.may=g0 at*;generalize bY rg=g1 at*;generalize s.may=g2 at*;generalize cu ks=g3 at*;go_enter Tryz.func59,Tryz.ntmps59;go_upto_region 1 with fail;rw[<-HW.out];clear HW;have x0:=cl (bM.cell 0);have x3:=cl (bM.cell 3);have x4:=cl (bM.cell 4);have x5:=cl (bM.cell 5);have x6:=cl (bM.cell 6);have x7:=cl (bM.cell 7);have x9:=cl (bM.cell 9);have x10:=cl (bM.cell 10);have x11:=cl (bM.cell 11);have x18:=cl (bM.cell 18);have lM:=bM.lt;go_wp2_with (first
  |((with_reducible refine(hT _ hX).mono ?_);rintro e Gx ⟨rfl,qQ⟩
    have jM:=hX.trans (qQ.mono hX.size);have dN:=bM.below qQ bM.lt;have x0:=cl (dN.cell 0);have x3:=cl (dN.cell 3);have x4:=cl (dN.cell 4);have x5:=cl (dN.cell 5);have x6:=cl (dN.cell 6);have x7:=cl (dN.cell 7);have x9:=cl (dN.cell 9);have x10:=cl (dN.cell 10);have x11:=cl (dN.cell 11);have x18:=cl (dN.cell 18);have lM:=dN.lt)
  |((with_reducible refine(hR _ jM).mono ?_);rintro e zH ⟨rfl,rfl⟩)
  |((with_reducible refine(hM _ jM).mono ?_);rintro e Gy ⟨rfl,qR⟩
    have tN:=jM.trans (qR.mono jM.size);have dI:=dN.below qR dN.lt;have x0:=cl (dI.cell 0);have x3:=cl (dI.cell 3);have x4:=cl (dI.cell 4);have x5:=cl (dI.cell 5);have x6:=cl (dI.cell 6);have x7:=cl (dI.cell 7);have x9:=cl (dI.cell 9);have x10:=cl (dI.cell 10);have x11:=cl (dI.cell 11);have x18:=cl (dI.cell 18);have lM:=dI.lt)
  |((with_reducible refine(hK _ tN).mono ?_);rintro e whK ⟨rfl,rfl⟩))
 all_goals go_ret
 all_goals refine⟨aZ ?_,by first|exact tN|exact jM|exact hX⟩
 all_goals first|rfl|(simp_all;done)|(simp_all;omega)
theorem afe (m:Mg) (h:Hm) (w:World) (hk:m.k=3) (i:bH w w.heap.size m h) (sm:iV m h):
 Calls Tryz.prog 59 #[.agg (m.vals h)] w fun e w'=>e=.returned (.bool (m.t.may&&bY m.rg&&(decide (0<=m.ep)&&m.s.may&&iJ m.sn&&um m.ws&&dQ m.ps&&rG m.rg m.ps)))/\Below w.heap.size w w':=by
 obtain⟨k,fr,aG,t,rg,ep,cd,s,pv,cm,n,mx,ks,sn,ws,ps,rs,rc,st⟩:=m;change k=3 at hk;subst hk;dsimp only;have hT:=fun w' (hb:Below w.heap.size w w')=>wI t w'
 have hR:=fun w' (hb:Below w.heap.size w w')=>vS rg w'
 have hM:=fun w' (hb:Below w.heap.size w w')=>vV s w'
 have hS:=fun w' (hb:Below w.heap.size w w')=>TF h.b.A h.b.n h.b.c sn w' (i.up hb).sn sm.b
 have hD:=fun w' (hb:Below w.heap.size w w')=>acP h.c.A h.c.n h.c.c ws w' (i.up hb).ws sm.c
 have hP:=fun w' (hb:Below w.heap.size w w')=>Lp h.d.A h.d.n h.d.c ps w' (i.up hb).ps (by have:=sm.d;unfold maxLen;omega)
 have hH:=fun w' (hb:Below w.heap.size w w')=>ZK h.d.A h.d.n h.d.c ps rg w' (i.up hb).ps (by have:=sm.d;unfold maxLen;omega)
 obtain⟨W0,hW0⟩:∃W0,W0=w.alloc (.cells ((⟨3,fr,aG,t,rg,ep,cd,s,pv,cm,n,mx,ks,sn,ws,ps,rs,rc,st⟩:Mg).vals h) 41):=⟨_,rfl⟩;have hX:Below w.heap.size w W0:=by rw[hW0];go_grown
 have bM:aj W0 w.heap.size 41 ((⟨3,fr,aG,t,rg,ep,cd,s,pv,cm,n,mx,ks,sn,ws,ps,rs,rc,st⟩:Mg).vals h):=by rw[hW0];exact aj.new _ _ _
 have HW:=au hW0;have zr:=fun w=>fQ s w
 clear i sm hW0;generalize t.may=g0 at*;generalize bY rg=g1 at*;generalize s.may=g2 at*;generalize iJ sn=g3 at*;generalize um ws=g4 at*;generalize dQ ps=g5 at*;generalize rG rg ps=g6 at*;go_enter Tryz.func59,Tryz.ntmps59;go_upto_region 1 with fail;rw[<-HW.out];clear HW;have x0:=cl (bM.cell 0);have x6:=cl (bM.cell 6);have x7:=cl (bM.cell 7);have x9:=cl (bM.cell 9);have x10:=cl (bM.cell 10);have x11:=cl (bM.cell 11);have x19:=cl (bM.cell 19);have yw:=cl (bM.cell 20);have x21:=cl (bM.cell 21);have lM:=bM.lt;have x3:=cl (bM.cell 3);have x4:=cl (bM.cell 4);have x5:=cl (bM.cell 5);go_wp2_with (first
  |((with_reducible refine(hT _ hX).mono ?_);rintro e Gx ⟨rfl,qQ⟩
    have jM:=hX.trans (qQ.mono hX.size);have dN:=bM.below qQ bM.lt;have x0:=cl (dN.cell 0);have x6:=cl (dN.cell 6);have x7:=cl (dN.cell 7);have x9:=cl (dN.cell 9);have x10:=cl (dN.cell 10);have x11:=cl (dN.cell 11);have x19:=cl (dN.cell 19);have yw:=cl (dN.cell 20);have x21:=cl (dN.cell 21);have lM:=dN.lt)
  |((with_reducible refine(hR _ jM).mono ?_);rintro e zH ⟨rfl,rfl⟩)
  |((with_reducible refine(hM _ jM).mono ?_);rintro e Gy ⟨rfl,qR⟩
    have tN:=jM.trans (qR.mono jM.size);have dI:=dN.below qR dN.lt;have x0:=cl (dI.cell 0);have x6:=cl (dI.cell 6);have x7:=cl (dI.cell 7);have x9:=cl (dI.cell 9);have x10:=cl (dI.cell 10);have x11:=cl (dI.cell 11);have x19:=cl (dI.cell 19);have yw:=cl (dI.cell 20);have x21:=cl (dI.cell 21);have lM:=dI.lt)
  |((with_reducible refine(hS _ tN).mono ?_);rintro e whS ⟨rfl,Gz⟩
    have Es:=tN.trans (Gz.mono tN.size);have jZ:=dI.below Gz dI.lt;have x0:=cl (jZ.cell 0);have x6:=cl (jZ.cell 6);have x7:=cl (jZ.cell 7);have x9:=cl (jZ.cell 9);have x10:=cl (jZ.cell 10);have x11:=cl (jZ.cell 11);have x19:=cl (jZ.cell 19);have yw:=cl (jZ.cell 20);have x21:=cl (jZ.cell 21);have lM:=jZ.lt)
  |((with_reducible refine(hD _ Es).mono ?_);rintro e whD ⟨rfl,U2⟩
    have Oh:=Es.trans (U2.mono Es.size);have yx:=jZ.below U2 jZ.lt;have x0:=cl (yx.cell 0);have x6:=cl (yx.cell 6);have x7:=cl (yx.cell 7);have x9:=cl (yx.cell 9);have x10:=cl (yx.cell 10);have x11:=cl (yx.cell 11);have x19:=cl (yx.cell 19);have yw:=cl (yx.cell 20);have x21:=cl (yx.cell 21);have lM:=yx.lt)
  |((with_reducible refine(hP _ Oh).mono ?_);rintro e whP ⟨rfl,rfl⟩)
  |((with_reducible refine(hH _ Oh).mono ?_);rintro e whH ⟨rfl,rfl⟩))
 all_goals go_ret
 all_goals refine⟨aZ ?_,by first|exact Oh|exact Es|exact tN|exact jM|exact hX⟩
 all_goals first|rfl|(simp_all;done)|(simp_all;omega)
theorem aff (m:Mg) (h:Hm) (w:World) (hk:m.k=4) (i:bH w w.heap.size m h) (sm:iV m h):
 Calls Tryz.prog 59 #[.agg (m.vals h)] w fun e w'=>e=.returned (.bool (m.t.may&&bY m.rg&&(lV m.cd true m.rs&&m.s.may)))/\Below w.heap.size w w':=by
 obtain⟨k,fr,aG,t,rg,ep,cd,s,pv,cm,n,mx,ks,sn,ws,ps,rs,rc,st⟩:=m;change k=4 at hk;subst hk;dsimp only;have hT:=fun w' (hb:Below w.heap.size w w')=>wI t w'
 have hR:=fun w' (hb:Below w.heap.size w w')=>vS rg w'
 have hC:=fun w' (hb:Below w.heap.size w w')=>QH h.e.A h.e.n h.e.c rs cd true w' (i.up hb).rs (by have:=sm.e;unfold maxLen;omega)
 have hM:=fun w' (hb:Below w.heap.size w w')=>vV s w'
 obtain⟨W0,hW0⟩:∃W0,W0=w.alloc (.cells ((⟨4,fr,aG,t,rg,ep,cd,s,pv,cm,n,mx,ks,sn,ws,ps,rs,rc,st⟩:Mg).vals h) 41):=⟨_,rfl⟩;have hX:Below w.heap.size w W0:=by rw[hW0];go_grown
 have bM:aj W0 w.heap.size 41 ((⟨4,fr,aG,t,rg,ep,cd,s,pv,cm,n,mx,ks,sn,ws,ps,rs,rc,st⟩:Mg).vals h):=by rw[hW0];exact aj.new _ _ _
 have HW:=au hW0;have zr:=fun w=>fQ s w
 clear i sm hW0;generalize t.may=g0 at*;generalize bY rg=g1 at*;generalize lV cd true rs=g2 at*;generalize s.may=g3 at*;go_enter Tryz.func59,Tryz.ntmps59;go_upto_region 1 with fail;rw[<-HW.out];clear HW;have x0:=cl (bM.cell 0);have x6:=cl (bM.cell 6);have x8:=cl (bM.cell 8);have x9:=cl (bM.cell 9);have x10:=cl (bM.cell 10);have x11:=cl (bM.cell 11);have oM:=cl (bM.cell 22);have lM:=bM.lt;have x3:=cl (bM.cell 3);have x4:=cl (bM.cell 4);have x5:=cl (bM.cell 5);go_wp2_with (first
  |((with_reducible refine(hT _ hX).mono ?_);rintro e Gx ⟨rfl,qQ⟩
    have jM:=hX.trans (qQ.mono hX.size);have dN:=bM.below qQ bM.lt;have x0:=cl (dN.cell 0);have x6:=cl (dN.cell 6);have x8:=cl (dN.cell 8);have x9:=cl (dN.cell 9);have x10:=cl (dN.cell 10);have x11:=cl (dN.cell 11);have oM:=cl (dN.cell 22);have lM:=dN.lt)
  |((with_reducible refine(hR _ jM).mono ?_);rintro e zH ⟨rfl,rfl⟩)
  |((with_reducible refine(hC _ jM).mono ?_);rintro e whC ⟨rfl,U3⟩
    have Jw:=jM.trans (U3.mono jM.size);have yA:=dN.below U3 dN.lt;have x0:=cl (yA.cell 0);have x6:=cl (yA.cell 6);have x8:=cl (yA.cell 8);have x9:=cl (yA.cell 9);have x10:=cl (yA.cell 10);have x11:=cl (yA.cell 11);have oM:=cl (yA.cell 22);have lM:=yA.lt)
  |((with_reducible refine(hM _ Jw).mono ?_);rintro e Gy ⟨rfl,qR⟩
    have tN:=Jw.trans (qR.mono Jw.size);have dI:=yA.below qR yA.lt;have x0:=cl (dI.cell 0);have x6:=cl (dI.cell 6);have x8:=cl (dI.cell 8);have x9:=cl (dI.cell 9);have x10:=cl (dI.cell 10);have x11:=cl (dI.cell 11);have oM:=cl (dI.cell 22);have lM:=dI.lt))
 all_goals go_ret
 all_goals refine⟨aZ ?_,by first|exact tN|exact Jw|exact jM|exact hX⟩
 all_goals first|rfl|(simp_all;done)|(simp_all;omega)
theorem afg (m:Mg) (h:Hm) (w:World) (hk:m.k=5) (i:bH w w.heap.size m h) (sm:iV m h):
 Calls Tryz.prog 59 #[.agg (m.vals h)] w fun e w'=>e=.returned (.bool (m.t.may&&bY m.rg&&(if m.cm=true then m.s.may&& !m.s.zero else m.s.zero)))/\Below w.heap.size w w':=by
 obtain⟨k,fr,aG,t,rg,ep,cd,s,pv,cm,n,mx,ks,sn,ws,ps,rs,rc,st⟩:=m;change k=5 at hk;subst hk;dsimp only;have hT:=fun w' (hb:Below w.heap.size w w')=>wI t w'
 have hR:=fun w' (hb:Below w.heap.size w w')=>vS rg w'
 have hM:=fun w' (hb:Below w.heap.size w w')=>vV s w'
 obtain⟨W0,hW0⟩:∃W0,W0=w.alloc (.cells ((⟨5,fr,aG,t,rg,ep,cd,s,pv,cm,n,mx,ks,sn,ws,ps,rs,rc,st⟩:Mg).vals h) 41):=⟨_,rfl⟩;have hX:Below w.heap.size w W0:=by rw[hW0];go_grown
 have bM:aj W0 w.heap.size 41 ((⟨5,fr,aG,t,rg,ep,cd,s,pv,cm,n,mx,ks,sn,ws,ps,rs,rc,st⟩:Mg).vals h):=by rw[hW0];exact aj.new _ _ _
 have HW:=au hW0;have zr:=fun w=>fQ s w
 clear i sm hW0;generalize t.may=g0 at*;generalize bY rg=g1 at*;generalize s.may=g2 at*;generalize s.zero=gz at*;go_enter Tryz.func59,Tryz.ntmps59;go_upto_region 1 with fail;rw[<-HW.out];clear HW;have x0:=cl (bM.cell 0);have x6:=cl (bM.cell 6);have x9:=cl (bM.cell 9);have x10:=cl (bM.cell 10);have x11:=cl (bM.cell 11);have x15:=cl (bM.cell 15);have lM:=bM.lt;have x3:=cl (bM.cell 3);have x4:=cl (bM.cell 4);have x5:=cl (bM.cell 5);go_wp2_with (first
  |((with_reducible refine(hT _ hX).mono ?_);rintro e Gx ⟨rfl,qQ⟩
    have jM:=hX.trans (qQ.mono hX.size);have dN:=bM.below qQ bM.lt;have x0:=cl (dN.cell 0);have x6:=cl (dN.cell 6);have x9:=cl (dN.cell 9);have x10:=cl (dN.cell 10);have x11:=cl (dN.cell 11);have x15:=cl (dN.cell 15);have lM:=dN.lt)
  |((with_reducible refine(hR _ jM).mono ?_);rintro e zH ⟨rfl,rfl⟩)
  |((with_reducible refine(hM _ jM).mono ?_);rintro e Gy ⟨rfl,qR⟩
    have tN:=jM.trans (qR.mono jM.size);have dI:=dN.below qR dN.lt;have x0:=cl (dI.cell 0);have x6:=cl (dI.cell 6);have x9:=cl (dI.cell 9);have x10:=cl (dI.cell 10);have x11:=cl (dI.cell 11);have x15:=cl (dI.cell 15);have lM:=dI.lt))
 all_goals go_ret
 all_goals refine⟨aZ ?_,by first|exact tN|exact jM|exact hX⟩
 all_goals first|rfl|(simp_all;done)|(simp_all;omega)
theorem afh (m:Mg) (h:Hm) (w:World) (hk:m.k=6) (i:bH w w.heap.size m h) (sm:iV m h):
 Calls Tryz.prog 59 #[.agg (m.vals h)] w fun e w'=>e=.returned (.bool (m.t.may&&bY m.rg&&true))/\Below w.heap.size w w':=by
 obtain⟨k,fr,aG,t,rg,ep,cd,s,pv,cm,n,mx,ks,sn,ws,ps,rs,rc,st⟩:=m;change k=6 at hk;subst hk;dsimp only;have hT:=fun w' (hb:Below w.heap.size w w')=>wI t w'
 have hR:=fun w' (hb:Below w.heap.size w w')=>vS rg w'
 obtain⟨W0,hW0⟩:∃W0,W0=w.alloc (.cells ((⟨6,fr,aG,t,rg,ep,cd,s,pv,cm,n,mx,ks,sn,ws,ps,rs,rc,st⟩:Mg).vals h) 41):=⟨_,rfl⟩;have hX:Below w.heap.size w W0:=by rw[hW0];go_grown
 have bM:aj W0 w.heap.size 41 ((⟨6,fr,aG,t,rg,ep,cd,s,pv,cm,n,mx,ks,sn,ws,ps,rs,rc,st⟩:Mg).vals h):=by rw[hW0];exact aj.new _ _ _
 have HW:=au hW0;have zr:=fun w=>fQ s w
 clear i sm hW0;generalize t.may=g0 at*;generalize bY rg=g1 at*;go_enter Tryz.func59,Tryz.ntmps59;go_upto_region 1 with fail;rw[<-HW.out];clear HW;have x0:=cl (bM.cell 0);have x6:=cl (bM.cell 6);have lM:=bM.lt;have x3:=cl (bM.cell 3);have x4:=cl (bM.cell 4);have x5:=cl (bM.cell 5);go_wp2_with (first
  |((with_reducible refine(hT _ hX).mono ?_);rintro e Gx ⟨rfl,qQ⟩
    have jM:=hX.trans (qQ.mono hX.size);have dN:=bM.below qQ bM.lt;have x0:=cl (dN.cell 0);have x6:=cl (dN.cell 6);have lM:=dN.lt)
  |((with_reducible refine(hR _ jM).mono ?_);rintro e zH ⟨rfl,rfl⟩))
 all_goals go_ret
 all_goals refine⟨aZ ?_,by first|exact jM|exact hX⟩
 all_goals first|rfl|(simp_all;done)|(simp_all;omega)
theorem afi (m:Mg) (h:Hm) (w:World) (hk:m.k=7) (i:bH w w.heap.size m h) (sm:iV m h):
 Calls Tryz.prog 59 #[.agg (m.vals h)] w fun e w'=>e=.returned (.bool (m.t.may&&bY m.rg&&true))/\Below w.heap.size w w':=by
 obtain⟨k,fr,aG,t,rg,ep,cd,s,pv,cm,n,mx,ks,sn,ws,ps,rs,rc,st⟩:=m;change k=7 at hk;subst hk;dsimp only;have hT:=fun w' (hb:Below w.heap.size w w')=>wI t w'
 have hR:=fun w' (hb:Below w.heap.size w w')=>vS rg w'
 obtain⟨W0,hW0⟩:∃W0,W0=w.alloc (.cells ((⟨7,fr,aG,t,rg,ep,cd,s,pv,cm,n,mx,ks,sn,ws,ps,rs,rc,st⟩:Mg).vals h) 41):=⟨_,rfl⟩;have hX:Below w.heap.size w W0:=by rw[hW0];go_grown
 have bM:aj W0 w.heap.size 41 ((⟨7,fr,aG,t,rg,ep,cd,s,pv,cm,n,mx,ks,sn,ws,ps,rs,rc,st⟩:Mg).vals h):=by rw[hW0];exact aj.new _ _ _
 have HW:=au hW0;have zr:=fun w=>fQ s w
 clear i sm hW0;generalize t.may=g0 at*;generalize bY rg=g1 at*;go_enter Tryz.func59,Tryz.ntmps59;go_upto_region 1 with fail;rw[<-HW.out];clear HW;have x0:=cl (bM.cell 0);have x6:=cl (bM.cell 6);have lM:=bM.lt;have x3:=cl (bM.cell 3);have x4:=cl (bM.cell 4);have x5:=cl (bM.cell 5);go_wp2_with (first
  |((with_reducible refine(hT _ hX).mono ?_);rintro e Gx ⟨rfl,qQ⟩
    have jM:=hX.trans (qQ.mono hX.size);have dN:=bM.below qQ bM.lt;have x0:=cl (dN.cell 0);have x6:=cl (dN.cell 6);have lM:=dN.lt)
  |((with_reducible refine(hR _ jM).mono ?_);rintro e zH ⟨rfl,rfl⟩))
 all_goals go_ret
 all_goals refine⟨aZ ?_,by first|exact jM|exact hX⟩
 all_goals first|rfl|(simp_all;done)|(simp_all;omega)
theorem afj (m:Mg) (h:Hm) (w:World) (hk:m.k=2) (i:bH w w.heap.size m h) (sm:iV m h):
 Calls Tryz.prog 59 #[.agg (m.vals h)] w fun e w'=>e=.returned (.bool (m.t.may&&bY m.rg&&(lV m.cd (iJ m.sn&&decide (0<h.b.n)) m.rs&&m.s.may&&(m.cd==0||decide (h.b.n=0)))))/\Below w.heap.size w w':=by
 obtain⟨k,fr,aG,t,rg,ep,cd,s,pv,cm,n,mx,ks,sn,ws,ps,rs,rc,st⟩:=m;change k=2 at hk;subst hk;dsimp only;have hT:=fun w' (hb:Below w.heap.size w w')=>wI t w'
 have hR:=fun w' (hb:Below w.heap.size w w')=>vS rg w'
 have hM:=fun w' (hb:Below w.heap.size w w')=>vV s w'
 have hS:=fun w' (hb:Below w.heap.size w w')=>TF h.b.A h.b.n h.b.c sn w' (i.up hb).sn sm.b
 have hC:=fun fine w' (hb:Below w.heap.size w w')=>QH h.e.A h.e.n h.e.c rs cd fine w' (i.up hb).rs (by have:=sm.e;unfold maxLen;omega)
 obtain⟨W0,hW0⟩:∃W0,W0=w.alloc (.cells ((⟨2,fr,aG,t,rg,ep,cd,s,pv,cm,n,mx,ks,sn,ws,ps,rs,rc,st⟩:Mg).vals h) 41):=⟨_,rfl⟩;have hX:Below w.heap.size w W0:=by rw[hW0];go_grown
 have bM:aj W0 w.heap.size 41 ((⟨2,fr,aG,t,rg,ep,cd,s,pv,cm,n,mx,ks,sn,ws,ps,rs,rc,st⟩:Mg).vals h):=by rw[hW0];exact aj.new _ _ _
 have HW:=au hW0;clear i sm hW0;generalize t.may=g0 at*;generalize bY rg=g1 at*;generalize s.may=g2 at*;generalize iJ sn=g3 at*;go_enter Tryz.func59,Tryz.ntmps59;go_upto_region 1 with fail;rw[<-HW.out];clear HW;have x0:=cl (bM.cell 0);have x6:=cl (bM.cell 6);have x8:=cl (bM.cell 8);have x9:=cl (bM.cell 9);have x10:=cl (bM.cell 10);have x11:=cl (bM.cell 11);have x19:=cl (bM.cell 19);have oM:=cl (bM.cell 22);have lM:=bM.lt;have x3:=cl (bM.cell 3);have x4:=cl (bM.cell 4);have x5:=cl (bM.cell 5);go_wp2_with fail;refine(hT _ hX).mono ?_;rintro e wT ⟨rfl,Oi⟩;have XT:=hX.trans (Oi.mono hX.size);have BT:=bM.below Oi bM.lt;clear x0 x6 x8 x9 x10 x11 x19 oM x3 x4 x5 lM bM hX Oi hT;have x0:=cl (BT.cell 0);have x6:=cl (BT.cell 6);have x8:=cl (BT.cell 8);have x9:=cl (BT.cell 9);have x10:=cl (BT.cell 10);have x11:=cl (BT.cell 11);have x19:=cl (BT.cell 19);have oM:=cl (BT.cell 22);have lM:=BT.lt;cases g0
 · go_wp2_with ((with_reducible refine(hR _ XT).mono ?_);rintro e wR ⟨rfl,rfl⟩);all_goals go_ret
   all_goals exact⟨aZ aA,XT⟩
 cases g1
 · go_wp2_with ((with_reducible refine(hR _ XT).mono ?_);rintro e wR ⟨rfl,rfl⟩);all_goals go_ret
   all_goals exact⟨aZ aA,XT⟩
 go_upto_region 7 with ((with_reducible refine(hR _ XT).mono ?_);rintro e wR ⟨rfl,rfl⟩);have s0:Below wT.heap.size wT wT.drew:=(aC).drew;refine wp_region_held_drew (S:=fun w'=>w'.cell? ⟨w.heap.size,8,none⟩=some (.int .i64 cd)/\w'.cell? ⟨w.heap.size,19,none⟩=some (.slice h.b.A h.b.n h.b.c)/\w'.cell? ⟨w.heap.size,22,none⟩=some (.slice h.e.A h.e.n h.e.c)) ah ⟨x8,x19,oM⟩ (fun hHeld=>?_);refine t0 0 39 ?_;go_frame;refine t0 1 40 ?_;go_frame;refine t0 2 41 ?_;go_frame;refine t0 3 42 ?_;go_frame;refine t0 11 50 ?_;go_frame;refine t0 12 51 ?_;go_frame;refine wpAnyH_ready (rs:=[4]) ah aA (AllReadyH.cons (o:=⟨some 43,_,_,_,_,_⟩) rfl (fun K hK=>?_) AllReadyH.nil);go_simp
 (with_reducible refine(hS wT.drew (XT.trans (s0.mono XT.size))).mono ?_)
 rintro e wS ⟨rfl,hbS⟩;have sS:=s0.trans (hbS.mono s0.size);have XS:=XT.trans (sS.mono XT.size);clear hbS;refine hK.out _ _ ⟨(sS.cell (by exact lM)).trans x8,(sS.cell (by exact lM)).trans x19,(sS.cell (by exact lM)).trans oM⟩ (fun hHeld=>?_);clear hK K
 try go_frame
 cases g3
 · refine t0 5 44 ?_;go_frame;refine tn 6 45 ?_;go_frame;refine tn 7 46 ?_;go_frame;refine tn 8 47 ?_;go_frame;refine tn 9 48 ?_;go_frame;refine t0 10 49 ?_;go_frame;refine wpAnyH_ready (rs:=[13]) ah aA (AllReadyH.cons (o:=⟨some 52,_,_,_,_,_⟩) rfl (fun K hK=>?_) AllReadyH.nil);go_simp
   (with_reducible refine(hC _ wS XS).mono ?_)
   rintro e wC ⟨rfl,hbC⟩;have sC:=sS.trans (hbC.mono sS.size);have XC:=XS.trans (hbC.mono XS.size);refine hK.out _ _ ⟨(sC.cell (by exact lM)).trans x8,(sC.cell (by exact lM)).trans x19,(sC.cell (by exact lM)).trans oM⟩ (fun hHeld=>?_);clear hK K
   try go_frame
   refine t0 14 3 ?_;go_frame;refine td ?_;have BC:=BT.below sC BT.lt;clear x0 x6 x8 x9 x10 x11 x19 oM hHeld s0;have x0:=cl (BC.cell 0);have x6:=cl (BC.cell 6);have x8:=cl (BC.cell 8);have x9:=cl (BC.cell 9);have x10:=cl (BC.cell 10);have x11:=cl (BC.cell 11);have x19:=cl (BC.cell 19);have oM:=cl (BC.cell 22);have lM:=BC.lt;generalize hq:lV cd false rs=g4 at*;have HQ:=au hq;have HZ:=au (show ((h.b.n:Int)==0)=decide (h.b.n=0) by rw[Bool.eq_iff_iff,beq_iff_eq,decide_eq_true_eq];omega);clear hq
   go_wp2_with ((with_reducible refine(hM _ XC).mono ?_);rintro e wM ⟨rfl,GH⟩
                have XM:=XC.trans (GH.mono XC.size);have BM:=BC.below GH BC.lt;have y8:=cl (BM.cell 8);have BN:=cl (BM.cell 19);have lM:=BM.lt)
   all_goals go_ret
   all_goals refine⟨aZ ?_,by first|exact XM|exact XC⟩
   all_goals try rw[Bool.false_and]
   all_goals rw[HQ.out]
   all_goals try rw[HZ.out]
   all_goals first|rfl|(simp_all;done)|(simp_all;omega)
 · refine t0 5 44 ?_;go_frame;refine t0 6 45 ?_;go_frame;refine t0 7 46 ?_;go_frame;refine t0 8 47 ?_;go_frame;refine t0 9 48 ?_;go_frame;refine t0 10 49 ?_;go_frame;refine wpAnyH_ready (rs:=[13]) ah aA (AllReadyH.cons (o:=⟨some 52,_,_,_,_,_⟩) rfl (fun K hK=>?_) AllReadyH.nil);go_simp
   (with_reducible refine(hC _ wS XS).mono ?_)
   rintro e wC ⟨rfl,hbC⟩;have sC:=sS.trans (hbC.mono sS.size);have XC:=XS.trans (hbC.mono XS.size);refine hK.out _ _ ⟨(sC.cell (by exact lM)).trans x8,(sC.cell (by exact lM)).trans x19,(sC.cell (by exact lM)).trans oM⟩ (fun hHeld=>?_);clear hK K
   try go_frame
   refine t0 14 3 ?_;go_frame;refine td ?_;have BC:=BT.below sC BT.lt;clear x0 x6 x8 x9 x10 x11 x19 oM hHeld s0;have x0:=cl (BC.cell 0);have x6:=cl (BC.cell 6);have x8:=cl (BC.cell 8);have x9:=cl (BC.cell 9);have x10:=cl (BC.cell 10);have x11:=cl (BC.cell 11);have x19:=cl (BC.cell 19);have oM:=cl (BC.cell 22);have lM:=BC.lt;generalize hq:lV cd (decide (0<h.b.n)) rs=g4 at*;have HQ:=au hq;have HZ:=au (show ((h.b.n:Int)==0)=decide (h.b.n=0) by rw[Bool.eq_iff_iff,beq_iff_eq,decide_eq_true_eq];omega);clear hq
   go_wp2_with ((with_reducible refine(hM _ XC).mono ?_);rintro e wM ⟨rfl,GH⟩
                have XM:=XC.trans (GH.mono XC.size);have BM:=BC.below GH BC.lt;have y8:=cl (BM.cell 8);have BN:=cl (BM.cell 19);have lM:=BM.lt)
   all_goals go_ret
   all_goals refine⟨aZ ?_,by first|exact XM|exact XC⟩
   all_goals try rw[Bool.true_and (decide (0<h.b.n))]
   all_goals rw[HQ.out]
   all_goals try rw[HZ.out]
   all_goals first|rfl|(simp_all;done)|(simp_all;omega)
