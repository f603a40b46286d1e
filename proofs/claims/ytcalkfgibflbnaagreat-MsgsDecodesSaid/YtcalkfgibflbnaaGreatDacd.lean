/- The walk of msgs' dealt. -/
import Derived.Test.YtcalkfgibflbnaaGreatDabg
import Derived.Test.YtcalkfgibflbnaaGreatDacc
namespace Go.Proofs.YtcalkfgibflbnaaGreat
set_option maxHeartbeats 8000000
set_option maxRecDepth 100000
set_option linter.unusedVariables false
open Go.RowKit Fl
attribute [local go_sem] run_store_float
structure MgSm (m:Mg) (h:Hm):Prop where
 a:h.a.n≤1000000
 b:h.b.n≤1000000
 c:h.c.n≤1000000
 d:h.d.n≤1000000
 e:h.e.n≤1000000
 f:h.f.n≤1000000
 hs:SmallH m.st.h
 pn:SmallP m.st.p
theorem mdealt_1 (m:Mg) (h:Hm) (w:World) (hk:m.k=1) (i:MgLo w w.heap.size m h) (sm:MgSm m h):
 Calls Tryz.prog 59 #[.agg (m.vals h)] w fun e w'=>e=.returned (.bool (m.t.may&&rgI m.rg&&(decide (0≤m.ep)&&m.s.may&&riseB m.ks&&decide (0<h.a.n))))∧Below w.heap.size w w':=by
 obtain⟨k,fr,ton,t,rg,ep,cd,s,pv,cm,n,mx,ks,sn,ws,ps,rs,rc,st⟩:=m
 change k=1 at hk
 subst hk
 dsimp only
 have hT:=fun w' (hb:Below w.heap.size w w')=>txnMay_any t w'
 have hR:=fun w' (hb:Below w.heap.size w w')=>mranges_any rg w'
 have hM:=fun w' (hb:Below w.heap.size w w')=>hmayB s w'
 have hK:=fun w' (hb:Below w.heap.size w w')=>mrise_any h.a.A h.a.n h.a.c ks w' (i.up hb).ks (by have:=sm.a;unfold maxLen;omega)
 obtain⟨W0,hW0⟩:∃W0,W0=w.alloc (.cells ((⟨1,fr,ton,t,rg,ep,cd,s,pv,cm,n,mx,ks,sn,ws,ps,rs,rc,st⟩:Mg).vals h) 41):=⟨_,rfl⟩
 have hX:Below w.heap.size w W0:=by rw[hW0];go_grown
 have bM:Blk W0 w.heap.size 41 ((⟨1,fr,ton,t,rg,ep,cd,s,pv,cm,n,mx,ks,sn,ws,ps,rs,rc,st⟩:Mg).vals h):=by rw[hW0];exact Blk.new _ _ _
 have HW:=Lib.hid hW0
 have zr:=fun w=>zero_run s w
 clear i sm hW0
 generalize t.may=g0 at*
 generalize rgI rg=g1 at*
 generalize s.may=g2 at*
 generalize riseB ks=g3 at*
 go_enter Tryz.func59,Tryz.ntmps59
 go_upto_region 1 with fail
 rw[←HW.out]
 clear HW
 have x0:=cl (bM.cell 0)
 have x3:=cl (bM.cell 3)
 have x4:=cl (bM.cell 4)
 have x5:=cl (bM.cell 5)
 have x6:=cl (bM.cell 6)
 have x7:=cl (bM.cell 7)
 have x9:=cl (bM.cell 9)
 have x10:=cl (bM.cell 10)
 have x11:=cl (bM.cell 11)
 have x18:=cl (bM.cell 18)
 have lM:=bM.lt
 go_wp2_with (first
  |((with_reducible refine(hT _ hX).mono ?_);rintro e whT ⟨rfl,hbhT⟩
    have XhT:=hX.trans (hbhT.mono hX.size)
    have BhT:=bM.below hbhT bM.lt
    have x0:=cl (BhT.cell 0)
    have x3:=cl (BhT.cell 3)
    have x4:=cl (BhT.cell 4)
    have x5:=cl (BhT.cell 5)
    have x6:=cl (BhT.cell 6)
    have x7:=cl (BhT.cell 7)
    have x9:=cl (BhT.cell 9)
    have x10:=cl (BhT.cell 10)
    have x11:=cl (BhT.cell 11)
    have x18:=cl (BhT.cell 18)
    have lM:=BhT.lt)
  |((with_reducible refine(hR _ XhT).mono ?_);rintro e whR ⟨rfl,rfl⟩)
  |((with_reducible refine(hM _ XhT).mono ?_);rintro e whM ⟨rfl,hbhM⟩
    have XhM:=XhT.trans (hbhM.mono XhT.size)
    have BhM:=BhT.below hbhM BhT.lt
    have x0:=cl (BhM.cell 0)
    have x3:=cl (BhM.cell 3)
    have x4:=cl (BhM.cell 4)
    have x5:=cl (BhM.cell 5)
    have x6:=cl (BhM.cell 6)
    have x7:=cl (BhM.cell 7)
    have x9:=cl (BhM.cell 9)
    have x10:=cl (BhM.cell 10)
    have x11:=cl (BhM.cell 11)
    have x18:=cl (BhM.cell 18)
    have lM:=BhM.lt)
  |((with_reducible refine(hK _ XhM).mono ?_);rintro e whK ⟨rfl,rfl⟩))
 all_goals go_ret
 all_goals refine⟨ret_bool ?_,by first|exact XhM|exact XhT|exact hX⟩
 all_goals first|rfl|(simp_all;done)|(simp_all;omega)
theorem mdealt_3 (m:Mg) (h:Hm) (w:World) (hk:m.k=3) (i:MgLo w w.heap.size m h) (sm:MgSm m h):
 Calls Tryz.prog 59 #[.agg (m.vals h)] w fun e w'=>e=.returned (.bool (m.t.may&&rgI m.rg&&(decide (0≤m.ep)&&m.s.may&&seenB m.sn&&wrtB m.ws&&partsB m.ps&&hasN m.rg m.ps)))∧Below w.heap.size w w':=by
 obtain⟨k,fr,ton,t,rg,ep,cd,s,pv,cm,n,mx,ks,sn,ws,ps,rs,rc,st⟩:=m
 change k=3 at hk
 subst hk
 dsimp only
 have hT:=fun w' (hb:Below w.heap.size w w')=>txnMay_any t w'
 have hR:=fun w' (hb:Below w.heap.size w w')=>mranges_any rg w'
 have hM:=fun w' (hb:Below w.heap.size w w')=>hmayB s w'
 have hS:=fun w' (hb:Below w.heap.size w w')=>mseen_any h.b.A h.b.n h.b.c sn w' (i.up hb).sn sm.b
 have hD:=fun w' (hb:Below w.heap.size w w')=>mwritten_any h.c.A h.c.n h.c.c ws w' (i.up hb).ws sm.c
 have hP:=fun w' (hb:Below w.heap.size w w')=>parts_any h.d.A h.d.n h.d.c ps w' (i.up hb).ps (by have:=sm.d;unfold maxLen;omega)
 have hH:=fun w' (hb:Below w.heap.size w w')=>mhas_any h.d.A h.d.n h.d.c ps rg w' (i.up hb).ps (by have:=sm.d;unfold maxLen;omega)
 obtain⟨W0,hW0⟩:∃W0,W0=w.alloc (.cells ((⟨3,fr,ton,t,rg,ep,cd,s,pv,cm,n,mx,ks,sn,ws,ps,rs,rc,st⟩:Mg).vals h) 41):=⟨_,rfl⟩
 have hX:Below w.heap.size w W0:=by rw[hW0];go_grown
 have bM:Blk W0 w.heap.size 41 ((⟨3,fr,ton,t,rg,ep,cd,s,pv,cm,n,mx,ks,sn,ws,ps,rs,rc,st⟩:Mg).vals h):=by rw[hW0];exact Blk.new _ _ _
 have HW:=Lib.hid hW0
 have zr:=fun w=>zero_run s w
 clear i sm hW0
 generalize t.may=g0 at*
 generalize rgI rg=g1 at*
 generalize s.may=g2 at*
 generalize seenB sn=g3 at*
 generalize wrtB ws=g4 at*
 generalize partsB ps=g5 at*
 generalize hasN rg ps=g6 at*
 go_enter Tryz.func59,Tryz.ntmps59
 go_upto_region 1 with fail
 rw[←HW.out]
 clear HW
 have x0:=cl (bM.cell 0)
 have x6:=cl (bM.cell 6)
 have x7:=cl (bM.cell 7)
 have x9:=cl (bM.cell 9)
 have x10:=cl (bM.cell 10)
 have x11:=cl (bM.cell 11)
 have x19:=cl (bM.cell 19)
 have x20:=cl (bM.cell 20)
 have x21:=cl (bM.cell 21)
 have lM:=bM.lt
 have x3:=cl (bM.cell 3)
 have x4:=cl (bM.cell 4)
 have x5:=cl (bM.cell 5)
 go_wp2_with (first
  |((with_reducible refine(hT _ hX).mono ?_);rintro e whT ⟨rfl,hbhT⟩
    have XhT:=hX.trans (hbhT.mono hX.size)
    have BhT:=bM.below hbhT bM.lt
    have x0:=cl (BhT.cell 0)
    have x6:=cl (BhT.cell 6)
    have x7:=cl (BhT.cell 7)
    have x9:=cl (BhT.cell 9)
    have x10:=cl (BhT.cell 10)
    have x11:=cl (BhT.cell 11)
    have x19:=cl (BhT.cell 19)
    have x20:=cl (BhT.cell 20)
    have x21:=cl (BhT.cell 21)
    have lM:=BhT.lt)
  |((with_reducible refine(hR _ XhT).mono ?_);rintro e whR ⟨rfl,rfl⟩)
  |((with_reducible refine(hM _ XhT).mono ?_);rintro e whM ⟨rfl,hbhM⟩
    have XhM:=XhT.trans (hbhM.mono XhT.size)
    have BhM:=BhT.below hbhM BhT.lt
    have x0:=cl (BhM.cell 0)
    have x6:=cl (BhM.cell 6)
    have x7:=cl (BhM.cell 7)
    have x9:=cl (BhM.cell 9)
    have x10:=cl (BhM.cell 10)
    have x11:=cl (BhM.cell 11)
    have x19:=cl (BhM.cell 19)
    have x20:=cl (BhM.cell 20)
    have x21:=cl (BhM.cell 21)
    have lM:=BhM.lt)
  |((with_reducible refine(hS _ XhM).mono ?_);rintro e whS ⟨rfl,hbhS⟩
    have XhS:=XhM.trans (hbhS.mono XhM.size)
    have BhS:=BhM.below hbhS BhM.lt
    have x0:=cl (BhS.cell 0)
    have x6:=cl (BhS.cell 6)
    have x7:=cl (BhS.cell 7)
    have x9:=cl (BhS.cell 9)
    have x10:=cl (BhS.cell 10)
    have x11:=cl (BhS.cell 11)
    have x19:=cl (BhS.cell 19)
    have x20:=cl (BhS.cell 20)
    have x21:=cl (BhS.cell 21)
    have lM:=BhS.lt)
  |((with_reducible refine(hD _ XhS).mono ?_);rintro e whD ⟨rfl,hbhD⟩
    have XhD:=XhS.trans (hbhD.mono XhS.size)
    have BhD:=BhS.below hbhD BhS.lt
    have x0:=cl (BhD.cell 0)
    have x6:=cl (BhD.cell 6)
    have x7:=cl (BhD.cell 7)
    have x9:=cl (BhD.cell 9)
    have x10:=cl (BhD.cell 10)
    have x11:=cl (BhD.cell 11)
    have x19:=cl (BhD.cell 19)
    have x20:=cl (BhD.cell 20)
    have x21:=cl (BhD.cell 21)
    have lM:=BhD.lt)
  |((with_reducible refine(hP _ XhD).mono ?_);rintro e whP ⟨rfl,rfl⟩)
  |((with_reducible refine(hH _ XhD).mono ?_);rintro e whH ⟨rfl,rfl⟩))
 all_goals go_ret
 all_goals refine⟨ret_bool ?_,by first|exact XhD|exact XhS|exact XhM|exact XhT|exact hX⟩
 all_goals first|rfl|(simp_all;done)|(simp_all;omega)
theorem mdealt_4 (m:Mg) (h:Hm) (w:World) (hk:m.k=4) (i:MgLo w w.heap.size m h) (sm:MgSm m h):
 Calls Tryz.prog 59 #[.agg (m.vals h)] w fun e w'=>e=.returned (.bool (m.t.may&&rgI m.rg&&(codeB m.cd true m.rs&&m.s.may)))∧Below w.heap.size w w':=by
 obtain⟨k,fr,ton,t,rg,ep,cd,s,pv,cm,n,mx,ks,sn,ws,ps,rs,rc,st⟩:=m
 change k=4 at hk
 subst hk
 dsimp only
 have hT:=fun w' (hb:Below w.heap.size w w')=>txnMay_any t w'
 have hR:=fun w' (hb:Below w.heap.size w w')=>mranges_any rg w'
 have hC:=fun w' (hb:Below w.heap.size w w')=>mcode_any h.e.A h.e.n h.e.c rs cd true w' (i.up hb).rs (by have:=sm.e;unfold maxLen;omega)
 have hM:=fun w' (hb:Below w.heap.size w w')=>hmayB s w'
 obtain⟨W0,hW0⟩:∃W0,W0=w.alloc (.cells ((⟨4,fr,ton,t,rg,ep,cd,s,pv,cm,n,mx,ks,sn,ws,ps,rs,rc,st⟩:Mg).vals h) 41):=⟨_,rfl⟩
 have hX:Below w.heap.size w W0:=by rw[hW0];go_grown
 have bM:Blk W0 w.heap.size 41 ((⟨4,fr,ton,t,rg,ep,cd,s,pv,cm,n,mx,ks,sn,ws,ps,rs,rc,st⟩:Mg).vals h):=by rw[hW0];exact Blk.new _ _ _
 have HW:=Lib.hid hW0
 have zr:=fun w=>zero_run s w
 clear i sm hW0
 generalize t.may=g0 at*
 generalize rgI rg=g1 at*
 generalize codeB cd true rs=g2 at*
 generalize s.may=g3 at*
 go_enter Tryz.func59,Tryz.ntmps59
 go_upto_region 1 with fail
 rw[←HW.out]
 clear HW
 have x0:=cl (bM.cell 0)
 have x6:=cl (bM.cell 6)
 have x8:=cl (bM.cell 8)
 have x9:=cl (bM.cell 9)
 have x10:=cl (bM.cell 10)
 have x11:=cl (bM.cell 11)
 have x22:=cl (bM.cell 22)
 have lM:=bM.lt
 have x3:=cl (bM.cell 3)
 have x4:=cl (bM.cell 4)
 have x5:=cl (bM.cell 5)
 go_wp2_with (first
  |((with_reducible refine(hT _ hX).mono ?_);rintro e whT ⟨rfl,hbhT⟩
    have XhT:=hX.trans (hbhT.mono hX.size)
    have BhT:=bM.below hbhT bM.lt
    have x0:=cl (BhT.cell 0)
    have x6:=cl (BhT.cell 6)
    have x8:=cl (BhT.cell 8)
    have x9:=cl (BhT.cell 9)
    have x10:=cl (BhT.cell 10)
    have x11:=cl (BhT.cell 11)
    have x22:=cl (BhT.cell 22)
    have lM:=BhT.lt)
  |((with_reducible refine(hR _ XhT).mono ?_);rintro e whR ⟨rfl,rfl⟩)
  |((with_reducible refine(hC _ XhT).mono ?_);rintro e whC ⟨rfl,hbhC⟩
    have XhC:=XhT.trans (hbhC.mono XhT.size)
    have BhC:=BhT.below hbhC BhT.lt
    have x0:=cl (BhC.cell 0)
    have x6:=cl (BhC.cell 6)
    have x8:=cl (BhC.cell 8)
    have x9:=cl (BhC.cell 9)
    have x10:=cl (BhC.cell 10)
    have x11:=cl (BhC.cell 11)
    have x22:=cl (BhC.cell 22)
    have lM:=BhC.lt)
  |((with_reducible refine(hM _ XhC).mono ?_);rintro e whM ⟨rfl,hbhM⟩
    have XhM:=XhC.trans (hbhM.mono XhC.size)
    have BhM:=BhC.below hbhM BhC.lt
    have x0:=cl (BhM.cell 0)
    have x6:=cl (BhM.cell 6)
    have x8:=cl (BhM.cell 8)
    have x9:=cl (BhM.cell 9)
    have x10:=cl (BhM.cell 10)
    have x11:=cl (BhM.cell 11)
    have x22:=cl (BhM.cell 22)
    have lM:=BhM.lt))
 all_goals go_ret
 all_goals refine⟨ret_bool ?_,by first|exact XhM|exact XhC|exact XhT|exact hX⟩
 all_goals first|rfl|(simp_all;done)|(simp_all;omega)
theorem mdealt_5 (m:Mg) (h:Hm) (w:World) (hk:m.k=5) (i:MgLo w w.heap.size m h) (sm:MgSm m h):
 Calls Tryz.prog 59 #[.agg (m.vals h)] w fun e w'=>e=.returned (.bool (m.t.may&&rgI m.rg&&(if m.cm=true then m.s.may&& !m.s.zero else m.s.zero)))∧Below w.heap.size w w':=by
 obtain⟨k,fr,ton,t,rg,ep,cd,s,pv,cm,n,mx,ks,sn,ws,ps,rs,rc,st⟩:=m
 change k=5 at hk
 subst hk
 dsimp only
 have hT:=fun w' (hb:Below w.heap.size w w')=>txnMay_any t w'
 have hR:=fun w' (hb:Below w.heap.size w w')=>mranges_any rg w'
 have hM:=fun w' (hb:Below w.heap.size w w')=>hmayB s w'
 obtain⟨W0,hW0⟩:∃W0,W0=w.alloc (.cells ((⟨5,fr,ton,t,rg,ep,cd,s,pv,cm,n,mx,ks,sn,ws,ps,rs,rc,st⟩:Mg).vals h) 41):=⟨_,rfl⟩
 have hX:Below w.heap.size w W0:=by rw[hW0];go_grown
 have bM:Blk W0 w.heap.size 41 ((⟨5,fr,ton,t,rg,ep,cd,s,pv,cm,n,mx,ks,sn,ws,ps,rs,rc,st⟩:Mg).vals h):=by rw[hW0];exact Blk.new _ _ _
 have HW:=Lib.hid hW0
 have zr:=fun w=>zero_run s w
 clear i sm hW0
 generalize t.may=g0 at*
 generalize rgI rg=g1 at*
 generalize s.may=g2 at*
 generalize s.zero=gz at*
 go_enter Tryz.func59,Tryz.ntmps59
 go_upto_region 1 with fail
 rw[←HW.out]
 clear HW
 have x0:=cl (bM.cell 0)
 have x6:=cl (bM.cell 6)
 have x9:=cl (bM.cell 9)
 have x10:=cl (bM.cell 10)
 have x11:=cl (bM.cell 11)
 have x15:=cl (bM.cell 15)
 have lM:=bM.lt
 have x3:=cl (bM.cell 3)
 have x4:=cl (bM.cell 4)
 have x5:=cl (bM.cell 5)
 go_wp2_with (first
  |((with_reducible refine(hT _ hX).mono ?_);rintro e whT ⟨rfl,hbhT⟩
    have XhT:=hX.trans (hbhT.mono hX.size)
    have BhT:=bM.below hbhT bM.lt
    have x0:=cl (BhT.cell 0)
    have x6:=cl (BhT.cell 6)
    have x9:=cl (BhT.cell 9)
    have x10:=cl (BhT.cell 10)
    have x11:=cl (BhT.cell 11)
    have x15:=cl (BhT.cell 15)
    have lM:=BhT.lt)
  |((with_reducible refine(hR _ XhT).mono ?_);rintro e whR ⟨rfl,rfl⟩)
  |((with_reducible refine(hM _ XhT).mono ?_);rintro e whM ⟨rfl,hbhM⟩
    have XhM:=XhT.trans (hbhM.mono XhT.size)
    have BhM:=BhT.below hbhM BhT.lt
    have x0:=cl (BhM.cell 0)
    have x6:=cl (BhM.cell 6)
    have x9:=cl (BhM.cell 9)
    have x10:=cl (BhM.cell 10)
    have x11:=cl (BhM.cell 11)
    have x15:=cl (BhM.cell 15)
    have lM:=BhM.lt))
 all_goals go_ret
 all_goals refine⟨ret_bool ?_,by first|exact XhM|exact XhT|exact hX⟩
 all_goals first|rfl|(simp_all;done)|(simp_all;omega)
theorem mdealt_6 (m:Mg) (h:Hm) (w:World) (hk:m.k=6) (i:MgLo w w.heap.size m h) (sm:MgSm m h):
 Calls Tryz.prog 59 #[.agg (m.vals h)] w fun e w'=>e=.returned (.bool (m.t.may&&rgI m.rg&&true))∧Below w.heap.size w w':=by
 obtain⟨k,fr,ton,t,rg,ep,cd,s,pv,cm,n,mx,ks,sn,ws,ps,rs,rc,st⟩:=m
 change k=6 at hk
 subst hk
 dsimp only
 have hT:=fun w' (hb:Below w.heap.size w w')=>txnMay_any t w'
 have hR:=fun w' (hb:Below w.heap.size w w')=>mranges_any rg w'
 obtain⟨W0,hW0⟩:∃W0,W0=w.alloc (.cells ((⟨6,fr,ton,t,rg,ep,cd,s,pv,cm,n,mx,ks,sn,ws,ps,rs,rc,st⟩:Mg).vals h) 41):=⟨_,rfl⟩
 have hX:Below w.heap.size w W0:=by rw[hW0];go_grown
 have bM:Blk W0 w.heap.size 41 ((⟨6,fr,ton,t,rg,ep,cd,s,pv,cm,n,mx,ks,sn,ws,ps,rs,rc,st⟩:Mg).vals h):=by rw[hW0];exact Blk.new _ _ _
 have HW:=Lib.hid hW0
 have zr:=fun w=>zero_run s w
 clear i sm hW0
 generalize t.may=g0 at*
 generalize rgI rg=g1 at*
 go_enter Tryz.func59,Tryz.ntmps59
 go_upto_region 1 with fail
 rw[←HW.out]
 clear HW
 have x0:=cl (bM.cell 0)
 have x6:=cl (bM.cell 6)
 have lM:=bM.lt
 have x3:=cl (bM.cell 3)
 have x4:=cl (bM.cell 4)
 have x5:=cl (bM.cell 5)
 go_wp2_with (first
  |((with_reducible refine(hT _ hX).mono ?_);rintro e whT ⟨rfl,hbhT⟩
    have XhT:=hX.trans (hbhT.mono hX.size)
    have BhT:=bM.below hbhT bM.lt
    have x0:=cl (BhT.cell 0)
    have x6:=cl (BhT.cell 6)
    have lM:=BhT.lt)
  |((with_reducible refine(hR _ XhT).mono ?_);rintro e whR ⟨rfl,rfl⟩))
 all_goals go_ret
 all_goals refine⟨ret_bool ?_,by first|exact XhT|exact hX⟩
 all_goals first|rfl|(simp_all;done)|(simp_all;omega)
theorem mdealt_7 (m:Mg) (h:Hm) (w:World) (hk:m.k=7) (i:MgLo w w.heap.size m h) (sm:MgSm m h):
 Calls Tryz.prog 59 #[.agg (m.vals h)] w fun e w'=>e=.returned (.bool (m.t.may&&rgI m.rg&&true))∧Below w.heap.size w w':=by
 obtain⟨k,fr,ton,t,rg,ep,cd,s,pv,cm,n,mx,ks,sn,ws,ps,rs,rc,st⟩:=m
 change k=7 at hk
 subst hk
 dsimp only
 have hT:=fun w' (hb:Below w.heap.size w w')=>txnMay_any t w'
 have hR:=fun w' (hb:Below w.heap.size w w')=>mranges_any rg w'
 obtain⟨W0,hW0⟩:∃W0,W0=w.alloc (.cells ((⟨7,fr,ton,t,rg,ep,cd,s,pv,cm,n,mx,ks,sn,ws,ps,rs,rc,st⟩:Mg).vals h) 41):=⟨_,rfl⟩
 have hX:Below w.heap.size w W0:=by rw[hW0];go_grown
 have bM:Blk W0 w.heap.size 41 ((⟨7,fr,ton,t,rg,ep,cd,s,pv,cm,n,mx,ks,sn,ws,ps,rs,rc,st⟩:Mg).vals h):=by rw[hW0];exact Blk.new _ _ _
 have HW:=Lib.hid hW0
 have zr:=fun w=>zero_run s w
 clear i sm hW0
 generalize t.may=g0 at*
 generalize rgI rg=g1 at*
 go_enter Tryz.func59,Tryz.ntmps59
 go_upto_region 1 with fail
 rw[←HW.out]
 clear HW
 have x0:=cl (bM.cell 0)
 have x6:=cl (bM.cell 6)
 have lM:=bM.lt
 have x3:=cl (bM.cell 3)
 have x4:=cl (bM.cell 4)
 have x5:=cl (bM.cell 5)
 go_wp2_with (first
  |((with_reducible refine(hT _ hX).mono ?_);rintro e whT ⟨rfl,hbhT⟩
    have XhT:=hX.trans (hbhT.mono hX.size)
    have BhT:=bM.below hbhT bM.lt
    have x0:=cl (BhT.cell 0)
    have x6:=cl (BhT.cell 6)
    have lM:=BhT.lt)
  |((with_reducible refine(hR _ XhT).mono ?_);rintro e whR ⟨rfl,rfl⟩))
 all_goals go_ret
 all_goals refine⟨ret_bool ?_,by first|exact XhT|exact hX⟩
 all_goals first|rfl|(simp_all;done)|(simp_all;omega)
theorem mdealt_2 (m:Mg) (h:Hm) (w:World) (hk:m.k=2) (i:MgLo w w.heap.size m h) (sm:MgSm m h):
 Calls Tryz.prog 59 #[.agg (m.vals h)] w fun e w'=>e=.returned (.bool (m.t.may&&rgI m.rg&&(codeB m.cd (seenB m.sn&&decide (0<h.b.n)) m.rs&&m.s.may&&(m.cd==0||decide (h.b.n=0)))))∧Below w.heap.size w w':=by
 obtain⟨k,fr,ton,t,rg,ep,cd,s,pv,cm,n,mx,ks,sn,ws,ps,rs,rc,st⟩:=m
 change k=2 at hk
 subst hk
 dsimp only
 have hT:=fun w' (hb:Below w.heap.size w w')=>txnMay_any t w'
 have hR:=fun w' (hb:Below w.heap.size w w')=>mranges_any rg w'
 have hM:=fun w' (hb:Below w.heap.size w w')=>hmayB s w'
 have hS:=fun w' (hb:Below w.heap.size w w')=>mseen_any h.b.A h.b.n h.b.c sn w' (i.up hb).sn sm.b
 have hC:=fun fine w' (hb:Below w.heap.size w w')=>mcode_any h.e.A h.e.n h.e.c rs cd fine w' (i.up hb).rs (by have:=sm.e;unfold maxLen;omega)
 obtain⟨W0,hW0⟩:∃W0,W0=w.alloc (.cells ((⟨2,fr,ton,t,rg,ep,cd,s,pv,cm,n,mx,ks,sn,ws,ps,rs,rc,st⟩:Mg).vals h) 41):=⟨_,rfl⟩
 have hX:Below w.heap.size w W0:=by rw[hW0];go_grown
 have bM:Blk W0 w.heap.size 41 ((⟨2,fr,ton,t,rg,ep,cd,s,pv,cm,n,mx,ks,sn,ws,ps,rs,rc,st⟩:Mg).vals h):=by rw[hW0];exact Blk.new _ _ _
 have HW:=Lib.hid hW0
 clear i sm hW0
 generalize t.may=g0 at*
 generalize rgI rg=g1 at*
 generalize s.may=g2 at*
 generalize seenB sn=g3 at*
 go_enter Tryz.func59,Tryz.ntmps59
 go_upto_region 1 with fail
 rw[←HW.out]
 clear HW
 have x0:=cl (bM.cell 0)
 have x6:=cl (bM.cell 6)
 have x8:=cl (bM.cell 8)
 have x9:=cl (bM.cell 9)
 have x10:=cl (bM.cell 10)
 have x11:=cl (bM.cell 11)
 have x19:=cl (bM.cell 19)
 have x22:=cl (bM.cell 22)
 have lM:=bM.lt
 have x3:=cl (bM.cell 3)
 have x4:=cl (bM.cell 4)
 have x5:=cl (bM.cell 5)
 go_wp2_with fail
 refine(hT _ hX).mono ?_
 rintro e wT ⟨rfl,hbT⟩
 have XT:=hX.trans (hbT.mono hX.size)
 have BT:=bM.below hbT bM.lt
 clear x0 x6 x8 x9 x10 x11 x19 x22 x3 x4 x5 lM bM hX hbT hT
 have x0:=cl (BT.cell 0)
 have x6:=cl (BT.cell 6)
 have x8:=cl (BT.cell 8)
 have x9:=cl (BT.cell 9)
 have x10:=cl (BT.cell 10)
 have x11:=cl (BT.cell 11)
 have x19:=cl (BT.cell 19)
 have x22:=cl (BT.cell 22)
 have lM:=BT.lt
 cases g0
 · go_wp2_with ((with_reducible refine(hR _ XT).mono ?_);rintro e wR ⟨rfl,rfl⟩)
   all_goals go_ret
   all_goals exact⟨ret_bool (by simp),XT⟩
 cases g1
 · go_wp2_with ((with_reducible refine(hR _ XT).mono ?_);rintro e wR ⟨rfl,rfl⟩)
   all_goals go_ret
   all_goals exact⟨ret_bool (by simp),XT⟩
 go_upto_region 7 with ((with_reducible refine(hR _ XT).mono ?_);rintro e wR ⟨rfl,rfl⟩)
 have s0:Below wT.heap.size wT wT.drew:=(Below.refl _ _).drew
 refine wp_region_held_drew (S:=fun w'=>w'.cell? ⟨w.heap.size,8,none⟩=some (.int .i64 cd)∧w'.cell? ⟨w.heap.size,19,none⟩=some (.slice h.b.A h.b.n h.b.c)∧w'.cell? ⟨w.heap.size,22,none⟩=some (.slice h.e.A h.e.n h.e.c)) (by kernel_rfl) ⟨x8,x19,x22⟩ (fun hHeld=>?_)
 refine t0 0 39 ?_
 go_frame
 refine t0 1 40 ?_
 go_frame
 refine t0 2 41 ?_
 go_frame
 refine t0 3 42 ?_
 go_frame
 refine t0 11 50 ?_
 go_frame
 refine t0 12 51 ?_
 go_frame
 refine wpAnyH_ready (rs:=[4]) (by kernel_rfl) (by simp) (AllReadyH.cons (o:=⟨some 43,_,_,_,_,_⟩) rfl (fun K hK=>?_) AllReadyH.nil)
 go_simp
 (with_reducible refine(hS wT.drew (XT.trans (s0.mono XT.size))).mono ?_)
 rintro e wS ⟨rfl,hbS⟩
 have sS:=s0.trans (hbS.mono s0.size)
 have XS:=XT.trans (sS.mono XT.size)
 clear hbS
 refine hK.out _ _ ⟨(sS.cell (by exact lM)).trans x8,(sS.cell (by exact lM)).trans x19,(sS.cell (by exact lM)).trans x22⟩ (fun hHeld=>?_)
 clear hK K
 try go_frame
 cases g3
 · refine t0 5 44 ?_
   go_frame
   refine tn 6 45 ?_
   go_frame
   refine tn 7 46 ?_
   go_frame
   refine tn 8 47 ?_
   go_frame
   refine tn 9 48 ?_
   go_frame
   refine t0 10 49 ?_
   go_frame
   refine wpAnyH_ready (rs:=[13]) (by kernel_rfl) (by simp) (AllReadyH.cons (o:=⟨some 52,_,_,_,_,_⟩) rfl (fun K hK=>?_) AllReadyH.nil)
   go_simp
   (with_reducible refine(hC _ wS XS).mono ?_)
   rintro e wC ⟨rfl,hbC⟩
   have sC:=sS.trans (hbC.mono sS.size)
   have XC:=XS.trans (hbC.mono XS.size)
   refine hK.out _ _ ⟨(sC.cell (by exact lM)).trans x8,(sC.cell (by exact lM)).trans x19,(sC.cell (by exact lM)).trans x22⟩ (fun hHeld=>?_)
   clear hK K
   try go_frame
   refine t0 14 3 ?_
   go_frame
   refine td ?_
   have BC:=BT.below sC BT.lt
   clear x0 x6 x8 x9 x10 x11 x19 x22 hHeld s0
   have x0:=cl (BC.cell 0)
   have x6:=cl (BC.cell 6)
   have x8:=cl (BC.cell 8)
   have x9:=cl (BC.cell 9)
   have x10:=cl (BC.cell 10)
   have x11:=cl (BC.cell 11)
   have x19:=cl (BC.cell 19)
   have x22:=cl (BC.cell 22)
   have lM:=BC.lt
   generalize hq:codeB cd false rs=g4 at*
   have HQ:=Lib.hid hq
   have HZ:=Lib.hid (show ((h.b.n:Int)==0)=decide (h.b.n=0) by rw[Bool.eq_iff_iff,beq_iff_eq,decide_eq_true_eq];omega)
   clear hq
   go_wp2_with ((with_reducible refine(hM _ XC).mono ?_);rintro e wM ⟨rfl,hbM⟩
                have XM:=XC.trans (hbM.mono XC.size)
                have BM:=BC.below hbM BC.lt
                have y8:=cl (BM.cell 8)
                have y19:=cl (BM.cell 19)
                have lM:=BM.lt)
   all_goals go_ret
   all_goals refine⟨ret_bool ?_,by first|exact XM|exact XC⟩
   all_goals try rw[Bool.false_and]
   all_goals rw[HQ.out]
   all_goals try rw[HZ.out]
   all_goals first|rfl|(simp_all;done)|(simp_all;omega)
 · refine t0 5 44 ?_
   go_frame
   refine t0 6 45 ?_
   go_frame
   refine t0 7 46 ?_
   go_frame
   refine t0 8 47 ?_
   go_frame
   refine t0 9 48 ?_
   go_frame
   refine t0 10 49 ?_
   go_frame
   refine wpAnyH_ready (rs:=[13]) (by kernel_rfl) (by simp) (AllReadyH.cons (o:=⟨some 52,_,_,_,_,_⟩) rfl (fun K hK=>?_) AllReadyH.nil)
   go_simp
   (with_reducible refine(hC _ wS XS).mono ?_)
   rintro e wC ⟨rfl,hbC⟩
   have sC:=sS.trans (hbC.mono sS.size)
   have XC:=XS.trans (hbC.mono XS.size)
   refine hK.out _ _ ⟨(sC.cell (by exact lM)).trans x8,(sC.cell (by exact lM)).trans x19,(sC.cell (by exact lM)).trans x22⟩ (fun hHeld=>?_)
   clear hK K
   try go_frame
   refine t0 14 3 ?_
   go_frame
   refine td ?_
   have BC:=BT.below sC BT.lt
   clear x0 x6 x8 x9 x10 x11 x19 x22 hHeld s0
   have x0:=cl (BC.cell 0)
   have x6:=cl (BC.cell 6)
   have x8:=cl (BC.cell 8)
   have x9:=cl (BC.cell 9)
   have x10:=cl (BC.cell 10)
   have x11:=cl (BC.cell 11)
   have x19:=cl (BC.cell 19)
   have x22:=cl (BC.cell 22)
   have lM:=BC.lt
   generalize hq:codeB cd (decide (0<h.b.n)) rs=g4 at*
   have HQ:=Lib.hid hq
   have HZ:=Lib.hid (show ((h.b.n:Int)==0)=decide (h.b.n=0) by rw[Bool.eq_iff_iff,beq_iff_eq,decide_eq_true_eq];omega)
   clear hq
   go_wp2_with ((with_reducible refine(hM _ XC).mono ?_);rintro e wM ⟨rfl,hbM⟩
                have XM:=XC.trans (hbM.mono XC.size)
                have BM:=BC.below hbM BC.lt
                have y8:=cl (BM.cell 8)
                have y19:=cl (BM.cell 19)
                have lM:=BM.lt)
   all_goals go_ret
   all_goals refine⟨ret_bool ?_,by first|exact XM|exact XC⟩
   all_goals try rw[Bool.true_and (decide (0<h.b.n))]
   all_goals rw[HQ.out]
   all_goals try rw[HZ.out]
   all_goals first|rfl|(simp_all;done)|(simp_all;omega)
end Go.Proofs.YtcalkfgibflbnaaGreat
