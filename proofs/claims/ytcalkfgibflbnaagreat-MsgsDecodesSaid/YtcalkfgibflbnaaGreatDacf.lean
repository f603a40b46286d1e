/- The walk of msgs' fields. -/
import Derived.Test.YtcalkfgibflbnaaGreatDace
import Derived.Test.YtcalkfgibflbnaaGreatDadj
namespace Go.Proofs.YtcalkfgibflbnaaGreat
set_option maxHeartbeats 8000000
set_option maxRecDepth 100000
set_option linter.unusedVariables false
open Go.RowKit Fl
attribute [local go_sem] run_store_float
theorem mfields_8 (m:Mg) (h:Hm) (w:World) (hk:m.k=8) (ok:m.ok) (i:MgLo w w.heap.size m h) (sm:MgSm m h):
 Calls Tryz.prog 30 #[.agg (m.vals h)] w fun e w'=>e=.returned (.bool (rgI m.rg&&decide (1≤m.n)&&decide (0≤m.mx)&&decide (m.mx≤8)&&m.s.may))∧Below w.heap.size w w':=by
 obtain⟨k,fr,ton,t,rg,ep,cd,s,pv,cm,n,mx,ks,sn,ws,ps,rs,rc,st⟩:=m
 change k=8 at hk
 subst hk
 try dsimp only
 have hR:=fun w' (hb:Below w.heap.size w w')=>mranges_any rg w'
 have hM:=fun w' (hb:Below w.heap.size w w')=>hmayB s w'
 obtain⟨W0,hW0⟩:∃W0,W0=w.alloc (.cells ((⟨8,fr,ton,t,rg,ep,cd,s,pv,cm,n,mx,ks,sn,ws,ps,rs,rc,st⟩:Mg).vals h) 41):=⟨_,rfl⟩
 have hX:Below w.heap.size w W0:=by rw[hW0];go_grown
 have bM:Blk W0 w.heap.size 41 ((⟨8,fr,ton,t,rg,ep,cd,s,pv,cm,n,mx,ks,sn,ws,ps,rs,rc,st⟩:Mg).vals h):=by rw[hW0];exact Blk.new _ _ _
 have HW:=Lib.hid hW0
 clear ok i sm hW0
 generalize rgI rg=g0 at*
 generalize s.may=g1 at*
 go_enter Tryz.func30,Tryz.ntmps30
 go_upto_region 1 with fail
 rw[←HW.out]
 clear HW
 have x0:=cl (bM.cell 0)
 have x6:=cl (bM.cell 6)
 have x9:=cl (bM.cell 9)
 have x10:=cl (bM.cell 10)
 have x11:=cl (bM.cell 11)
 have x16:=cl (bM.cell 16)
 have x17:=cl (bM.cell 17)
 have lM:=bM.lt
 go_wp2_with (first
  |((with_reducible refine(hR _ hX).mono ?_);rintro e whR ⟨rfl,rfl⟩)
  |((with_reducible refine(hM _ hX).mono ?_);rintro e whM ⟨rfl,hbhM⟩
    have XhM:=hX.trans (hbhM.mono hX.size)
    have BhM:=bM.below hbhM bM.lt
    have x0:=cl (BhM.cell 0)
    have x6:=cl (BhM.cell 6)
    have x9:=cl (BhM.cell 9)
    have x10:=cl (BhM.cell 10)
    have x11:=cl (BhM.cell 11)
    have x16:=cl (BhM.cell 16)
    have x17:=cl (BhM.cell 17)
    have lM:=BhM.lt))
 all_goals go_ret
 all_goals refine⟨ret_bool ?_,by first|exact XhM|exact hX⟩
 all_goals first|rfl|(simp_all;done)|(simp_all;omega)
theorem mfields_10 (m:Mg) (h:Hm) (w:World) (hk:m.k=10) (ok:m.ok) (i:MgLo w w.heap.size m h) (sm:MgSm m h):
 Calls Tryz.prog 30 #[.agg (m.vals h)] w fun e w'=>e=.returned (.bool (rgI m.rg&&mayS m.st&&(m.st.r.id==m.rg)))∧Below w.heap.size w w':=by
 obtain⟨k,fr,ton,t,rg,ep,cd,s,pv,cm,n,mx,ks,sn,ws,ps,rs,rc,st⟩:=m
 change k=10 at hk
 subst hk
 try dsimp only
 have hR:=fun w' (hb:Below w.heap.size w w')=>mranges_any rg w'
 have hS:=fun w' (hb:Below w.heap.size w w')=>stateMay_any st h.g.A h.i.A h.g.n h.i.n h.g.c h.i.c w' ok.sr (i.up hb).hs (i.up hb).pn sm.hs sm.pn
 obtain⟨W0,hW0⟩:∃W0,W0=w.alloc (.cells ((⟨10,fr,ton,t,rg,ep,cd,s,pv,cm,n,mx,ks,sn,ws,ps,rs,rc,st⟩:Mg).vals h) 41):=⟨_,rfl⟩
 have hX:Below w.heap.size w W0:=by rw[hW0];go_grown
 have bM:Blk W0 w.heap.size 41 ((⟨10,fr,ton,t,rg,ep,cd,s,pv,cm,n,mx,ks,sn,ws,ps,rs,rc,st⟩:Mg).vals h):=by rw[hW0];exact Blk.new _ _ _
 have HW:=Lib.hid hW0
 clear ok i sm hW0
 generalize rgI rg=g0 at*
 generalize mayS st=g1 at*
 go_enter Tryz.func30,Tryz.ntmps30
 go_upto_region 1 with fail
 rw[←HW.out]
 clear HW
 have x0:=cl (bM.cell 0)
 have x6:=cl (bM.cell 6)
 have x24:=cl (bM.cell 24)
 have x25:=cl (bM.cell 25)
 have x26:=cl (bM.cell 26)
 have x27:=cl (bM.cell 27)
 have x28:=cl (bM.cell 28)
 have x29:=cl (bM.cell 29)
 have x30:=cl (bM.cell 30)
 have x31:=cl (bM.cell 31)
 have x32:=cl (bM.cell 32)
 have x33:=cl (bM.cell 33)
 have x34:=cl (bM.cell 34)
 have x35:=cl (bM.cell 35)
 have lM:=bM.lt
 go_wp2_with (first
  |((with_reducible refine(hR _ hX).mono ?_);rintro e whR ⟨rfl,rfl⟩)
  |((with_reducible refine(hS _ hX).mono ?_);rintro e whS ⟨rfl,hbhS⟩
    have XhS:=hX.trans (hbhS.mono hX.size)
    have BhS:=bM.below hbhS bM.lt
    have x0:=cl (BhS.cell 0)
    have x6:=cl (BhS.cell 6)
    have x24:=cl (BhS.cell 24)
    have x25:=cl (BhS.cell 25)
    have x26:=cl (BhS.cell 26)
    have x27:=cl (BhS.cell 27)
    have x28:=cl (BhS.cell 28)
    have x29:=cl (BhS.cell 29)
    have x30:=cl (BhS.cell 30)
    have x31:=cl (BhS.cell 31)
    have x32:=cl (BhS.cell 32)
    have x33:=cl (BhS.cell 33)
    have x34:=cl (BhS.cell 34)
    have x35:=cl (BhS.cell 35)
    have lM:=BhS.lt))
 all_goals go_ret
 all_goals refine⟨ret_bool ?_,by first|exact XhS|exact hX⟩
 all_goals first|rfl|(simp_all;done)|(simp_all;omega)
theorem mfields_11 (m:Mg) (h:Hm) (w:World) (hk:m.k=11) (ok:m.ok) (i:MgLo w w.heap.size m h) (sm:MgSm m h):
 Calls Tryz.prog 30 #[.agg (m.vals h)] w fun e w'=>e=.returned (.bool (rgI m.rg))∧Below w.heap.size w w':=by
 obtain⟨k,fr,ton,t,rg,ep,cd,s,pv,cm,n,mx,ks,sn,ws,ps,rs,rc,st⟩:=m
 change k=11 at hk
 subst hk
 try dsimp only
 have hR:=fun w' (hb:Below w.heap.size w w')=>mranges_any rg w'
 obtain⟨W0,hW0⟩:∃W0,W0=w.alloc (.cells ((⟨11,fr,ton,t,rg,ep,cd,s,pv,cm,n,mx,ks,sn,ws,ps,rs,rc,st⟩:Mg).vals h) 41):=⟨_,rfl⟩
 have hX:Below w.heap.size w W0:=by rw[hW0];go_grown
 have bM:Blk W0 w.heap.size 41 ((⟨11,fr,ton,t,rg,ep,cd,s,pv,cm,n,mx,ks,sn,ws,ps,rs,rc,st⟩:Mg).vals h):=by rw[hW0];exact Blk.new _ _ _
 have HW:=Lib.hid hW0
 clear ok i sm hW0
 generalize rgI rg=g0 at*
 go_enter Tryz.func30,Tryz.ntmps30
 go_upto_region 1 with fail
 rw[←HW.out]
 clear HW
 have x0:=cl (bM.cell 0)
 have x6:=cl (bM.cell 6)
 have lM:=bM.lt
 go_wp2_with (first
  |((with_reducible refine(hR _ hX).mono ?_);rintro e whR ⟨rfl,rfl⟩))
 all_goals go_ret
 all_goals refine⟨ret_bool ?_,by first|exact hX⟩
 all_goals first|rfl|(simp_all;done)|(simp_all;omega)
theorem mfields_12 (m:Mg) (h:Hm) (w:World) (hk:m.k=12) (ok:m.ok) (i:MgLo w w.heap.size m h) (sm:MgSm m h):
 Calls Tryz.prog 30 #[.agg (m.vals h)] w fun e w'=>e=.returned (.bool (applyB m.pv m.s m.t m.ws))∧Below w.heap.size w w':=by
 obtain⟨k,fr,ton,t,rg,ep,cd,s,pv,cm,n,mx,ks,sn,ws,ps,rs,rc,st⟩:=m
 change k=12 at hk
 subst hk
 try dsimp only
 have hA:=fun w' (hb:Below w.heap.size w w')=>apply_any pv s t h.c.A h.c.n h.c.c ws w' (i.up hb).ws sm.c
 obtain⟨W0,hW0⟩:∃W0,W0=w.alloc (.cells ((⟨12,fr,ton,t,rg,ep,cd,s,pv,cm,n,mx,ks,sn,ws,ps,rs,rc,st⟩:Mg).vals h) 41):=⟨_,rfl⟩
 have hX:Below w.heap.size w W0:=by rw[hW0];go_grown
 have bM:Blk W0 w.heap.size 41 ((⟨12,fr,ton,t,rg,ep,cd,s,pv,cm,n,mx,ks,sn,ws,ps,rs,rc,st⟩:Mg).vals h):=by rw[hW0];exact Blk.new _ _ _
 have HW:=Lib.hid hW0
 clear ok i sm hW0
 generalize applyB pv s t ws=g0 at*
 go_enter Tryz.func30,Tryz.ntmps30
 go_upto_region 1 with fail
 rw[←HW.out]
 clear HW
 have x0:=cl (bM.cell 0)
 have x3:=cl (bM.cell 3)
 have x4:=cl (bM.cell 4)
 have x5:=cl (bM.cell 5)
 have x9:=cl (bM.cell 9)
 have x10:=cl (bM.cell 10)
 have x11:=cl (bM.cell 11)
 have x12:=cl (bM.cell 12)
 have x13:=cl (bM.cell 13)
 have x14:=cl (bM.cell 14)
 have x20:=cl (bM.cell 20)
 have lM:=bM.lt
 go_wp2_with (first
  |((with_reducible refine(hA _ hX).mono ?_);rintro e whA ⟨rfl,hbhA⟩
    have XhA:=hX.trans (hbhA.mono hX.size)
    have BhA:=bM.below hbhA bM.lt
    have x0:=cl (BhA.cell 0)
    have x3:=cl (BhA.cell 3)
    have x4:=cl (BhA.cell 4)
    have x5:=cl (BhA.cell 5)
    have x9:=cl (BhA.cell 9)
    have x10:=cl (BhA.cell 10)
    have x11:=cl (BhA.cell 11)
    have x12:=cl (BhA.cell 12)
    have x13:=cl (BhA.cell 13)
    have x14:=cl (BhA.cell 14)
    have x20:=cl (BhA.cell 20)
    have lM:=BhA.lt))
 all_goals go_ret
 all_goals refine⟨ret_bool ?_,by first|exact XhA|exact hX⟩
 all_goals first|rfl|(simp_all;done)|(simp_all;omega)
theorem mfields_13 (m:Mg) (h:Hm) (w:World) (hk:m.k=13) (ok:m.ok) (i:MgLo w w.heap.size m h) (sm:MgSm m h):
 Calls Tryz.prog 30 #[.agg (m.vals h)] w fun e w'=>e=.returned (.bool true)∧Below w.heap.size w w':=by
 obtain⟨k,fr,ton,t,rg,ep,cd,s,pv,cm,n,mx,ks,sn,ws,ps,rs,rc,st⟩:=m
 change k=13 at hk
 subst hk
 try dsimp only
 obtain⟨W0,hW0⟩:∃W0,W0=w.alloc (.cells ((⟨13,fr,ton,t,rg,ep,cd,s,pv,cm,n,mx,ks,sn,ws,ps,rs,rc,st⟩:Mg).vals h) 41):=⟨_,rfl⟩
 have hX:Below w.heap.size w W0:=by rw[hW0];go_grown
 have bM:Blk W0 w.heap.size 41 ((⟨13,fr,ton,t,rg,ep,cd,s,pv,cm,n,mx,ks,sn,ws,ps,rs,rc,st⟩:Mg).vals h):=by rw[hW0];exact Blk.new _ _ _
 have HW:=Lib.hid hW0
 clear ok i sm hW0
 go_enter Tryz.func30,Tryz.ntmps30
 go_upto_region 1 with fail
 rw[←HW.out]
 clear HW
 have x0:=cl (bM.cell 0)
 have lM:=bM.lt
 go_wp2
 all_goals go_ret
 all_goals refine⟨ret_bool ?_,by first|exact hX⟩
 all_goals first|rfl|(simp_all;done)|(simp_all;omega)
theorem mfields_14 (m:Mg) (h:Hm) (w:World) (hk:m.k=14) (ok:m.ok) (i:MgLo w w.heap.size m h) (sm:MgSm m h):
 Calls Tryz.prog 30 #[.agg (m.vals h)] w fun e w'=>e=.returned (.bool m.s.may)∧Below w.heap.size w w':=by
 obtain⟨k,fr,ton,t,rg,ep,cd,s,pv,cm,n,mx,ks,sn,ws,ps,rs,rc,st⟩:=m
 change k=14 at hk
 subst hk
 try dsimp only
 have hM:=fun w' (hb:Below w.heap.size w w')=>hmayB s w'
 obtain⟨W0,hW0⟩:∃W0,W0=w.alloc (.cells ((⟨14,fr,ton,t,rg,ep,cd,s,pv,cm,n,mx,ks,sn,ws,ps,rs,rc,st⟩:Mg).vals h) 41):=⟨_,rfl⟩
 have hX:Below w.heap.size w W0:=by rw[hW0];go_grown
 have bM:Blk W0 w.heap.size 41 ((⟨14,fr,ton,t,rg,ep,cd,s,pv,cm,n,mx,ks,sn,ws,ps,rs,rc,st⟩:Mg).vals h):=by rw[hW0];exact Blk.new _ _ _
 have HW:=Lib.hid hW0
 clear ok i sm hW0
 generalize s.may=g0 at*
 go_enter Tryz.func30,Tryz.ntmps30
 go_upto_region 1 with fail
 rw[←HW.out]
 clear HW
 have x0:=cl (bM.cell 0)
 have x9:=cl (bM.cell 9)
 have x10:=cl (bM.cell 10)
 have x11:=cl (bM.cell 11)
 have lM:=bM.lt
 go_wp2_with (first
  |((with_reducible refine(hM _ hX).mono ?_);rintro e whM ⟨rfl,hbhM⟩
    have XhM:=hX.trans (hbhM.mono hX.size)
    have BhM:=bM.below hbhM bM.lt
    have x0:=cl (BhM.cell 0)
    have x9:=cl (BhM.cell 9)
    have x10:=cl (BhM.cell 10)
    have x11:=cl (BhM.cell 11)
    have lM:=BhM.lt))
 all_goals go_ret
 all_goals refine⟨ret_bool ?_,by first|exact XhM|exact hX⟩
 all_goals first|rfl|(simp_all;done)|(simp_all;omega)
def dealtX (m:Mg):Bool:=
 if m.k=1 then (decide (0≤m.ep)&&m.s.may&&riseB m.ks&&decide (0<m.ks.length)) else
 if m.k=2 then (codeB m.cd (seenB m.sn&&decide (0<m.sn.length)) m.rs&&m.s.may&&(m.cd==0||decide (m.sn.length=0))) else
 if m.k=3 then (decide (0≤m.ep)&&m.s.may&&seenB m.sn&&wrtB m.ws&&partsB m.ps&&hasN m.rg m.ps) else
 if m.k=4 then (codeB m.cd true m.rs&&m.s.may) else
 if m.k=5 then (if m.cm=true then m.s.may&& !m.s.zero else m.s.zero) else
 true
theorem mdealt_any (m:Mg) (h:Hm) (w:World) (hk:1≤m.k∧m.k≤7) (i:MgLo w w.heap.size m h) (sm:MgSm m h):
 Calls Tryz.prog 59 #[.agg (m.vals h)] w fun e w'=>e=.returned (.bool (m.t.may&&rgI m.rg&&dealtX m))∧Below w.heap.size w w':=by
 have hc:m.k=1∨m.k=2∨m.k=3∨m.k=4∨m.k=5∨m.k=6∨m.k=7:=by omega
 rcases hc with e|e|e|e|e|e|e
 · have e1:dealtX m=(decide (0≤m.ep)&&m.s.may&&riseB m.ks&&decide (0<m.ks.length)):=by unfold dealtX;simp[e]
   rw[e1,i.ks.1];exact mdealt_1 m h w e i sm
 · have e1:dealtX m=(codeB m.cd (seenB m.sn&&decide (0<m.sn.length)) m.rs&&m.s.may&&(m.cd==0||decide (m.sn.length=0))):=by unfold dealtX;simp[e]
   rw[e1,i.sn.1];exact mdealt_2 m h w e i sm
 · have e1:dealtX m=(decide (0≤m.ep)&&m.s.may&&seenB m.sn&&wrtB m.ws&&partsB m.ps&&hasN m.rg m.ps):=by unfold dealtX;simp[e]
   rw[e1];exact mdealt_3 m h w e i sm
 · have e1:dealtX m=(codeB m.cd true m.rs&&m.s.may):=by unfold dealtX;simp[e]
   rw[e1];exact mdealt_4 m h w e i sm
 · have e1:dealtX m=(if m.cm=true then m.s.may&& !m.s.zero else m.s.zero):=by unfold dealtX;simp[e]
   rw[e1];exact mdealt_5 m h w e i sm
 · have e1:dealtX m=true:=by unfold dealtX;simp[e]
   rw[e1];exact mdealt_6 m h w e i sm
 · have e1:dealtX m=true:=by unfold dealtX;simp[e]
   rw[e1];exact mdealt_7 m h w e i sm
set_option maxRecDepth 100000 in
set_option maxHeartbeats 16000000 in
theorem mfields_low (m:Mg) (h:Hm) (w:World) (hk:1≤m.k∧m.k≤7) (i:MgLo w w.heap.size m h) (sm:MgSm m h):
 Calls Tryz.prog 30 #[.agg (m.vals h)] w fun e w'=>e=.returned (.bool (m.t.may&&rgI m.rg&&dealtX m))∧Below w.heap.size w w':=by
 have hD:=fun w' (hb:Below w.heap.size w w')=>mdealt_any m h w' hk (i.up hb) sm
 have hc:m.k=1∨m.k=2∨m.k=3∨m.k=4∨m.k=5∨m.k=6∨m.k=7:=by omega
 clear hk i sm
 generalize (m.t.may&&rgI m.rg&&dealtX m)=g0 at*
 obtain⟨k,fr,ton,t,rg,ep,cd,s,pv,cm,n,mx,ks,sn,ws,ps,rs,rc,st⟩:=m
 obtain⟨W0,hW0⟩:∃W0,W0=w.alloc (.cells ((⟨k,fr,ton,t,rg,ep,cd,s,pv,cm,n,mx,ks,sn,ws,ps,rs,rc,st⟩:Mg).vals h) 41):=⟨_,rfl⟩
 have hX:Below w.heap.size w W0:=by rw[hW0];go_grown
 have bM:Blk W0 w.heap.size 41 ((⟨k,fr,ton,t,rg,ep,cd,s,pv,cm,n,mx,ks,sn,ws,ps,rs,rc,st⟩:Mg).vals h):=by rw[hW0];exact Blk.new _ _ _
 have HW:=Lib.hid hW0
 have x0:=cl (bM.cell 0)
 have lM:=bM.lt
 clear hW0
 change k=1∨k=2∨k=3∨k=4∨k=5∨k=6∨k=7 at hc
 rcases hc with rfl|rfl|rfl|rfl|rfl|rfl|rfl
 all_goals
  go_enter Tryz.func30,Tryz.ntmps30
  go_upto_region 1 with fail
  rw[←HW.out]
  clear HW
  go_wp2_with (first
   |(guard_target=~ wpList _ _ _ _ _ _;refine wpList_load_row rfl 41 _ rfl w.heap.size (by kernel_rfl) _ _ (0,0) _ bM rfl rfl (by kernel_rfl) ?_)
   |((with_reducible refine(hD _ hX).mono ?_);rintro e w1 ⟨rfl,hb1⟩))
  go_ret
  exact⟨rfl,hX.trans (hb1.mono hX.size)⟩
theorem mfields_9 (m:Mg) (h:Hm) (w:World) (hk:m.k=9) (ok:m.ok) (i:MgLo w w.heap.size m h) (sm:MgSm m h) (pl:∀r∈m.rc,RcPl r):
 Calls Tryz.prog 30 #[.agg (m.vals h)] w fun e w'=>e=.returned (.bool (rgI m.rg&&decide (1≤m.n)&&batchB m.rc))∧Below w.heap.size w w':=by
 obtain⟨k,fr,ton,t,rg,ep,cd,s,pv,cm,n,mx,ks,sn,ws,ps,rs,rc,st⟩:=m
 change k=9 at hk
 subst hk
 try dsimp only
 have hR:=fun w' (hb:Below w.heap.size w w')=>mranges_any rg w'
 have hB:=fun w' (hb:Below w.heap.size w w')=>mbatch_any h.f.A h.f.n h.f.c rc w' (i.up hb).rc sm.f pl
 obtain⟨W0,hW0⟩:∃W0,W0=w.alloc (.cells ((⟨9,fr,ton,t,rg,ep,cd,s,pv,cm,n,mx,ks,sn,ws,ps,rs,rc,st⟩:Mg).vals h) 41):=⟨_,rfl⟩
 have hX:Below w.heap.size w W0:=by rw[hW0];go_grown
 have bM:Blk W0 w.heap.size 41 ((⟨9,fr,ton,t,rg,ep,cd,s,pv,cm,n,mx,ks,sn,ws,ps,rs,rc,st⟩:Mg).vals h):=by rw[hW0];exact Blk.new _ _ _
 have HW:=Lib.hid hW0
 clear ok i sm pl hW0
 generalize rgI rg=g0 at*
 generalize batchB rc=g1 at*
 go_enter Tryz.func30,Tryz.ntmps30
 go_upto_region 1 with fail
 rw[←HW.out]
 clear HW
 have x0:=cl (bM.cell 0)
 have x6:=cl (bM.cell 6)
 have x16:=cl (bM.cell 16)
 have x23:=cl (bM.cell 23)
 have lM:=bM.lt
 go_wp2_with (first
  |((with_reducible refine(hR _ hX).mono ?_);rintro e whR ⟨rfl,rfl⟩)
  |((with_reducible refine(hB _ hX).mono ?_);rintro e whB ⟨rfl,hbhB⟩
    have XhB:=hX.trans (hbhB.mono hX.size)
    have BhB:=bM.below hbhB bM.lt
    have x0:=cl (BhB.cell 0)
    have x6:=cl (BhB.cell 6)
    have x16:=cl (BhB.cell 16)
    have x23:=cl (BhB.cell 23)
    have lM:=BhB.lt))
 all_goals go_ret
 all_goals refine⟨ret_bool ?_,by first|exact XhB|exact hX⟩
 all_goals first|rfl|(simp_all;done)|(simp_all;omega)
def fieldsM (m:Mg):Bool:=
 if m.k≤7 then (m.t.may&&rgI m.rg&&dealtX m) else
 if m.k=8 then (rgI m.rg&&decide (1≤m.n)&&decide (0≤m.mx)&&decide (m.mx≤8)&&m.s.may) else
 if m.k=9 then (rgI m.rg&&decide (1≤m.n)&&batchB m.rc) else
 if m.k=10 then (rgI m.rg&&mayS m.st&&(m.st.r.id==m.rg)) else
 if m.k=11 then (rgI m.rg) else
 if m.k=12 then (applyB m.pv m.s m.t m.ws) else
 if m.k=14 then m.s.may else
 true
theorem mfields_any (m:Mg) (h:Hm) (w:World) (hk:kindM m.k=true) (ok:m.ok) (i:MgLo w w.heap.size m h) (sm:MgSm m h) (pl:∀r∈m.rc,RcPl r):
 Calls Tryz.prog 30 #[.agg (m.vals h)] w fun e w'=>e=.returned (.bool (fieldsM m))∧Below w.heap.size w w':=by
 unfold kindM at hk
 rw[decide_eq_true_eq]at hk
 by_cases h7:m.k≤7
 · rw[show fieldsM m=(m.t.may&&rgI m.rg&&dealtX m) by unfold fieldsM;rw[if_pos h7]]
   exact mfields_low m h w ⟨hk.1,h7⟩ i sm
 · have hc:m.k=8∨m.k=9∨m.k=10∨m.k=11∨m.k=12∨m.k=13∨m.k=14:=by omega
   unfold fieldsM
   rw[if_neg h7]
   rcases hc with e|e|e|e|e|e|e
   all_goals simp only[e]
   · exact mfields_8 m h w e ok i sm
   · exact mfields_9 m h w e ok i sm pl
   · exact mfields_10 m h w e ok i sm
   · exact mfields_11 m h w e ok i sm
   · exact mfields_12 m h w e ok i sm
   · exact mfields_13 m h w e ok i sm
   · exact mfields_14 m h w e ok i sm
theorem MgLo.wipe {w:World} {B:Nat} {m:Mg} {h:Hm} (i:MgLo w B m h):MgLo w B (wipeM m) (wipeHm m.k h):=by
 by_cases hk:1≤m.k∧m.k≤14
 · have hc:m.k=1∨m.k=2∨m.k=3∨m.k=4∨m.k=5∨m.k=6∨m.k=7∨m.k=8∨m.k=9∨m.k=10∨m.k=11∨m.k=12∨m.k=13∨m.k=14:=by omega
   rcases hc with e|e|e|e|e|e|e|e|e|e|e|e|e|e
   all_goals
    unfold wipeM wipeHm
    simp only[e]
    constructor
    all_goals first
        |exact Sl.nil
        |exact i.ks
        |exact i.sn
        |exact i.ws
        |exact i.ps
        |exact i.rs
        |exact i.rc
        |exact i.hs
        |exact i.pn
 · rw[show wipeM m=m by unfold wipeM;repeat (rw[if_neg (by omega)]),show wipeHm m.k h=h by unfold wipeHm;repeat (rw[if_neg (by omega)])]
   exact i
theorem wipe_sm {m:Mg} {h:Hm} (sm:MgSm m h):(wipeHm m.k h).a.n≤1000000∧(wipeHm m.k h).b.n≤1000000∧(wipeHm m.k h).c.n≤1000000∧(wipeHm m.k h).d.n≤1000000∧(wipeHm m.k h).e.n≤1000000∧(wipeHm m.k h).f.n≤1000000:=by
 have h0:Hd.nil.n=0:=rfl
 have:=sm.a
 have:=sm.b
 have:=sm.c
 have:=sm.d
 have:=sm.e
 have:=sm.f
 refine⟨?_,?_,?_,?_,?_,?_⟩
 all_goals
  unfold wipeHm
  repeat' split
  all_goals first|assumption|(show Hd.nil.n≤1000000;omega)
def mayM (m:Mg):Int:=if kindM m.k=false then 7 else if (nodeB m.fr&&nodeB m.ton&&(wipeM m).zeroB&&fieldsM m)=false then 4 else 0
theorem mayM_any (m:Mg) (h:Hm) (w:World) (ok:m.ok) (i:MgLo w w.heap.size m h) (sm:MgSm m h) (pl:∀r∈m.rc,RcPl r):
 Calls Tryz.prog 11 #[.agg (m.vals h)] w fun e w'=>e=.returned (.int .i64 (mayM m))∧Below w.heap.size w w':=by
 have hW:=fun w'=>mwithout_any m h w'
 have hN1:=fun w'=>mnode_any m.fr w'
 have hN2:=fun w'=>mnode_any m.ton w'
 have hZ0:=fun w' (hb:Below w.heap.size w w')=>mzero_any (wipeM m) (wipeHm m.k h) w' (i.up hb).wipe (wipe_sm sm)
 have hF:=fun (hk:kindM m.k=true) w' (hb:Below w.heap.size w w')=>mfields_any m h w' hk ok (i.up hb) sm pl
 have HV:=Lib.hid (show mayM m=(if kindM m.k=false then 7 else if (nodeB m.fr&&nodeB m.ton&&(wipeM m).zeroB&&fieldsM m)=false then 4 else 0) from rfl)
 clear ok i sm pl
 have hX:Below w.heap.size w (w.alloc (.cells (m.vals h) 41)):=by go_grown
 have B0:Blk (w.alloc (.cells (m.vals h) 41)) w.heap.size 41 (m.vals h):=Blk.new _ _ _
 generalize (wipeM m).zeroB=bz at*
 generalize fieldsM m=bf at*
 generalize wipeM m=q at*
 generalize wipeHm m.k h=g at*
 generalize nodeB m.fr=n1 at*
 generalize nodeB m.ton=n2 at*
 cases hk:kindM m.k
 · rw[hk]at hW HV
   clear hF hk
   go_enter Tryz.func11,Tryz.ntmps11
   go_wp2_with (first
    |(guard_target=~ wpList _ _ _ _ _ _;refine wpList_load_row rfl 41 _ rfl _ rfl _ _ (0,0) _ (Blk.new _ _ _) rfl rfl (by kernel_rfl) ?_)
    |((with_reducible refine(hW _).mono ?_);rintro e w1 ⟨rfl,hb1⟩)
    |(guard_target=~ wpList _ _ _ _ _ _;refine wpList_store_new rfl 41 _ _ rfl _ rfl rfl _ _ (by kernel_rfl) (by kernel_rfl) (by kernel_rfl) ?_))
   all_goals go_ret
   exact⟨ret_int (by rw[HV.out];rfl),(hX.trans (hb1.mono hX.size)).alloc (hX.trans (hb1.mono hX.size)).size _⟩
 · have hF:=hF hk
   rw[hk]at hW HV
   clear hk
   go_enter Tryz.func11,Tryz.ntmps11
   go_upto_region 4 with (first
    |(guard_target=~ wpList _ _ _ _ _ _;refine wpList_load_row rfl 41 _ rfl _ rfl _ _ (0,0) _ (Blk.new _ _ _) rfl rfl (by kernel_rfl) ?_)
    |((with_reducible refine(hW _).mono ?_);rintro e w1 ⟨rfl,hb1⟩)
    |(guard_target=~ wpList _ _ _ _ _ _;refine wpList_store_new rfl 41 _ _ rfl _ rfl rfl _ _ (by kernel_rfl) (by kernel_rfl) (by kernel_rfl) ?_))
   have hY:=hX.trans (hb1.mono hX.size)
   have hY2:=hY.alloc hY.size (.cells (q.vals g) 41)
   have B1:=(B0.below hb1 B0.lt).alloc (.cells (q.vals g) 41)
   have C1:=Blk.new w1 41 (q.vals g)
   generalize (w1.alloc (.cells (q.vals g) 41))=w2 at*
   generalize w1.heap.size=bq at*
   have lB:=B1.lt
   have y1:=cl (B1.cell 1)
   have y2:=cl (B1.cell 2)
   cases n1<;>cases n2<;>cases bz
   all_goals
    go_wp2_with (first
        |(guard_target=~ wpList _ _ _ _ _ _;refine wpList_load_row_g (by rfl) 41 (.tmp 3) rfl bq (by kernel_rfl) _ _ (0,0) _ C1 rfl rfl (by kernel_rfl) ?_)
        |(guard_target=~ wpList _ _ _ _ _ _;refine wpList_load_row_g (by rfl) 41 (.tmp 1) rfl w.heap.size (by kernel_rfl) _ _ (0,0) _ B2 rfl rfl (by kernel_rfl) ?_)
        |((with_reducible refine(hN1 _).mono ?_);rintro e v1 ⟨rfl,rfl⟩)
        |((with_reducible refine(hN2 _).mono ?_);rintro e v1 ⟨rfl,rfl⟩)
        |((with_reducible refine(hZ0 _ hY2).mono ?_);rintro e w3 ⟨rfl,hb3⟩
          have B2:=B1.below hb3 B1.lt
          have hZ:=hY2.trans (hb3.mono hY2.size))
        |((with_reducible refine(hF _ hZ).mono ?_);rintro e w4 ⟨rfl,hb4⟩
          have hU:=hZ.trans (hb4.mono hZ.size)))
    all_goals go_ret
    all_goals refine⟨ret_int ?_,by first|exact hU|exact hZ|exact hY2⟩
    all_goals rw[HV.out]
    all_goals simp_all
end Go.Proofs.YtcalkfgibflbnaaGreat
namespace Go.Proofs.YtcalkfgibflbnaaGreat
set_option linter.unusedVariables false
open Go.RowKit Fl
def goodM (m:Mg):Bool:=
 if m.k=1 then (m.t.may&&rgI m.rg&&decide (0≤m.ep)&&m.s.may&&decide (1≤(m.ks.length:Int))&&riseB m.ks) else
 if m.k=2 then (if m.cd=0 then m.t.may&&rgI m.rg&&m.s.may&&decide (1≤(m.sn.length:Int))&&seenB m.sn&&((m.rs.length:Int)==0) else m.t.may&&rgI m.rg&&m.s.may&&(decide (0≤m.cd)&&decide (m.cd≤25))&&((m.sn.length:Int)==0)&&covB m.rs) else
 if m.k=3 then (m.t.may&&rgI m.rg&&decide (0≤m.ep)&&m.s.may&&seenB m.sn&&wrsB m.ws&&partsB m.ps&&hasN m.rg m.ps) else
 if m.k=4 then (m.t.may&&rgI m.rg&&m.s.may&&(decide (0≤m.cd)&&decide (m.cd≤25))&&covB m.rs&&(m.cd !=0||((m.rs.length:Int)==0))) else
 if m.k=5 then (m.t.may&&rgI m.rg&&m.s.may&&(m.s.zero== !m.cm)) else
 if m.k=6 then (m.t.may&&rgI m.rg) else
 if m.k=7 then (m.t.may&&rgI m.rg) else
 if m.k=8 then (rgI m.rg&&decide (1≤m.n)&&decide (0≤m.mx)&&decide (m.mx≤8)&&m.s.may) else
 if m.k=9 then rgI m.rg&&decide (1≤m.n)&&batchB m.rc else
 if m.k=10 then (rgI m.rg&&mayS m.st&&(m.st.r.id==m.rg)) else
 if m.k=11 then rgI m.rg else
 if m.k=12 then (rappliesB m.pv m.s m.t m.ws) else
 if m.k=14 then m.s.may else
 true
theorem cov_nil:covB []=true:=rfl
theorem allMay_all:∀l:List Wt,allMay l=l.all fun a=>a.v.may
 |[]=>rfl
 |a::l=>by show (a.v.may&&allMay l)=_;rw[allMay_all l];rfl
theorem wrt_wrs (l:List Wt):wrtB l=wrsB l:=by
 unfold wrtB wrsB
 rw[Bool.and_comm,allMay_all]
theorem fine_2 (t g s f n0:Bool) (cd:Int) (l:List Rg):
 (t&&g&&(codeB cd (f&& !n0) l&&s&&(cd==0||n0)))=(if cd=0 then t&&g&&s&& !n0&&f&&((l.length:Int)==0) else t&&g&&s&&(decide (0≤cd)&&decide (cd≤25))&&n0&&covB l):=by
 unfold codeB
 by_cases h:cd=0
 · rw[if_pos h,if_pos h,h,show decide (l.length=0)=((l.length:Int)==0) by rw[Bool.eq_iff_iff];simp]
   cases t<;>cases g<;>cases s<;>cases f<;>cases n0<;>simp
 · rw[if_neg h,if_neg h,show (cd==0)=false by simp[h],show decide (0<cd)=decide (0≤cd) by rw[decide_eq_decide];omega]
   cases t<;>cases g<;>cases s<;>cases n0<;>simp
theorem fine_4 (t g s:Bool) (cd:Int) (l:List Rg):
 (t&&g&&(codeB cd true l&&s))=(t&&g&&s&&(decide (0≤cd)&&decide (cd≤25))&&covB l&&(cd !=0||((l.length:Int)==0))):=by
 unfold codeB
 by_cases h:cd=0
 · rw[if_pos h,h,show decide (l.length=0)=((l.length:Int)==0) by rw[Bool.eq_iff_iff];simp]
   cases l with
   |nil=>rw[cov_nil];cases t<;>cases g<;>cases s<;>rfl
   |cons a l=>rw[show (((a::l).length:Int)==0)=false by rw[beq_eq_false_iff_ne];simp only[List.length_cons];omega];cases t<;>cases g<;>cases s<;>simp
 · rw[if_neg h,show (cd !=0)=true by simp[h],show decide (0<cd)=decide (0≤cd) by rw[decide_eq_decide];omega]
   cases t<;>cases g<;>cases s<;>simp
theorem fine_5 (t g cm:Bool) (s:Sp):(t&&g&&(if cm=true then s.may&& !s.zero else s.zero))=(t&&g&&s.may&&(s.zero== !cm)):=by
 cases hz:s.zero
 · cases t<;>cases g<;>cases cm<;>cases s.may<;>rfl
 · rw[zero_may hz]
   cases t<;>cases g<;>cases cm<;>rfl
theorem fields_goodM (m:Mg) (hk:kindM m.k=true):fieldsM m=goodM m:=by
 unfold kindM at hk
 rw[decide_eq_true_eq]at hk
 have l1:∀n:Nat,decide (0<n)=decide (1≤(n:Int)):=fun n=>by rw[decide_eq_decide];omega
 have hc:m.k=1∨m.k=2∨m.k=3∨m.k=4∨m.k=5∨m.k=6∨m.k=7∨m.k=8∨m.k=9∨m.k=10∨m.k=11∨m.k=12∨m.k=13∨m.k=14:=by omega
 rcases hc with e|e|e|e|e|e|e|e|e|e|e|e|e|e
 all_goals
  unfold fieldsM goodM dealtX
  simp only[e]
 · show (_&&_&&(_&&_&&_&&decide (0<m.ks.length)))=(_&&_&&_&&_&&decide (1≤(m.ks.length:Int))&&_)
   rw[l1]
   cases m.t.may<;>cases rgI m.rg<;>cases decide (0≤m.ep)<;>cases m.s.may<;>cases riseB m.ks<;>simp
 · show (_&&_&&(codeB m.cd (seenB m.sn&&decide (0<m.sn.length)) m.rs&&_&&(_||decide (m.sn.length=0))))=_
   have h:=fine_2 m.t.may (rgI m.rg) m.s.may (seenB m.sn) ((m.sn.length:Int)==0) m.cd m.rs
   rw[show (!((m.sn.length:Int)==0))=decide (1≤(m.sn.length:Int)) by rw[Bool.eq_iff_iff];simp only[Bool.not_eq_true',beq_eq_false_iff_ne,decide_eq_true_eq];omega]at h
   rw[l1,show decide (m.sn.length=0)=((m.sn.length:Int)==0) by rw[Bool.eq_iff_iff];simp]
   exact h
 · rw[wrt_wrs]
   show (_&&_&&(_&&_&&_&&_&&_&&_))=_
   simp only[Bool.and_assoc]
   rfl
 · exact fine_4 _ _ _ _ _
 · exact fine_5 _ _ _ _
 · show (_&&_&&true)=_
   rw[Bool.and_true];rfl
 · show (_&&_&&true)=_
   rw[Bool.and_true];rfl
 · rfl
 · rfl
 · rfl
 · rfl
 · exact apply_eq _ _ _ _
 · rfl
 · rfl
end Go.Proofs.YtcalkfgibflbnaaGreat
