/- The walk of msgs' fields. -/
import Derived.Deep.MidRow
import Derived.Test.YtcalkfgibflbnaaGreatKaab
import Derived.Test.YtcalkfgibflbnaaGreatKaag
import Derived.Test.YtcalkfgibflbnaaGreatKaai
import Derived.Test.YtcalkfgibflbnaaGreatKacc
import Derived.Test.YtcalkfgibflbnaaGreatKacf
import Derived.Test.YtcalkfgibflbnaaGreatKacg
namespace Go.Proofs.YtcalkfgibflbnaaGreat
set_option maxHeartbeats 8000000
set_option maxRecDepth 100000
set_option linter.unusedVariables false
open Go.RowKit Fl
attribute [local go_sem] run_store_float
theorem mfields_8 (m:Mg) (h:Hm) (w:World) (hk:m.k=8) (ok:m.ok) (i:MgLo w w.heap.size m h) (sm:MgSm m h):
 Calls Tryz.prog 30 #[.agg (m.vals h)] w fun e w'=>e=.returned (.bool (rgI m.rg&&decide (1≤m.n)&&decide (0≤m.mx)&&decide (m.mx≤8)&&m.s.may))∧Below w.heap.size w w':=by
 obtain⟨k,fr,ton,t,rg,ep,cd,s,pv,cm,n,mx,ks,sn,ws,ps,rs,rc,st⟩:=m
 change k=8 at hk
 subst hk
 try dsimp only
 have hR:=fun w' (hb:Below w.heap.size w w')=>mranges_any rg w'
 have hM:=fun w' (hb:Below w.heap.size w w')=>hmayB s w'
 obtain⟨W0,hW0⟩:∃W0,W0=w.alloc (.cells ((⟨8,fr,ton,t,rg,ep,cd,s,pv,cm,n,mx,ks,sn,ws,ps,rs,rc,st⟩:Mg).vals h) 41):=⟨_,rfl⟩
 have hX:Below w.heap.size w W0:=by rw[hW0];go_grown
 have bM:Blk W0 w.heap.size 41 ((⟨8,fr,ton,t,rg,ep,cd,s,pv,cm,n,mx,ks,sn,ws,ps,rs,rc,st⟩:Mg).vals h):=by rw[hW0];exact Blk.new _ _ _
 have HW:=Lib.hid hW0
 clear ok i sm hW0
 generalize rgI rg=g0 at*
 generalize s.may=g1 at*
 go_enter Tryz.func30,Tryz.ntmps30
 go_upto_region 1 with fail
 rw[←HW.out]
 clear HW
 have x0:=cl (bM.cell 0)
 have x6:=cl (bM.cell 6)
 have x9:=cl (bM.cell 9)
 have x10:=cl (bM.cell 10)
 have x11:=cl (bM.cell 11)
 have x16:=cl (bM.cell 16)
 have x17:=cl (bM.cell 17)
 have lM:=bM.lt
 go_wp2_with (first
  |((with_reducible refine(hR _ hX).mono ?_);rintro e whR ⟨rfl,rfl⟩)
  |((with_reducible refine(hM _ hX).mono ?_);rintro e whM ⟨rfl,hbhM⟩
    have XhM:=hX.trans (hbhM.mono hX.size)
    have BhM:=bM.below hbhM bM.lt
    have x0:=cl (BhM.cell 0)
    have x6:=cl (BhM.cell 6)
    have x9:=cl (BhM.cell 9)
    have x10:=cl (BhM.cell 10)
    have x11:=cl (BhM.cell 11)
    have x16:=cl (BhM.cell 16)
    have x17:=cl (BhM.cell 17)
    have lM:=BhM.lt))
 all_goals go_ret
 all_goals refine⟨ret_bool ?_,by first|exact XhM|exact hX⟩
 all_goals first|rfl|(simp_all;done)|(simp_all;omega)
theorem mfields_10 (m:Mg) (h:Hm) (w:World) (hk:m.k=10) (ok:m.ok) (i:MgLo w w.heap.size m h) (sm:MgSm m h):
 Calls Tryz.prog 30 #[.agg (m.vals h)] w fun e w'=>e=.returned (.bool (rgI m.rg&&mayS m.st&&(m.st.r.id==m.rg)))∧Below w.heap.size w w':=by
 obtain⟨k,fr,ton,t,rg,ep,cd,s,pv,cm,n,mx,ks,sn,ws,ps,rs,rc,st⟩:=m
 change k=10 at hk
 subst hk
 try dsimp only
 have hR:=fun w' (hb:Below w.heap.size w w')=>mranges_any rg w'
 have hS:=fun w' (hb:Below w.heap.size w w')=>stateMay_any st h.g.A h.i.A h.g.n h.i.n h.g.c h.i.c w' ok.sr (i.up hb).hs (i.up hb).pn sm.hs sm.pn
 obtain⟨W0,hW0⟩:∃W0,W0=w.alloc (.cells ((⟨10,fr,ton,t,rg,ep,cd,s,pv,cm,n,mx,ks,sn,ws,ps,rs,rc,st⟩:Mg).vals h) 41):=⟨_,rfl⟩
 have hX:Below w.heap.size w W0:=by rw[hW0];go_grown
 have bM:Blk W0 w.heap.size 41 ((⟨10,fr,ton,t,rg,ep,cd,s,pv,cm,n,mx,ks,sn,ws,ps,rs,rc,st⟩:Mg).vals h):=by rw[hW0];exact Blk.new _ _ _
 have HW:=Lib.hid hW0
 clear ok i sm hW0
 generalize rgI rg=g0 at*
 generalize mayS st=g1 at*
 go_enter Tryz.func30,Tryz.ntmps30
 go_upto_region 1 with fail
 rw[←HW.out]
 clear HW
 have x0:=cl (bM.cell 0)
 have x6:=cl (bM.cell 6)
 have x24:=cl (bM.cell 24)
 have x25:=cl (bM.cell 25)
 have x26:=cl (bM.cell 26)
 have x27:=cl (bM.cell 27)
 have x28:=cl (bM.cell 28)
 have x29:=cl (bM.cell 29)
 have x30:=cl (bM.cell 30)
 have x31:=cl (bM.cell 31)
 have x32:=cl (bM.cell 32)
 have x33:=cl (bM.cell 33)
 have x34:=cl (bM.cell 34)
 have x35:=cl (bM.cell 35)
 have lM:=bM.lt
 go_wp2_with (first
  |((with_reducible refine(hR _ hX).mono ?_);rintro e whR ⟨rfl,rfl⟩)
  |((with_reducible refine(hS _ hX).mono ?_);rintro e whS ⟨rfl,hbhS⟩
    have XhS:=hX.trans (hbhS.mono hX.size)
    have BhS:=bM.below hbhS bM.lt
    have x0:=cl (BhS.cell 0)
    have x6:=cl (BhS.cell 6)
    have x24:=cl (BhS.cell 24)
    have x25:=cl (BhS.cell 25)
    have x26:=cl (BhS.cell 26)
    have x27:=cl (BhS.cell 27)
    have x28:=cl (BhS.cell 28)
    have x29:=cl (BhS.cell 29)
    have x30:=cl (BhS.cell 30)
    have x31:=cl (BhS.cell 31)
    have x32:=cl (BhS.cell 32)
    have x33:=cl (BhS.cell 33)
    have x34:=cl (BhS.cell 34)
    have x35:=cl (BhS.cell 35)
    have lM:=BhS.lt))
 all_goals go_ret
 all_goals refine⟨ret_bool ?_,by first|exact XhS|exact hX⟩
 all_goals first|rfl|(simp_all;done)|(simp_all;omega)
theorem mfields_11 (m:Mg) (h:Hm) (w:World) (hk:m.k=11) (ok:m.ok) (i:MgLo w w.heap.size m h) (sm:MgSm m h):
 Calls Tryz.prog 30 #[.agg (m.vals h)] w fun e w'=>e=.returned (.bool (rgI m.rg))∧Below w.heap.size w w':=by
 obtain⟨k,fr,ton,t,rg,ep,cd,s,pv,cm,n,mx,ks,sn,ws,ps,rs,rc,st⟩:=m
 change k=11 at hk
 subst hk
 try dsimp only
 have hR:=fun w' (hb:Below w.heap.size w w')=>mranges_any rg w'
 obtain⟨W0,hW0⟩:∃W0,W0=w.alloc (.cells ((⟨11,fr,ton,t,rg,ep,cd,s,pv,cm,n,mx,ks,sn,ws,ps,rs,rc,st⟩:Mg).vals h) 41):=⟨_,rfl⟩
 have hX:Below w.heap.size w W0:=by rw[hW0];go_grown
 have bM:Blk W0 w.heap.size 41 ((⟨11,fr,ton,t,rg,ep,cd,s,pv,cm,n,mx,ks,sn,ws,ps,rs,rc,st⟩:Mg).vals h):=by rw[hW0];exact Blk.new _ _ _
 have HW:=Lib.hid hW0
 clear ok i sm hW0
 generalize rgI rg=g0 at*
 go_enter Tryz.func30,Tryz.ntmps30
 go_upto_region 1 with fail
 rw[←HW.out]
 clear HW
 have x0:=cl (bM.cell 0)
 have x6:=cl (bM.cell 6)
 have lM:=bM.lt
 go_wp2_with (first
  |((with_reducible refine(hR _ hX).mono ?_);rintro e whR ⟨rfl,rfl⟩))
 all_goals go_ret
 all_goals refine⟨ret_bool ?_,by first|exact hX⟩
 all_goals first|rfl|(simp_all;done)|(simp_all;omega)
theorem mfields_12 (m:Mg) (h:Hm) (w:World) (hk:m.k=12) (ok:m.ok) (i:MgLo w w.heap.size m h) (sm:MgSm m h):
 Calls Tryz.prog 30 #[.agg (m.vals h)] w fun e w'=>e=.returned (.bool (applyB m.pv m.s m.t m.ws))∧Below w.heap.size w w':=by
 obtain⟨k,fr,ton,t,rg,ep,cd,s,pv,cm,n,mx,ks,sn,ws,ps,rs,rc,st⟩:=m
 change k=12 at hk
 subst hk
 try dsimp only
 have hA:=fun w' (hb:Below w.heap.size w w')=>apply_any pv s t h.c.A h.c.n h.c.c ws w' (i.up hb).ws sm.c
 obtain⟨W0,hW0⟩:∃W0,W0=w.alloc (.cells ((⟨12,fr,ton,t,rg,ep,cd,s,pv,cm,n,mx,ks,sn,ws,ps,rs,rc,st⟩:Mg).vals h) 41):=⟨_,rfl⟩
 have hX:Below w.heap.size w W0:=by rw[hW0];go_grown
 have bM:Blk W0 w.heap.size 41 ((⟨12,fr,ton,t,rg,ep,cd,s,pv,cm,n,mx,ks,sn,ws,ps,rs,rc,st⟩:Mg).vals h):=by rw[hW0];exact Blk.new _ _ _
 have HW:=Lib.hid hW0
 clear ok i sm hW0
 generalize applyB pv s t ws=g0 at*
 go_enter Tryz.func30,Tryz.ntmps30
 go_upto_region 1 with fail
 rw[←HW.out]
 clear HW
 have x0:=cl (bM.cell 0)
 have x3:=cl (bM.cell 3)
 have x4:=cl (bM.cell 4)
 have x5:=cl (bM.cell 5)
 have x9:=cl (bM.cell 9)
 have x10:=cl (bM.cell 10)
 have x11:=cl (bM.cell 11)
 have x12:=cl (bM.cell 12)
 have x13:=cl (bM.cell 13)
 have x14:=cl (bM.cell 14)
 have x20:=cl (bM.cell 20)
 have lM:=bM.lt
 go_wp2_with (first
  |((with_reducible refine(hA _ hX).mono ?_);rintro e whA ⟨rfl,hbhA⟩
    have XhA:=hX.trans (hbhA.mono hX.size)
    have BhA:=bM.below hbhA bM.lt
    have x0:=cl (BhA.cell 0)
    have x3:=cl (BhA.cell 3)
    have x4:=cl (BhA.cell 4)
    have x5:=cl (BhA.cell 5)
    have x9:=cl (BhA.cell 9)
    have x10:=cl (BhA.cell 10)
    have x11:=cl (BhA.cell 11)
    have x12:=cl (BhA.cell 12)
    have x13:=cl (BhA.cell 13)
    have x14:=cl (BhA.cell 14)
    have x20:=cl (BhA.cell 20)
    have lM:=BhA.lt))
 all_goals go_ret
 all_goals refine⟨ret_bool ?_,by first|exact XhA|exact hX⟩
 all_goals first|rfl|(simp_all;done)|(simp_all;omega)
theorem mfields_13 (m:Mg) (h:Hm) (w:World) (hk:m.k=13) (ok:m.ok) (i:MgLo w w.heap.size m h) (sm:MgSm m h):
 Calls Tryz.prog 30 #[.agg (m.vals h)] w fun e w'=>e=.returned (.bool true)∧Below w.heap.size w w':=by
 obtain⟨k,fr,ton,t,rg,ep,cd,s,pv,cm,n,mx,ks,sn,ws,ps,rs,rc,st⟩:=m
 change k=13 at hk
 subst hk
 try dsimp only
 obtain⟨W0,hW0⟩:∃W0,W0=w.alloc (.cells ((⟨13,fr,ton,t,rg,ep,cd,s,pv,cm,n,mx,ks,sn,ws,ps,rs,rc,st⟩:Mg).vals h) 41):=⟨_,rfl⟩
 have hX:Below w.heap.size w W0:=by rw[hW0];go_grown
 have bM:Blk W0 w.heap.size 41 ((⟨13,fr,ton,t,rg,ep,cd,s,pv,cm,n,mx,ks,sn,ws,ps,rs,rc,st⟩:Mg).vals h):=by rw[hW0];exact Blk.new _ _ _
 have HW:=Lib.hid hW0
 clear ok i sm hW0
 go_enter Tryz.func30,Tryz.ntmps30
 go_upto_region 1 with fail
 rw[←HW.out]
 clear HW
 have x0:=cl (bM.cell 0)
 have lM:=bM.lt
 go_wp2
 all_goals go_ret
 all_goals refine⟨ret_bool ?_,by first|exact hX⟩
 all_goals first|rfl|(simp_all;done)|(simp_all;omega)
theorem mfields_14 (m:Mg) (h:Hm) (w:World) (hk:m.k=14) (ok:m.ok) (i:MgLo w w.heap.size m h) (sm:MgSm m h):
 Calls Tryz.prog 30 #[.agg (m.vals h)] w fun e w'=>e=.returned (.bool m.s.may)∧Below w.heap.size w w':=by
 obtain⟨k,fr,ton,t,rg,ep,cd,s,pv,cm,n,mx,ks,sn,ws,ps,rs,rc,st⟩:=m
 change k=14 at hk
 subst hk
 try dsimp only
 have hM:=fun w' (hb:Below w.heap.size w w')=>hmayB s w'
 obtain⟨W0,hW0⟩:∃W0,W0=w.alloc (.cells ((⟨14,fr,ton,t,rg,ep,cd,s,pv,cm,n,mx,ks,sn,ws,ps,rs,rc,st⟩:Mg).vals h) 41):=⟨_,rfl⟩
 have hX:Below w.heap.size w W0:=by rw[hW0];go_grown
 have bM:Blk W0 w.heap.size 41 ((⟨14,fr,ton,t,rg,ep,cd,s,pv,cm,n,mx,ks,sn,ws,ps,rs,rc,st⟩:Mg).vals h):=by rw[hW0];exact Blk.new _ _ _
 have HW:=Lib.hid hW0
 clear ok i sm hW0
 generalize s.may=g0 at*
 go_enter Tryz.func30,Tryz.ntmps30
 go_upto_region 1 with fail
 rw[←HW.out]
 clear HW
 have x0:=cl (bM.cell 0)
 have x9:=cl (bM.cell 9)
 have x10:=cl (bM.cell 10)
 have x11:=cl (bM.cell 11)
 have lM:=bM.lt
 go_wp2_with (first
  |((with_reducible refine(hM _ hX).mono ?_);rintro e whM ⟨rfl,hbhM⟩
    have XhM:=hX.trans (hbhM.mono hX.size)
    have BhM:=bM.below hbhM bM.lt
    have x0:=cl (BhM.cell 0)
    have x9:=cl (BhM.cell 9)
    have x10:=cl (BhM.cell 10)
    have x11:=cl (BhM.cell 11)
    have lM:=BhM.lt))
 all_goals go_ret
 all_goals refine⟨ret_bool ?_,by first|exact XhM|exact hX⟩
 all_goals first|rfl|(simp_all;done)|(simp_all;omega)
end Go.Proofs.YtcalkfgibflbnaaGreat
/- The walks of msgs' dealt, whatever the kind, and fields, kinds 1 to 7. -/
namespace Go.Proofs.YtcalkfgibflbnaaGreat
set_option linter.unusedVariables false
open Go.RowKit Fl
attribute [local go_sem] run_store_float
def dealtX (m:Mg):Bool:=
 if m.k=1 then (decide (0≤m.ep)&&m.s.may&&riseB m.ks&&decide (0<m.ks.length)) else
 if m.k=2 then (codeB m.cd (seenB m.sn&&decide (0<m.sn.length)) m.rs&&m.s.may&&(m.cd==0||decide (m.sn.length=0))) else
 if m.k=3 then (decide (0≤m.ep)&&m.s.may&&seenB m.sn&&wrtB m.ws&&partsB m.ps&&hasN m.rg m.ps) else
 if m.k=4 then (codeB m.cd true m.rs&&m.s.may) else
 if m.k=5 then (if m.cm=true then m.s.may&& !m.s.zero else m.s.zero) else
 true
theorem mdealt_any (m:Mg) (h:Hm) (w:World) (hk:1≤m.k∧m.k≤7) (i:MgLo w w.heap.size m h) (sm:MgSm m h):
 Calls Tryz.prog 59 #[.agg (m.vals h)] w fun e w'=>e=.returned (.bool (m.t.may&&rgI m.rg&&dealtX m))∧Below w.heap.size w w':=by
 have hc:m.k=1∨m.k=2∨m.k=3∨m.k=4∨m.k=5∨m.k=6∨m.k=7:=by omega
 rcases hc with e|e|e|e|e|e|e
 · have e1:dealtX m=(decide (0≤m.ep)&&m.s.may&&riseB m.ks&&decide (0<m.ks.length)):=by unfold dealtX;simp[e]
   rw[e1,i.ks.1];exact mdealt_1 m h w e i sm
 · have e1:dealtX m=(codeB m.cd (seenB m.sn&&decide (0<m.sn.length)) m.rs&&m.s.may&&(m.cd==0||decide (m.sn.length=0))):=by unfold dealtX;simp[e]
   rw[e1,i.sn.1];exact mdealt_2 m h w e i sm
 · have e1:dealtX m=(decide (0≤m.ep)&&m.s.may&&seenB m.sn&&wrtB m.ws&&partsB m.ps&&hasN m.rg m.ps):=by unfold dealtX;simp[e]
   rw[e1];exact mdealt_3 m h w e i sm
 · have e1:dealtX m=(codeB m.cd true m.rs&&m.s.may):=by unfold dealtX;simp[e]
   rw[e1];exact mdealt_4 m h w e i sm
 · have e1:dealtX m=(if m.cm=true then m.s.may&& !m.s.zero else m.s.zero):=by unfold dealtX;simp[e]
   rw[e1];exact mdealt_5 m h w e i sm
 · have e1:dealtX m=true:=by unfold dealtX;simp[e]
   rw[e1];exact mdealt_6 m h w e i sm
 · have e1:dealtX m=true:=by unfold dealtX;simp[e]
   rw[e1];exact mdealt_7 m h w e i sm
set_option maxRecDepth 100000 in
set_option maxHeartbeats 16000000 in
theorem mfields_low (m:Mg) (h:Hm) (w:World) (hk:1≤m.k∧m.k≤7) (i:MgLo w w.heap.size m h) (sm:MgSm m h):
 Calls Tryz.prog 30 #[.agg (m.vals h)] w fun e w'=>e=.returned (.bool (m.t.may&&rgI m.rg&&dealtX m))∧Below w.heap.size w w':=by
 have hD:=fun w' (hb:Below w.heap.size w w')=>mdealt_any m h w' hk (i.up hb) sm
 have hc:m.k=1∨m.k=2∨m.k=3∨m.k=4∨m.k=5∨m.k=6∨m.k=7:=by omega
 clear hk i sm
 generalize (m.t.may&&rgI m.rg&&dealtX m)=g0 at*
 obtain⟨k,fr,ton,t,rg,ep,cd,s,pv,cm,n,mx,ks,sn,ws,ps,rs,rc,st⟩:=m
 obtain⟨W0,hW0⟩:∃W0,W0=w.alloc (.cells ((⟨k,fr,ton,t,rg,ep,cd,s,pv,cm,n,mx,ks,sn,ws,ps,rs,rc,st⟩:Mg).vals h) 41):=⟨_,rfl⟩
 have hX:Below w.heap.size w W0:=by rw[hW0];go_grown
 have bM:Blk W0 w.heap.size 41 ((⟨k,fr,ton,t,rg,ep,cd,s,pv,cm,n,mx,ks,sn,ws,ps,rs,rc,st⟩:Mg).vals h):=by rw[hW0];exact Blk.new _ _ _
 have HW:=Lib.hid hW0
 have x0:=cl (bM.cell 0)
 have lM:=bM.lt
 clear hW0
 change k=1∨k=2∨k=3∨k=4∨k=5∨k=6∨k=7 at hc
 rcases hc with rfl|rfl|rfl|rfl|rfl|rfl|rfl
 all_goals
  go_enter Tryz.func30,Tryz.ntmps30
  go_upto_region 1 with fail
  rw[←HW.out]
  clear HW
  go_wp2_with (first
   |(guard_target=~ wpList _ _ _ _ _ _;refine wpList_load_row rfl 41 _ rfl w.heap.size (by kernel_rfl) _ _ (0,0) _ bM rfl rfl (by kernel_rfl) ?_)
   |((with_reducible refine(hD _ hX).mono ?_);rintro e w1 ⟨rfl,hb1⟩))
  go_ret
  exact⟨rfl,hX.trans (hb1.mono hX.size)⟩
end Go.Proofs.YtcalkfgibflbnaaGreat
/- The walk of msgs' fields. -/
namespace Go.Proofs.YtcalkfgibflbnaaGreat
set_option maxHeartbeats 8000000
set_option maxRecDepth 100000
set_option linter.unusedVariables false
open Go.RowKit Fl
attribute [local go_sem] run_store_float
theorem mfields_9 (m:Mg) (h:Hm) (w:World) (hk:m.k=9) (ok:m.ok) (i:MgLo w w.heap.size m h) (sm:MgSm m h) (pl:∀r∈m.rc,RcPl r):
 Calls Tryz.prog 30 #[.agg (m.vals h)] w fun e w'=>e=.returned (.bool (rgI m.rg&&decide (1≤m.n)&&batchB m.rc))∧Below w.heap.size w w':=by
 obtain⟨k,fr,ton,t,rg,ep,cd,s,pv,cm,n,mx,ks,sn,ws,ps,rs,rc,st⟩:=m
 change k=9 at hk
 subst hk
 try dsimp only
 have hR:=fun w' (hb:Below w.heap.size w w')=>mranges_any rg w'
 have hB:=fun w' (hb:Below w.heap.size w w')=>mbatch_any h.f.A h.f.n h.f.c rc w' (i.up hb).rc sm.f pl
 obtain⟨W0,hW0⟩:∃W0,W0=w.alloc (.cells ((⟨9,fr,ton,t,rg,ep,cd,s,pv,cm,n,mx,ks,sn,ws,ps,rs,rc,st⟩:Mg).vals h) 41):=⟨_,rfl⟩
 have hX:Below w.heap.size w W0:=by rw[hW0];go_grown
 have bM:Blk W0 w.heap.size 41 ((⟨9,fr,ton,t,rg,ep,cd,s,pv,cm,n,mx,ks,sn,ws,ps,rs,rc,st⟩:Mg).vals h):=by rw[hW0];exact Blk.new _ _ _
 have HW:=Lib.hid hW0
 clear ok i sm pl hW0
 generalize rgI rg=g0 at*
 generalize batchB rc=g1 at*
 go_enter Tryz.func30,Tryz.ntmps30
 go_upto_region 1 with fail
 rw[←HW.out]
 clear HW
 have x0:=cl (bM.cell 0)
 have x6:=cl (bM.cell 6)
 have x16:=cl (bM.cell 16)
 have x23:=cl (bM.cell 23)
 have lM:=bM.lt
 go_wp2_with (first
  |((with_reducible refine(hR _ hX).mono ?_);rintro e whR ⟨rfl,rfl⟩)
  |((with_reducible refine(hB _ hX).mono ?_);rintro e whB ⟨rfl,hbhB⟩
    have XhB:=hX.trans (hbhB.mono hX.size)
    have BhB:=bM.below hbhB bM.lt
    have x0:=cl (BhB.cell 0)
    have x6:=cl (BhB.cell 6)
    have x16:=cl (BhB.cell 16)
    have x23:=cl (BhB.cell 23)
    have lM:=BhB.lt))
 all_goals go_ret
 all_goals refine⟨ret_bool ?_,by first|exact XhB|exact hX⟩
 all_goals first|rfl|(simp_all;done)|(simp_all;omega)
def fieldsM (m:Mg):Bool:=
 if m.k≤7 then (m.t.may&&rgI m.rg&&dealtX m) else
 if m.k=8 then (rgI m.rg&&decide (1≤m.n)&&decide (0≤m.mx)&&decide (m.mx≤8)&&m.s.may) else
 if m.k=9 then (rgI m.rg&&decide (1≤m.n)&&batchB m.rc) else
 if m.k=10 then (rgI m.rg&&mayS m.st&&(m.st.r.id==m.rg)) else
 if m.k=11 then (rgI m.rg) else
 if m.k=12 then (applyB m.pv m.s m.t m.ws) else
 if m.k=14 then m.s.may else
 true
theorem mfields_any (m:Mg) (h:Hm) (w:World) (hk:kindM m.k=true) (ok:m.ok) (i:MgLo w w.heap.size m h) (sm:MgSm m h) (pl:∀r∈m.rc,RcPl r):
 Calls Tryz.prog 30 #[.agg (m.vals h)] w fun e w'=>e=.returned (.bool (fieldsM m))∧Below w.heap.size w w':=by
 unfold kindM at hk
 rw[decide_eq_true_eq]at hk
 by_cases h7:m.k≤7
 · rw[show fieldsM m=(m.t.may&&rgI m.rg&&dealtX m) by unfold fieldsM;rw[if_pos h7]]
   exact mfields_low m h w ⟨hk.1,h7⟩ i sm
 · have hc:m.k=8∨m.k=9∨m.k=10∨m.k=11∨m.k=12∨m.k=13∨m.k=14:=by omega
   unfold fieldsM
   rw[if_neg h7]
   rcases hc with e|e|e|e|e|e|e
   all_goals simp only[e]
   · exact mfields_8 m h w e ok i sm
   · exact mfields_9 m h w e ok i sm pl
   · exact mfields_10 m h w e ok i sm
   · exact mfields_11 m h w e ok i sm
   · exact mfields_12 m h w e ok i sm
   · exact mfields_13 m h w e ok i sm
   · exact mfields_14 m h w e ok i sm
theorem MgLo.wipe {w:World} {B:Nat} {m:Mg} {h:Hm} (i:MgLo w B m h):MgLo w B (wipeM m) (wipeHm m.k h):=by
 by_cases hk:1≤m.k∧m.k≤14
 · have hc:m.k=1∨m.k=2∨m.k=3∨m.k=4∨m.k=5∨m.k=6∨m.k=7∨m.k=8∨m.k=9∨m.k=10∨m.k=11∨m.k=12∨m.k=13∨m.k=14:=by omega
   rcases hc with e|e|e|e|e|e|e|e|e|e|e|e|e|e
   all_goals
    unfold wipeM wipeHm
    simp only[e]
    constructor
    all_goals first
        |exact Sl.nil
        |exact i.ks
        |exact i.sn
        |exact i.ws
        |exact i.ps
        |exact i.rs
        |exact i.rc
        |exact i.hs
        |exact i.pn
 · rw[show wipeM m=m by unfold wipeM;repeat (rw[if_neg (by omega)]),show wipeHm m.k h=h by unfold wipeHm;repeat (rw[if_neg (by omega)])]
   exact i
theorem wipe_sm {m:Mg} {h:Hm} (sm:MgSm m h):(wipeHm m.k h).a.n≤1000000∧(wipeHm m.k h).b.n≤1000000∧(wipeHm m.k h).c.n≤1000000∧(wipeHm m.k h).d.n≤1000000∧(wipeHm m.k h).e.n≤1000000∧(wipeHm m.k h).f.n≤1000000:=by
 have h0:Hd.nil.n=0:=rfl
 have:=sm.a
 have:=sm.b
 have:=sm.c
 have:=sm.d
 have:=sm.e
 have:=sm.f
 refine⟨?_,?_,?_,?_,?_,?_⟩
 all_goals
  unfold wipeHm
  repeat' split
  all_goals first|assumption|(show Hd.nil.n≤1000000;omega)
def mayM (m:Mg):Int:=if kindM m.k=false then 7 else if (nodeB m.fr&&nodeB m.ton&&(wipeM m).zeroB&&fieldsM m)=false then 4 else 0
theorem mayM_any (m:Mg) (h:Hm) (w:World) (ok:m.ok) (i:MgLo w w.heap.size m h) (sm:MgSm m h) (pl:∀r∈m.rc,RcPl r):
 Calls Tryz.prog 11 #[.agg (m.vals h)] w fun e w'=>e=.returned (.int .i64 (mayM m))∧Below w.heap.size w w':=by
 have hW:=fun w'=>mwithout_any m h w'
 have hN1:=fun w'=>mnode_any m.fr w'
 have hN2:=fun w'=>mnode_any m.ton w'
 have hZ0:=fun w' (hb:Below w.heap.size w w')=>mzero_any (wipeM m) (wipeHm m.k h) w' (i.up hb).wipe (wipe_sm sm)
 have hF:=fun (hk:kindM m.k=true) w' (hb:Below w.heap.size w w')=>mfields_any m h w' hk ok (i.up hb) sm pl
 have HV:=Lib.hid (show mayM m=(if kindM m.k=false then 7 else if (nodeB m.fr&&nodeB m.ton&&(wipeM m).zeroB&&fieldsM m)=false then 4 else 0) from rfl)
 clear ok i sm pl
 have hX:Below w.heap.size w (w.alloc (.cells (m.vals h) 41)):=by go_grown
 have B0:Blk (w.alloc (.cells (m.vals h) 41)) w.heap.size 41 (m.vals h):=Blk.new _ _ _
 generalize (wipeM m).zeroB=bz at*
 generalize fieldsM m=bf at*
 generalize wipeM m=q at*
 generalize wipeHm m.k h=g at*
 generalize nodeB m.fr=n1 at*
 generalize nodeB m.ton=n2 at*
 cases hk:kindM m.k
 · rw[hk]at hW HV
   clear hF hk
   go_enter Tryz.func11,Tryz.ntmps11
   go_wp2_with (first
    |(guard_target=~ wpList _ _ _ _ _ _;refine wpList_load_row rfl 41 _ rfl _ rfl _ _ (0,0) _ (Blk.new _ _ _) rfl rfl (by kernel_rfl) ?_)
    |((with_reducible refine(hW _).mono ?_);rintro e w1 ⟨rfl,hb1⟩)
    |(guard_target=~ wpList _ _ _ _ _ _;refine wpList_store_new rfl 41 _ _ rfl _ rfl rfl _ _ (by kernel_rfl) (by kernel_rfl) (by kernel_rfl) ?_))
   all_goals go_ret
   exact⟨ret_int (by rw[HV.out];rfl),(hX.trans (hb1.mono hX.size)).alloc (hX.trans (hb1.mono hX.size)).size _⟩
 · have hF:=hF hk
   rw[hk]at hW HV
   clear hk
   go_enter Tryz.func11,Tryz.ntmps11
   go_upto_region 4 with (first
    |(guard_target=~ wpList _ _ _ _ _ _;refine wpList_load_row rfl 41 _ rfl _ rfl _ _ (0,0) _ (Blk.new _ _ _) rfl rfl (by kernel_rfl) ?_)
    |((with_reducible refine(hW _).mono ?_);rintro e w1 ⟨rfl,hb1⟩)
    |(guard_target=~ wpList _ _ _ _ _ _;refine wpList_store_new rfl 41 _ _ rfl _ rfl rfl _ _ (by kernel_rfl) (by kernel_rfl) (by kernel_rfl) ?_))
   have hY:=hX.trans (hb1.mono hX.size)
   have hY2:=hY.alloc hY.size (.cells (q.vals g) 41)
   have B1:=(B0.below hb1 B0.lt).alloc (.cells (q.vals g) 41)
   have C1:=Blk.new w1 41 (q.vals g)
   generalize (w1.alloc (.cells (q.vals g) 41))=w2 at*
   generalize w1.heap.size=bq at*
   have lB:=B1.lt
   have y1:=cl (B1.cell 1)
   have y2:=cl (B1.cell 2)
   cases n1<;>cases n2<;>cases bz
   all_goals
    go_wp2_with (first
        |(guard_target=~ wpList _ _ _ _ _ _;refine wpList_load_row_g (by rfl) 41 (.tmp 3) rfl bq (by kernel_rfl) _ _ (0,0) _ C1 rfl rfl (by kernel_rfl) ?_)
        |(guard_target=~ wpList _ _ _ _ _ _;refine wpList_load_row_g (by rfl) 41 (.tmp 1) rfl w.heap.size (by kernel_rfl) _ _ (0,0) _ B2 rfl rfl (by kernel_rfl) ?_)
        |((with_reducible refine(hN1 _).mono ?_);rintro e v1 ⟨rfl,rfl⟩)
        |((with_reducible refine(hN2 _).mono ?_);rintro e v1 ⟨rfl,rfl⟩)
        |((with_reducible refine(hZ0 _ hY2).mono ?_);rintro e w3 ⟨rfl,hb3⟩
          have B2:=B1.below hb3 B1.lt
          have hZ:=hY2.trans (hb3.mono hY2.size))
        |((with_reducible refine(hF _ hZ).mono ?_);rintro e w4 ⟨rfl,hb4⟩
          have hU:=hZ.trans (hb4.mono hZ.size)))
    all_goals go_ret
    all_goals refine⟨ret_int ?_,by first|exact hU|exact hZ|exact hY2⟩
    all_goals rw[HV.out]
    all_goals simp_all
end Go.Proofs.YtcalkfgibflbnaaGreat
/- The walk of msgs.walk of a coder that writes, kinds 11 and 13. -/
namespace Go.Proofs.YtcalkfgibflbnaaGreat
set_option maxHeartbeats 8000000
set_option maxRecDepth 100000
set_option linter.unusedVariables false
open Go.RowKit Fl
attribute [local go_sem] run_store_float
theorem Blk.at_ {w:World} {g:Nat} {t:TypeId} {cs:Array Value} (h:Blk w g t cs) (o:Nat) (xs:List Value) (e:(cs.toList.drop o).take xs.length=xs:=by rfl):At w ⟨g,o,none⟩ xs:=fun j u hj=>by
 have e2:(⟨g,o,none⟩:Addr).add j=⟨g,o+j,none⟩:=by unfold Addr.add;split<;>simp_all
 have hlt:=(List.getElem?_eq_some_iff.1 hj).1
 have h3:((cs.toList.drop o).take xs.length)[j]?=some u:=by rw[e];exact hj
 rw[List.getElem?_take_of_lt hlt,List.getElem?_drop,Array.getElem?_toList]at h3
 rw[e2,h.cell,h3]
structure WS (w:World) (B g:Nat) (v:Value) (bs:List UInt8) (gc bx gr:Nat) (m:Mg) (h:Hm):Prop where
 c:CW w B g v bs gc
 kx:Blk w bx 84 #[.pointer (some ⟨gc,0,none⟩)]
 km:Blk w gr 41 (m.vals h)
 ax:Apt w g v bx
 am:Apt w g v gr
 lo:MgLo w B m h
section
variable {w w':World} {B g gc bx gr:Nat} {v v':Value} {bs bs':List UInt8} {m:Mg} {h:Hm}
theorem WS.step (s:WS w B g v bs gc bx gr m h) (hc:CW w' B g v' bs' gc) (hf:Foot w w' g v v'):WS w' B g v' bs' gc bx gr m h:=
 ⟨hc,(hf.heap s.ax).trans s.kx,(hf.heap s.am).trans s.km,hf.apt s.ax,hf.apt s.am,s.lo.below (s.c.lo hf)⟩
theorem WS.below (s:WS w B g v bs gc bx gr m h) (hb:Below w.heap.size w w'):WS w' B g v bs gc bx gr m h:=s.step (s.c.below hb) (Foot.ofBelow g v hb)
theorem WS.start (hc:CW w B g v bs gc) (hp:Apt w g v gr) (hb:Blk w gr 41 (m.vals h)) (lo:MgLo w B m h):WS (w.alloc (.cells #[.pointer (some ⟨gc,0,none⟩)] 84)) B g v bs gc w.heap.size gr m h:=by
 have hX:Below w.heap.size w (w.alloc (.cells #[.pointer (some ⟨gc,0,none⟩)] 84)):=by go_grown
 refine⟨hc.below hX,Blk.new _ _ _,hb.below hX hp.1,⟨by simp,?_,?_⟩,⟨Nat.lt_of_lt_of_le hp.1 hX.size,hp.2⟩,lo.below (hX.mono hc.hB)⟩
 · have:=hc.wr.lt;omega
 · intro e;have:=hc.wr.own_lt _ e.symm;omega
end
def enc13 (m:Mg):List UInt8:=encI 13++(encI m.fr++(encI m.ton))
theorem mwalk_13 (m:Mg) (h:Hm) (w:World) (B g:Nat) (v:Value) (bs:List UInt8) (gc gr:Nat) (hk:m.k=13) (hc:CW w B g v bs gc) (hp:Apt w g v gr) (hb:Blk w gr 41 (m.vals h)) (ok:m.ok) (i:MgLo w B m h)
 (hlen:bs.length+(enc13 m).length+10≤1000000000000):
 Calls Tryz.prog 42 #[.pointer (some ⟨gc,0,none⟩),.pointer (some ⟨gr,0,none⟩)] w (CPost w B g v bs gc (enc13 m)):=by
 unfold enc13 at*
 simp only[List.length_append]at hlen
 obtain⟨k,fr,ton,t,rg,ep,cd,s,pv,cm,n,mx,ks,sn,ws,ps,rs,rc,st⟩:=m
 change k=13 at hk
 subst hk
 dsimp only at hlen
 have S:=WS.start hc hp hb i
 have hX:Below w.heap.size w (w.alloc (.cells #[.pointer (some ⟨gc,0,none⟩)] 84)):=by go_grown
 have F:=Foot.ofBelow g v hX
 clear hc hp hb i hX
 go_enter Tryz.func42,Tryz.ntmps42
 go_upto_region 1 with fail
 generalize (w.alloc (.cells #[.pointer (some ⟨gc,0,none⟩)] 84))=w0 at*
 generalize w.heap.size=bx at*
 have y0:=cl (S.kx.cell 0)
 go_still_tail 4,(by kernel_rfl)
 have D0:Below w0.heap.size w0 w0.drew:=(Below.refl _ _).drew
 replace S:=S.below D0
 go_wp2_with fail
 refine(wcInt 13 _ B g v _ gc ⟨gr,0,none⟩ _ S.c S.am rfl (S.km.at_ 0 [.int .i64 13]) ⟨rfl,by unfold i64ok;omega⟩ (by first|omega|(simp only[List.length_append];omega))).mono ?_
 rintro e w1 ⟨rfl,v1,hc1,hf1⟩
 replace S:=S.step hc1 hf1
 replace F:=(F.trans (Foot.ofBelow g v D0)).trans hf1
 clear y0 D0 hc1 hf1
 have y1:=cl (S.kx.cell 0)
 go_wp2_with fail
 go_still_tail 4,(by kernel_rfl)
 have D1:Below w1.heap.size w1 w1.drew:=(Below.refl _ _).drew
 replace S:=S.below D1
 go_wp2_with fail
 refine(wcInt fr _ B g v1 _ gc ⟨gr,1,none⟩ _ S.c S.am rfl (S.km.at_ 1 [.int .i64 fr]) ⟨rfl,ok.fr⟩ (by first|omega|(simp only[List.length_append];omega))).mono ?_
 rintro e w2 ⟨rfl,v2,hc2,hf2⟩
 replace S:=S.step hc2 hf2
 replace F:=(F.trans (Foot.ofBelow g v1 D1)).trans hf2
 clear y1 D1 hc2 hf2
 have y2:=cl (S.kx.cell 0)
 go_wp2_with fail
 go_still_tail 4,(by kernel_rfl)
 have D2:Below w2.heap.size w2 w2.drew:=(Below.refl _ _).drew
 replace S:=S.below D2
 go_wp2_with fail
 refine(wcInt ton _ B g v2 _ gc ⟨gr,2,none⟩ _ S.c S.am rfl (S.km.at_ 2 [.int .i64 ton]) ⟨rfl,ok.ton⟩ (by first|omega|(simp only[List.length_append];omega))).mono ?_
 rintro e w3 ⟨rfl,v3,hc3,hf3⟩
 replace S:=S.step hc3 hf3
 replace F:=(F.trans (Foot.ofBelow g v2 D2)).trans hf3
 clear y2 D2 hc3 hf3
 have z:=cl (S.km.cell 0)
 go_wp2
 go_end0
 refine⟨rfl,v3,?_,F⟩
 simpa only[List.append_assoc] using S.c
def enc11 (m:Mg):List UInt8:=encI 11++(encI m.fr++(encI m.ton++(encI m.rg)))
theorem mwalk_11 (m:Mg) (h:Hm) (w:World) (B g:Nat) (v:Value) (bs:List UInt8) (gc gr:Nat) (hk:m.k=11) (hc:CW w B g v bs gc) (hp:Apt w g v gr) (hb:Blk w gr 41 (m.vals h)) (ok:m.ok) (i:MgLo w B m h)
 (hlen:bs.length+(enc11 m).length+10≤1000000000000):
 Calls Tryz.prog 42 #[.pointer (some ⟨gc,0,none⟩),.pointer (some ⟨gr,0,none⟩)] w (CPost w B g v bs gc (enc11 m)):=by
 unfold enc11 at*
 simp only[List.length_append]at hlen
 obtain⟨k,fr,ton,t,rg,ep,cd,s,pv,cm,n,mx,ks,sn,ws,ps,rs,rc,st⟩:=m
 change k=11 at hk
 subst hk
 dsimp only at hlen
 have S:=WS.start hc hp hb i
 have hX:Below w.heap.size w (w.alloc (.cells #[.pointer (some ⟨gc,0,none⟩)] 84)):=by go_grown
 have F:=Foot.ofBelow g v hX
 clear hc hp hb i hX
 go_enter Tryz.func42,Tryz.ntmps42
 go_upto_region 1 with fail
 generalize (w.alloc (.cells #[.pointer (some ⟨gc,0,none⟩)] 84))=w0 at*
 generalize w.heap.size=bx at*
 have y0:=cl (S.kx.cell 0)
 go_still_tail 4,(by kernel_rfl)
 have D0:Below w0.heap.size w0 w0.drew:=(Below.refl _ _).drew
 replace S:=S.below D0
 go_wp2_with fail
 refine(wcInt 11 _ B g v _ gc ⟨gr,0,none⟩ _ S.c S.am rfl (S.km.at_ 0 [.int .i64 11]) ⟨rfl,by unfold i64ok;omega⟩ (by first|omega|(simp only[List.length_append];omega))).mono ?_
 rintro e w1 ⟨rfl,v1,hc1,hf1⟩
 replace S:=S.step hc1 hf1
 replace F:=(F.trans (Foot.ofBelow g v D0)).trans hf1
 clear y0 D0 hc1 hf1
 have y1:=cl (S.kx.cell 0)
 go_wp2_with fail
 go_still_tail 4,(by kernel_rfl)
 have D1:Below w1.heap.size w1 w1.drew:=(Below.refl _ _).drew
 replace S:=S.below D1
 go_wp2_with fail
 refine(wcInt fr _ B g v1 _ gc ⟨gr,1,none⟩ _ S.c S.am rfl (S.km.at_ 1 [.int .i64 fr]) ⟨rfl,ok.fr⟩ (by first|omega|(simp only[List.length_append];omega))).mono ?_
 rintro e w2 ⟨rfl,v2,hc2,hf2⟩
 replace S:=S.step hc2 hf2
 replace F:=(F.trans (Foot.ofBelow g v1 D1)).trans hf2
 clear y1 D1 hc2 hf2
 have y2:=cl (S.kx.cell 0)
 go_wp2_with fail
 go_still_tail 4,(by kernel_rfl)
 have D2:Below w2.heap.size w2 w2.drew:=(Below.refl _ _).drew
 replace S:=S.below D2
 go_wp2_with fail
 refine(wcInt ton _ B g v2 _ gc ⟨gr,2,none⟩ _ S.c S.am rfl (S.km.at_ 2 [.int .i64 ton]) ⟨rfl,ok.ton⟩ (by first|omega|(simp only[List.length_append];omega))).mono ?_
 rintro e w3 ⟨rfl,v3,hc3,hf3⟩
 replace S:=S.step hc3 hf3
 replace F:=(F.trans (Foot.ofBelow g v2 D2)).trans hf3
 clear y2 D2 hc3 hf3
 have y3:=cl (S.kx.cell 0)
 have z3:=cl (S.km.cell 0)
 go_wp2_with fail
 go_still_tail 4,(by kernel_rfl)
 have D3:Below w3.heap.size w3 w3.drew:=(Below.refl _ _).drew
 replace S:=S.below D3
 go_wp2_with fail
 refine(wcInt rg _ B g v3 _ gc ⟨gr,6,none⟩ _ S.c S.am rfl (S.km.at_ 6 [.int .i64 rg]) ⟨rfl,ok.rg⟩ (by first|omega|(simp only[List.length_append];omega))).mono ?_
 rintro e w4 ⟨rfl,v4,hc4,hf4⟩
 replace S:=S.step hc4 hf4
 replace F:=(F.trans (Foot.ofBelow g v3 D3)).trans hf4
 clear y3 D3 hc4 hf4 z3
 have z:=cl (S.km.cell 0)
 go_wp2
 go_end0
 refine⟨rfl,v4,?_,F⟩
 simpa only[List.append_assoc] using S.c
end Go.Proofs.YtcalkfgibflbnaaGreat
/- The walk of msgs.Encode, the walk of its coder given. -/
namespace Go.Proofs.YtcalkfgibflbnaaGreat
set_option linter.unusedVariables false
open Go.RowKit Fl
attribute [local go_sem] run_store_float
def mencE (m:Mg) (bs:List UInt8):Int:=if mayM m=0 then (if 4194304<bs.length then 2 else 0) else mayM m
def mencOut (m:Mg) (bs:List UInt8):List UInt8:=if mencE m bs=0 then bs else []
def WalkM (m:Mg) (h:Hm) (bs:List UInt8):Prop:=∀(w:World) (B g:Nat) (v:Value) (gc gr:Nat),CW w B g v [] gc→Apt w g v gr→Blk w gr 41 (m.vals h)→MgLo w B m h→
    Calls Tryz.prog 42 #[.pointer (some ⟨gc,0,none⟩),.pointer (some ⟨gr,0,none⟩)] w (CPost w B g v [] gc bs)
set_option maxRecDepth 100000 in
set_option maxHeartbeats 4000000 in
theorem mencode_of (m:Mg) (h:Hm) (w:World) (bs:List UInt8) (ok:m.ok) (i:MgLo w w.heap.size m h) (sm:MgSm m h) (pl:∀r∈m.rc,RcPl r) (hwk:mayM m=0→WalkM m h bs) (hlen:bs.length+10≤1000000000000):
 Calls Tryz.prog 16 #[.agg (m.vals h)] w (RowE w (mencOut m bs) (mencE m bs)):=by
 have hM:=fun w' (hb:Below w.heap.size w w')=>mayM_any m h w' ok (i.up hb) sm pl
 have hX:Below w.heap.size w (w.alloc (.cells (m.vals h) 41)):=by go_grown
 have B0:Blk (w.alloc (.cells (m.vals h) 41)) w.heap.size 41 (m.vals h):=Blk.new _ _ _
 by_cases hm:mayM m=0
 · have HE:=Lib.hid (show mencE m bs=if 4194304<bs.length then 2 else 0 by unfold mencE;rw[if_pos hm])
   have HO:=Lib.hid (show mencOut m bs=if 4194304<bs.length then [] else bs by unfold mencOut;rw[HE.out];by_cases hq:4194304<bs.length<;>simp[hq])
   have hwk:=hwk hm
   rw[hm]at hM
   clear hm
   go_enter Tryz.func16,Tryz.ntmps16
   go_wp2_with (first
    |(guard_target=~ wpList _ _ _ _ _ _;refine wpList_load_row rfl 41 _ rfl w.heap.size (by kernel_rfl) _ _ (0,0) _ B0 rfl rfl (by kernel_rfl) ?_)
    |((with_reducible refine(hM _ hX).mono ?_);rintro e w1 ⟨rfl,hb1⟩
      have hX1:=hX.trans (hb1.mono hX.size)
      have B1:=B0.below hb1 B0.lt)
    |((with_reducible refine(wnew _).mono ?_);rintro e w2 ⟨rfl,rfl⟩))
   have hW:=Wr.new w1
   have hD:Below (w1.alloc (.cells #[.slice none 0 0] 129)).heap.size (w1.alloc (.cells #[.slice none 0 0] 129)) ((w1.alloc (.cells #[.slice none 0 0] 129)).alloc (.cells #[.pointer (some ⟨w1.heap.size,0,none⟩),.pointer none] 87)):=by go_grown
   have hY1:Below w1.heap.size w1 ((w1.alloc (.cells #[.slice none 0 0] 129)).alloc (.cells #[.pointer (some ⟨w1.heap.size,0,none⟩),.pointer none] 87)):=by go_grown
   have kC:Blk ((w1.alloc (.cells #[.slice none 0 0] 129)).alloc (.cells #[.pointer (some ⟨w1.heap.size,0,none⟩),.pointer none] 87)) (w1.heap.size+1) 87 #[.pointer (some ⟨w1.heap.size,0,none⟩),.pointer none]:=Blk.new' _ _ (by simp)
   have hc:CW ((w1.alloc (.cells #[.slice none 0 0] 129)).alloc (.cells #[.pointer (some ⟨w1.heap.size,0,none⟩),.pointer none] 87)) w1.heap.size w1.heap.size (.slice none 0 0) [] (w1.heap.size+1):=
    ⟨hW.below hD,hY1.size,kC,kC.lt,by omega,by intro e;cases e⟩
   have B2:=B1.below hY1 B1.lt
   have hlo:MgLo w1 w1.heap.size m h:=i.up hX1
   have hl0:w.heap.size<w1.heap.size:=B1.lt
   have HX1:=Lib.hid hX1
   clear hX hX1 hM B0 i sm pl hb1 kC hD hW
   go_wp2_with fail
   refine(hwk _ w1.heap.size w1.heap.size (.slice none 0 0) (w1.heap.size+1) w.heap.size hc (Apt.low hc hl0) B2 (hlo.below hY1)).mono ?_
   rintro e w2 ⟨rfl,v2,hc2,hf2⟩
   rw[List.nil_append]at hc2
   have HZ:=Lib.hid (hY1.trans (hc.lo hf2))
   have hl1:=B2.lt
   clear hc hlo B2 hf2 hY1 hwk
   go_wp2_with ((with_reducible refine(wbytes _ v2 bs w1.heap.size w2 hc2.wr (by omega)).mono ?_);rintro e w3 ⟨A,c,rfl,q1,q2,q3,q4⟩)
   all_goals have hB2:=HX1.out.trans (HZ.out.mono HX1.out.size)
   all_goals have hB3:=hB2.trans (q4.mono hB2.size)
   · have hgt:4194304<bs.length:=by
        have hz:decide (4194304<(bs.length:Int))=true:=by simp;omega
        simp at hz;omega
     go_ret2
     rw[HE.out,HO.out,if_pos hgt,if_pos hgt]
     exact RowE.nil 2 hB3
   · have hgt:¬4194304<bs.length:=by omega
     go_ret2
     rw[HE.out,HO.out,if_neg hgt,if_neg hgt]
     exact⟨A,c,rfl,q1,q2,owns_down q3 hB2.size,hB3⟩
 · have h1:mencE m bs=mayM m:=by unfold mencE;rw[if_neg hm]
   have h2:mencOut m bs=[]:=by unfold mencOut;rw[h1,if_neg hm]
   rw[h1,h2]
   have hb0:(mayM m !=0)=true:=by simp[hm]
   generalize mayM m=mm at*
   clear h1 h2 hm hwk
   go_enter Tryz.func16,Tryz.ntmps16
   go_wp2_with (first
    |(guard_target=~ wpList _ _ _ _ _ _;refine wpList_load_row rfl 41 _ rfl w.heap.size (by kernel_rfl) _ _ (0,0) _ B0 rfl rfl (by kernel_rfl) ?_)
    |((with_reducible refine(hM _ hX).mono ?_);rintro e w1 ⟨rfl,hb1⟩))
   go_ret2
   exact RowE.nil mm (hX.trans (hb1.mono hX.size))
end Go.Proofs.YtcalkfgibflbnaaGreat
/- The walks of a coder that writes: what was seen, lists of it, of ranges, of records. -/
namespace Go.Proofs.YtcalkfgibflbnaaGreat
set_option maxHeartbeats 2000000
set_option maxRecDepth 100000
set_option linter.unusedVariables false
open Go.RowKit Fl
attribute [local go_sem] run_store_float
def encSn (a:Sn):List UInt8:=encKy a.key++(encVl a.v++encSp a.s)
theorem wcSeen:ElemW 134 SnRel 7 encSn:=by
 rintro a w B g v bs gc p _ hc hp-hA ⟨rfl,hk,hv,hs⟩ hlen
 have A0:At w p (keyCells a.key):=hA.sub (a:=[]) (b:=[_]) (c:=[_,_,_,_,_,_])
 have A1:At w ⟨p.block,p.off+1,none⟩ a.v.cells:=hA.sub (a:=[_]) (b:=[_,_,_]) (c:=[_,_,_])
 have A2:At w ⟨p.block,p.off+4,none⟩ [.int .i64 a.s.w,.int .i64 a.s.l,.int .i64 a.s.n]:=hA.sub (a:=[_,_,_,_]) (b:=[_,_,_]) (c:=[])
 have hl:(encSn a).length=(encKy a.key).length+((encVl a.v).length+((encSp a.s).length)):=by unfold encSn;simp only[List.length_append]
 clear hA
 go_enter Tryz.func134,Tryz.ntmps134
 go_wp2_with fail
 refine(wcText _ w B g v bs gc p _ hc hp rfl A0 ⟨rfl,hk⟩ (by omega)).mono ?_
 rintro e w1 ⟨rfl,v1,hc1,hf1⟩
 have hp1:=hf1.apt hp
 replace A1:=hf1.at_ (p:=⟨p.block,p.off+1,none⟩) hp A1
 replace A2:=hf1.at_ (p:=⟨p.block,p.off+4,none⟩) hp A2
 go_wp2_with fail
 refine(wcValue _ w1 B g v1 _ gc ⟨p.block,p.off+1,none⟩ _ hc1 hp1 rfl A1 ⟨rfl,hv⟩ (by simp only[List.length_append];omega)).mono ?_
 rintro e w2 ⟨rfl,v2,hc2,hf2⟩
 have hp2:=hf2.apt hp1
 replace A2:=hf2.at_ (p:=⟨p.block,p.off+4,none⟩) hp1 A2
 go_wp2_with fail
 refine(wcStamp _ w2 B g v2 _ gc ⟨p.block,p.off+4,none⟩ _ hc2 hp2 rfl A2 ⟨rfl,hs⟩ (by simp only[List.length_append];omega)).mono ?_
 rintro e w3 ⟨rfl,v3,hc3,hf3⟩
 go_wp2
 go_end0
 refine⟨rfl,v3,?_,((hf1).trans hf2).trans hf3⟩
 unfold encSn
 simpa only[List.append_assoc] using hc3
theorem wlSeen (l:List Sn) (A:Option Addr) (n c:Nat) (w:World) (B g:Nat) (v:Value) (bs:List UInt8) (gc:Nat) (p:Addr) (hc:CW w B g v bs gc) (hp:Apt w g v p.block) (hA:w.cell? p=some (.slice A n c)) (hcm:n≤maxLen)
 (hS:Sl SnRel 7 w B A n l) (hlen:bs.length+(encLs encSn l).length+10≤1000000000000):
 Calls Tryz.prog 133 #[.pointer (some ⟨gc,0,none⟩),.pointer (some p),.func (.func 134) #[.pointer (some ⟨gc,0,none⟩)] #[]] w (CPost w B g v bs gc (encLs encSn l)):=by
 unfold maxLen at hcm
 have hln:l.length=n:=hS.1
 have hle:l.length≤n:=by omega
 have hge:n≤l.length:=by omega
 have HL:=Lib.hid hlen
 have HN:=Lib.hid hln
 have hlt0:(encLs encSn l).length=(encI (n:Int)).length+(l.flatMap encSn).length:=by unfold encLs;rw[List.length_append,hln]
 have HT:=Lib.hid hlt0
 have h0:bs.length+10≤1000000000000:=by omega
 have hn0:(0:Int)≤(n:Int):=by omega
 clear hlen hln hlt0
 have c0:=hc.blk.cell 0
 simp only[List.getElem?_toArray,List.getElem?_cons_zero]at c0
 go_enter Tryz.func133,Tryz.ntmps133
 go_wp2_with fail
 refine(wint g n v bs B w hc.wr hc.hB (by omega) (by omega) h0).mono ?_
 rintro e w1 ⟨rfl,v1,hw1,hf1⟩
 have hc1:=hc.step hw1 hf1
 have hp1:=hf1.apt hp
 have hS1:=hS.below SnRel.kept (hc.lo hf1)
 have hA1:w1.cell? p=some (.slice A n c):=(World.cell?_of_block (w:=w) (w':=w1) (hf1.heap hp)).trans hA
 clear hc hp hS hA c0 h0 hw1
 have c0:=cl (hc1.blk.cell 0)
 go_wp2_with fail
 go_loopw [39] (fun i wr=>∃(k:Nat) (v2:Value),k≤n∧i=.int .i64 (k:Int)∧CW wr B g v2 (bs++(encI (n:Int)++(l.take k).flatMap encSn)) gc∧Foot w1 wr g v1 v2) (fun i _=>n-(intOf i).toNat)
 case atStart=>exact⟨0,v1,by omega,rfl,by simpa using hc1,Foot.refl _ _ _⟩
 case round=>
  obtain⟨k,v2,hk,rfl,hc2,hf2⟩:=hrel
  have hp2:=hf2.apt hp1
  have hA2:wr.cell? p=some (.slice A n c):=(World.cell?_of_block (w:=w1) (w':=wr) (hf2.heap hp1)).trans hA1
  have d0:=cl (hc2.blk.cell 0)
  by_cases hlt:k<n
  · have hS2:=hS1.below SnRel.kept (hc1.lo hf2)
    obtain⟨ad,cs,a,rfl,ha,hb,hcl,hcs,hr⟩:=hS2.at_ hlt
    have hd1:decide ((k:Int)<(n:Int))=true:=by simp;omega
    have hk0:(0:Int)≤(k:Int):=by omega
    have hk1:(k:Int)<(n:Int):=by omega
    have HX:=Lib.hid (flat_snoc encSn ha)
    have hfl:=flat_take_le encSn l (k+1)
    have hfl2:((l.take k).flatMap encSn).length+(encSn a).length≤(l.flatMap encSn).length:=by rw[HX.out,List.length_append]at hfl;exact hfl
    have hAt:At wr (ad.add (k*7)) cs:=fun j u hj=>by rw[add_of_add];exact hcs j u hj
    have hbk:(ad.add (k*7)).block<B:=by rw[block_of_add];exact hb
    have HK:=Lib.hid hfl2
    clear hfl hfl2 ha hb hcs
    go_wp2_with fail
    refine(wcSeen a wr B g v2 _ gc (ad.add (k*7)) cs hc2 (Apt.low hc2 hbk) hcl hAt hr (by have h1:=HL.out;rw[HT.out]at h1;have h2:=HK.out;simp only[List.length_append];omega)).mono ?_
    rintro e w3 ⟨rfl,v3,hc3,hf3⟩
    go_wp2_with fail
    go_roundw
    case rel=>
        refine⟨k+1,v3,by omega,by go_num,?_,hf2.trans hf3⟩
        rw[HX.out]
        simpa only[List.append_assoc] using hc3
    case measure=>simp[intOf];omega
  · have hd1:decide ((k:Int)<(n:Int))=false:=by simp;omega
    go_wp2_with fail
    go_end0
    refine⟨rfl,v2,?_,hf1.trans hf2⟩
    unfold encLs
    rw[HN.out,←flat_all encSn (k:=k) (by omega)]
    exact hc2
theorem wlRange (l:List Rg) (A:Option Addr) (n c:Nat) (w:World) (B g:Nat) (v:Value) (bs:List UInt8) (gc:Nat) (p:Addr) (hc:CW w B g v bs gc) (hp:Apt w g v p.block) (hA:w.cell? p=some (.slice A n c)) (hcm:n≤maxLen)
 (hS:Sl RgRel 4 w B A n l) (hlen:bs.length+(encLs encRg l).length+10≤1000000000000):
 Calls Tryz.prog 135 #[.pointer (some ⟨gc,0,none⟩),.pointer (some p),.func (.func 136) #[.pointer (some ⟨gc,0,none⟩)] #[]] w (CPost w B g v bs gc (encLs encRg l)):=by
 unfold maxLen at hcm
 have hln:l.length=n:=hS.1
 have hle:l.length≤n:=by omega
 have hge:n≤l.length:=by omega
 have HL:=Lib.hid hlen
 have HN:=Lib.hid hln
 have hlt0:(encLs encRg l).length=(encI (n:Int)).length+(l.flatMap encRg).length:=by unfold encLs;rw[List.length_append,hln]
 have HT:=Lib.hid hlt0
 have h0:bs.length+10≤1000000000000:=by omega
 have hn0:(0:Int)≤(n:Int):=by omega
 clear hlen hln hlt0
 have c0:=hc.blk.cell 0
 simp only[List.getElem?_toArray,List.getElem?_cons_zero]at c0
 go_enter Tryz.func135,Tryz.ntmps135
 go_wp2_with fail
 refine(wint g n v bs B w hc.wr hc.hB (by omega) (by omega) h0).mono ?_
 rintro e w1 ⟨rfl,v1,hw1,hf1⟩
 have hc1:=hc.step hw1 hf1
 have hp1:=hf1.apt hp
 have hS1:=hS.below RgRel.kept (hc.lo hf1)
 have hA1:w1.cell? p=some (.slice A n c):=(World.cell?_of_block (w:=w) (w':=w1) (hf1.heap hp)).trans hA
 clear hc hp hS hA c0 h0 hw1
 have c0:=cl (hc1.blk.cell 0)
 go_wp2_with fail
 go_loopw [39] (fun i wr=>∃(k:Nat) (v2:Value),k≤n∧i=.int .i64 (k:Int)∧CW wr B g v2 (bs++(encI (n:Int)++(l.take k).flatMap encRg)) gc∧Foot w1 wr g v1 v2) (fun i _=>n-(intOf i).toNat)
 case atStart=>exact⟨0,v1,by omega,rfl,by simpa using hc1,Foot.refl _ _ _⟩
 case round=>
  obtain⟨k,v2,hk,rfl,hc2,hf2⟩:=hrel
  have hp2:=hf2.apt hp1
  have hA2:wr.cell? p=some (.slice A n c):=(World.cell?_of_block (w:=w1) (w':=wr) (hf2.heap hp1)).trans hA1
  have d0:=cl (hc2.blk.cell 0)
  by_cases hlt:k<n
  · have hS2:=hS1.below RgRel.kept (hc1.lo hf2)
    obtain⟨ad,cs,a,rfl,ha,hb,hcl,hcs,hr⟩:=hS2.at_ hlt
    have hd1:decide ((k:Int)<(n:Int))=true:=by simp;omega
    have hk0:(0:Int)≤(k:Int):=by omega
    have hk1:(k:Int)<(n:Int):=by omega
    have HX:=Lib.hid (flat_snoc encRg ha)
    have hfl:=flat_take_le encRg l (k+1)
    have hfl2:((l.take k).flatMap encRg).length+(encRg a).length≤(l.flatMap encRg).length:=by rw[HX.out,List.length_append]at hfl;exact hfl
    have hAt:At wr (ad.add (k*4)) cs:=fun j u hj=>by rw[add_of_add];exact hcs j u hj
    have hbk:(ad.add (k*4)).block<B:=by rw[block_of_add];exact hb
    have HK:=Lib.hid hfl2
    clear hfl hfl2 ha hb hcs
    go_wp2_with fail
    refine(wcRange a wr B g v2 _ gc (ad.add (k*4)) cs hc2 (Apt.low hc2 hbk) hcl hAt hr (by have h1:=HL.out;rw[HT.out]at h1;have h2:=HK.out;simp only[List.length_append];omega)).mono ?_
    rintro e w3 ⟨rfl,v3,hc3,hf3⟩
    go_wp2_with fail
    go_roundw
    case rel=>
        refine⟨k+1,v3,by omega,by go_num,?_,hf2.trans hf3⟩
        rw[HX.out]
        simpa only[List.append_assoc] using hc3
    case measure=>simp[intOf];omega
  · have hd1:decide ((k:Int)<(n:Int))=false:=by simp;omega
    go_wp2_with fail
    go_end0
    refine⟨rfl,v2,?_,hf1.trans hf2⟩
    unfold encLs
    rw[HN.out,←flat_all encRg (k:=k) (by omega)]
    exact hc2
def encRm (r:Rc):List UInt8:=encT (encOut r)
theorem wcRecord (r:Rc) (h:Hds) (w:World) (B g:Nat) (v:Value) (bs:List UInt8) (gc b o:Nat) (hc:CW w B g v bs gc) (hr:w.rangeAt b o (r.vals h).toList) (ok:r.ok) (cp:h.caps) (i:RcLo w B r h) (pl:RcPl r) (hlen:bs.length+(encRm r).length+10≤1000000000000):
 Calls Tryz.prog 87 #[.pointer (some ⟨gc,0,none⟩),.pointer (some ⟨b,o,none⟩)] w (CPost w B g v bs gc (encRm r)):=by
 have c0:=cl (hc.blk.cell 0)
 have i2:RcLo w w.heap.size r h:=i.more hc.hB
 have hE:=encode_any r h w ok i2.into cp (pl.sm i2) (by have:=pl.e;omega)
 have hol:(encOut r).length≤2000000:=by
  have:=pl.e
  unfold encOut
  split
  · exact this
  · exact Nat.zero_le _
 clear i i2 pl
 go_enter Tryz.func87,Tryz.ntmps87
 go_wp2_with (guard_target=~ wpList _ _ _ _ _ _;refine wpList_load_mid rfl 69 _ rfl b o (by kernel_rfl) (r.vals h).toList _ hr rfl rfl (by kernel_rfl) ?_)
 refine hE.mono ?_
 rintro e w1 ⟨A1,c1,rfl,q1,m1,o1,hb1⟩
 have hR:Reads w1 w1.heap.size 1 A1 (encOut r).length (bytesV (encOut r)):=Reads.of_own o1
 have hc1:=hc.below hb1
 have F1:=Foot.ofBelow g v hb1
 have hX:Below w1.heap.size w1 (w1.alloc (.cells #[.string ⟨(encOut r).toArray⟩] 9)):=by go_grown
 have hc2:=hc1.below hX
 have F2:=F1.trans (Foot.ofBelow g v hX)
 have bS:Blk (w1.alloc (.cells #[.string ⟨(encOut r).toArray⟩] 9)) w1.heap.size 9 #[.string ⟨(encOut r).toArray⟩]:=Blk.new _ _ _
 have hcv:=run_conv_reads (P:=Tryz.prog) w1 49 9 5 Tryz.underlying49 Tryz.underlying5 Tryz.underlying9 (c:=c1) hR
 have hap:Apt (w1.alloc (.cells #[.string ⟨(encOut r).toArray⟩] 9)) g v w1.heap.size:=⟨by simp,by have:=hc1.wr.lt;omega,fun e=>by have:=hc1.wr.own_lt _ e.symm;omega⟩
 clear hE hr hR o1
 go_wp2_with fail
 refine(wcText ⟨(encOut r).toArray⟩ _ B g v bs gc ⟨w1.heap.size,0,none⟩ _ hc2 hap rfl (bS.at_ 0 [.string ⟨(encOut r).toArray⟩]) ⟨rfl,by show (encOut r).toArray.size≤_;simp;omega⟩ hlen).mono ?_
 rintro e w2 ⟨rfl,v2,hc3,hf3⟩
 go_wp2
 go_end0
 exact⟨rfl,v2,hc3,F2.trans hf3⟩
theorem wcRec (r:Rc) (h:Hds) (w:World) (B g:Nat) (v:Value) (bs:List UInt8) (gc bx b o:Nat) (hc:CW w B g v bs gc) (kx:Blk w bx 84 #[.pointer (some ⟨gc,0,none⟩)]) (hr:w.rangeAt b o (r.vals h).toList) (ok:r.ok) (cp:h.caps) (i:RcLo w B r h) (pl:RcPl r) (hlen:bs.length+(encRm r).length+10≤1000000000000):
 Calls Tryz.prog 86 #[.pointer (some ⟨b,o,none⟩),.pointer (some ⟨bx,0,none⟩)] w (CPost w B g v bs gc (encRm r)):=by
 have y0:=cl (kx.cell 0)
 go_enter Tryz.func86,Tryz.ntmps86
 go_wp2_with fail
 refine(wcRecord r h w B g v bs gc b o hc hr ok cp i pl hlen).mono ?_
 rintro e w1 ⟨rfl,v1,hc1,hf1⟩
 go_wp2
 go_end0
 exact⟨rfl,v1,hc1,hf1⟩
theorem wlRec (l:List Rc) (A:Option Addr) (n c:Nat) (w:World) (B g:Nat) (v:Value) (bs:List UInt8) (gc bx:Nat) (p:Addr) (hpl:∀r∈l,RcPl r) (kx:Blk w bx 84 #[.pointer (some ⟨gc,0,none⟩)]) (ax:Apt w g v bx) (hc:CW w B g v bs gc) (hp:Apt w g v p.block) (hA:w.cell? p=some (.slice A n c)) (hcm:n≤maxLen)
 (hS:Sl RmRel 29 w B A n l) (hlen:bs.length+(encLs encRm l).length+10≤1000000000000):
 Calls Tryz.prog 85 #[.pointer (some ⟨gc,0,none⟩),.pointer (some p),.func (.func 86) #[] #[.pointer (some ⟨bx,0,none⟩)]] w (CPost w B g v bs gc (encLs encRm l)):=by
 unfold maxLen at hcm
 have hln:l.length=n:=hS.1
 have hle:l.length≤n:=by omega
 have hge:n≤l.length:=by omega
 have HL:=Lib.hid hlen
 have HP:=Lib.hid hpl
 clear hpl
 have HN:=Lib.hid hln
 have hlt0:(encLs encRm l).length=(encI (n:Int)).length+(l.flatMap encRm).length:=by unfold encLs;rw[List.length_append,hln]
 have HT:=Lib.hid hlt0
 have h0:bs.length+10≤1000000000000:=by omega
 have hn0:(0:Int)≤(n:Int):=by omega
 clear hlen hln hlt0
 have c0:=hc.blk.cell 0
 simp only[List.getElem?_toArray,List.getElem?_cons_zero]at c0
 go_enter Tryz.func85,Tryz.ntmps85
 go_wp2_with fail
 refine(wint g n v bs B w hc.wr hc.hB (by omega) (by omega) h0).mono ?_
 rintro e w1 ⟨rfl,v1,hw1,hf1⟩
 have hc1:=hc.step hw1 hf1
 have hp1:=hf1.apt hp
 have kx1:Blk w1 bx 84 _:=(hf1.heap ax).trans kx
 have ax1:=hf1.apt ax
 have hS1:=hS.below RmRel.kept (hc.lo hf1)
 have hA1:w1.cell? p=some (.slice A n c):=(World.cell?_of_block (w:=w) (w':=w1) (hf1.heap hp)).trans hA
 clear hc hp hS hA c0 h0 hw1 kx ax
 have c0:=cl (hc1.blk.cell 0)
 go_wp2_with fail
 go_loopw [39] (fun i wr=>∃(k:Nat) (v2:Value),k≤n∧i=.int .i64 (k:Int)∧CW wr B g v2 (bs++(encI (n:Int)++(l.take k).flatMap encRm)) gc∧Foot w1 wr g v1 v2) (fun i _=>n-(intOf i).toNat)
 case atStart=>exact⟨0,v1,by omega,rfl,by simpa using hc1,Foot.refl _ _ _⟩
 case round=>
  obtain⟨k,v2,hk,rfl,hc2,hf2⟩:=hrel
  have hp2:=hf2.apt hp1
  have hA2:wr.cell? p=some (.slice A n c):=(World.cell?_of_block (w:=w1) (w':=wr) (hf2.heap hp1)).trans hA1
  have d0:=cl (hc2.blk.cell 0)
  by_cases hlt:k<n
  · have hS2:=hS1.below RmRel.kept (hc1.lo hf2)
    have kx2:Blk wr bx 84 _:=(hf2.heap ax1).trans kx1
    obtain⟨ad,a,h9,b,o,rfl,ha,hq,hb,hrg,ok,cp,lo⟩:=hS2.rm2 hlt
    have pl:=HP.out a (List.mem_of_getElem? ha)
    have hd1:decide ((k:Int)<(n:Int))=true:=by simp;omega
    have hk0:(0:Int)≤(k:Int):=by omega
    have hk1:(k:Int)<(n:Int):=by omega
    have HX:=Lib.hid (flat_snoc encRm ha)
    have hfl:=flat_take_le encRm l (k+1)
    have hfl2:((l.take k).flatMap encRm).length+(encRm a).length≤(l.flatMap encRm).length:=by rw[HX.out,List.length_append]at hfl;exact hfl
    have HK:=Lib.hid hfl2
    clear hfl hfl2 ha hb
    go_wp2_with fail
    refine(wcRec a h9 wr B g v2 _ gc bx b o hc2 kx2 hrg ok cp lo pl (by have h1:=HL.out;rw[HT.out]at h1;have h2:=HK.out;simp only[List.length_append];omega)).mono ?_
    rintro e w3 ⟨rfl,v3,hc3,hf3⟩
    go_wp2_with fail
    go_roundw
    case rel=>
        refine⟨k+1,v3,by omega,by go_num,?_,hf2.trans hf3⟩
        rw[HX.out]
        simpa only[List.append_assoc] using hc3
    case measure=>simp[intOf];omega
  · have hd1:decide ((k:Int)<(n:Int))=false:=by simp;omega
    go_wp2_with fail
    go_end0
    refine⟨rfl,v2,?_,hf1.trans hf2⟩
    unfold encLs
    rw[HN.out,←flat_all encRm (k:=k) (by omega)]
    exact hc2
end Go.Proofs.YtcalkfgibflbnaaGreat
