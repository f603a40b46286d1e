/- The walk of msgs' fields. -/
import Derived.Test.YtcalkfgibflbnaaGreatBacg
namespace Go.Proofs.YtcalkfgibflbnaaGreat
set_option maxHeartbeats 8000000
set_option maxRecDepth 100000
set_option linter.unusedVariables false
open Go.RowKit Fl
attribute [local go_sem] dJ
theorem afJ (m:Mg) (h:Hm) (w:World) (hk:m.k=8) (ok:m.ok) (i:bH w w.heap.size m h) (sm:iV m h):
 Calls Tryz.prog 30 #[.agg (m.vals h)] w fun e w'=>e=.returned (.bool (bY m.rg&&decide (1<=m.n)&&decide (0<=m.mx)&&decide (m.mx<=8)&&m.s.may))/\Below w.heap.size w w':=by
 obtain⟨k,fr,aG,t,rg,ep,cd,s,pv,cm,n,mx,ks,sn,ws,ps,rs,rc,st⟩:=m;change k=8 at hk;subst hk
 try dsimp only
 have hR:=fun w' (hb:Below w.heap.size w w')=>vS rg w'
 have hM:=fun w' (hb:Below w.heap.size w w')=>vV s w'
 obtain⟨W0,hW0⟩:∃W0,W0=w.alloc (.cells ((⟨8,fr,aG,t,rg,ep,cd,s,pv,cm,n,mx,ks,sn,ws,ps,rs,rc,st⟩:Mg).vals h) 41):=⟨_,rfl⟩;have hX:Below w.heap.size w W0:=by rw[hW0];go_grown
 have bM:aj W0 w.heap.size 41 ((⟨8,fr,aG,t,rg,ep,cd,s,pv,cm,n,mx,ks,sn,ws,ps,rs,rc,st⟩:Mg).vals h):=by rw[hW0];exact aj.new _ _ _
 have HW:=au hW0;clear ok i sm hW0;generalize bY rg=g0 at*;generalize s.may=g1 at*;go_enter Tryz.func30,Tryz.ntmps30;go_upto_region 1 with fail;rw[<-HW.out];clear HW;have x0:=cl (bM.cell 0);have x6:=cl (bM.cell 6);have x9:=cl (bM.cell 9);have x10:=cl (bM.cell 10);have x11:=cl (bM.cell 11);have x16:=cl (bM.cell 16);have x17:=cl (bM.cell 17);have lM:=bM.lt;go_wp2_with (first
  |((with_reducible refine(hR _ hX).mono ?_);rintro e zH ⟨rfl,rfl⟩)
  |((with_reducible refine(hM _ hX).mono ?_);rintro e Gy ⟨rfl,qR⟩
    have tN:=hX.trans (qR.mono hX.size);have dI:=bM.below qR bM.lt;have x0:=cl (dI.cell 0);have x6:=cl (dI.cell 6);have x9:=cl (dI.cell 9);have x10:=cl (dI.cell 10);have x11:=cl (dI.cell 11);have x16:=cl (dI.cell 16);have x17:=cl (dI.cell 17);have lM:=dI.lt))
 all_goals go_ret
 all_goals refine⟨aZ ?_,by first|exact tN|exact hX⟩
 all_goals first|rfl|(simp_all;done)|(simp_all;omega)
theorem afK (m:Mg) (h:Hm) (w:World) (hk:m.k=10) (ok:m.ok) (i:bH w w.heap.size m h) (sm:iV m h):
 Calls Tryz.prog 30 #[.agg (m.vals h)] w fun e w'=>e=.returned (.bool (bY m.rg&&dV m.st&&(m.st.r.id==m.rg)))/\Below w.heap.size w w':=by
 obtain⟨k,fr,aG,t,rg,ep,cd,s,pv,cm,n,mx,ks,sn,ws,ps,rs,rc,st⟩:=m;change k=10 at hk;subst hk
 try dsimp only
 have hR:=fun w' (hb:Below w.heap.size w w')=>vS rg w'
 have hS:=fun w' (hb:Below w.heap.size w w')=>Qp st h.g.A h.i.A h.g.n h.i.n h.g.c h.i.c w' ok.sr (i.up hb).hs (i.up hb).pn sm.hs sm.pn
 obtain⟨W0,hW0⟩:∃W0,W0=w.alloc (.cells ((⟨10,fr,aG,t,rg,ep,cd,s,pv,cm,n,mx,ks,sn,ws,ps,rs,rc,st⟩:Mg).vals h) 41):=⟨_,rfl⟩;have hX:Below w.heap.size w W0:=by rw[hW0];go_grown
 have bM:aj W0 w.heap.size 41 ((⟨10,fr,aG,t,rg,ep,cd,s,pv,cm,n,mx,ks,sn,ws,ps,rs,rc,st⟩:Mg).vals h):=by rw[hW0];exact aj.new _ _ _
 have HW:=au hW0;clear ok i sm hW0;generalize bY rg=g0 at*;generalize dV st=g1 at*;go_enter Tryz.func30,Tryz.ntmps30;go_upto_region 1 with fail;rw[<-HW.out];clear HW;have x0:=cl (bM.cell 0);have x6:=cl (bM.cell 6);have x24:=cl (bM.cell 24);have x25:=cl (bM.cell 25);have VD:=cl (bM.cell 26);have x27:=cl (bM.cell 27);have x28:=cl (bM.cell 28);have x29:=cl (bM.cell 29);have Dy:=cl (bM.cell 30);have x31:=cl (bM.cell 31);have x32:=cl (bM.cell 32);have Dz:=cl (bM.cell 33);have x34:=cl (bM.cell 34);have DC:=cl (bM.cell 35);have lM:=bM.lt;go_wp2_with (first
  |((with_reducible refine(hR _ hX).mono ?_);rintro e zH ⟨rfl,rfl⟩)
  |((with_reducible refine(hS _ hX).mono ?_);rintro e whS ⟨rfl,Gz⟩
    have Es:=hX.trans (Gz.mono hX.size);have jZ:=bM.below Gz bM.lt;have x0:=cl (jZ.cell 0);have x6:=cl (jZ.cell 6);have x24:=cl (jZ.cell 24);have x25:=cl (jZ.cell 25);have VD:=cl (jZ.cell 26);have x27:=cl (jZ.cell 27);have x28:=cl (jZ.cell 28);have x29:=cl (jZ.cell 29);have Dy:=cl (jZ.cell 30);have x31:=cl (jZ.cell 31);have x32:=cl (jZ.cell 32);have Dz:=cl (jZ.cell 33);have x34:=cl (jZ.cell 34);have DC:=cl (jZ.cell 35);have lM:=jZ.lt))
 all_goals go_ret
 all_goals refine⟨aZ ?_,by first|exact Es|exact hX⟩
 all_goals first|rfl|(simp_all;done)|(simp_all;omega)
theorem afL (m:Mg) (h:Hm) (w:World) (hk:m.k=11) (ok:m.ok) (i:bH w w.heap.size m h) (sm:iV m h):
 Calls Tryz.prog 30 #[.agg (m.vals h)] w fun e w'=>e=.returned (.bool (bY m.rg))/\Below w.heap.size w w':=by
 obtain⟨k,fr,aG,t,rg,ep,cd,s,pv,cm,n,mx,ks,sn,ws,ps,rs,rc,st⟩:=m;change k=11 at hk;subst hk
 try dsimp only
 have hR:=fun w' (hb:Below w.heap.size w w')=>vS rg w'
 obtain⟨W0,hW0⟩:∃W0,W0=w.alloc (.cells ((⟨11,fr,aG,t,rg,ep,cd,s,pv,cm,n,mx,ks,sn,ws,ps,rs,rc,st⟩:Mg).vals h) 41):=⟨_,rfl⟩;have hX:Below w.heap.size w W0:=by rw[hW0];go_grown
 have bM:aj W0 w.heap.size 41 ((⟨11,fr,aG,t,rg,ep,cd,s,pv,cm,n,mx,ks,sn,ws,ps,rs,rc,st⟩:Mg).vals h):=by rw[hW0];exact aj.new _ _ _
 have HW:=au hW0;clear ok i sm hW0;generalize bY rg=g0 at*;go_enter Tryz.func30,Tryz.ntmps30;go_upto_region 1 with fail;rw[<-HW.out];clear HW;have x0:=cl (bM.cell 0);have x6:=cl (bM.cell 6);have lM:=bM.lt;go_wp2_with (first
  |((with_reducible refine(hR _ hX).mono ?_);rintro e zH ⟨rfl,rfl⟩))
 all_goals go_ret
 all_goals refine⟨aZ ?_,by first|exact hX⟩
 all_goals first|rfl|(simp_all;done)|(simp_all;omega)
theorem afM (m:Mg) (h:Hm) (w:World) (hk:m.k=12) (ok:m.ok) (i:bH w w.heap.size m h) (sm:iV m h):
 Calls Tryz.prog 30 #[.agg (m.vals h)] w fun e w'=>e=.returned (.bool (qp m.pv m.s m.t m.ws))/\Below w.heap.size w w':=by
 obtain⟨k,fr,aG,t,rg,ep,cd,s,pv,cm,n,mx,ks,sn,ws,ps,rs,rc,st⟩:=m;change k=12 at hk;subst hk
 try dsimp only
 have hA:=fun w' (hb:Below w.heap.size w w')=>Uh pv s t h.c.A h.c.n h.c.c ws w' (i.up hb).ws sm.c
 obtain⟨W0,hW0⟩:∃W0,W0=w.alloc (.cells ((⟨12,fr,aG,t,rg,ep,cd,s,pv,cm,n,mx,ks,sn,ws,ps,rs,rc,st⟩:Mg).vals h) 41):=⟨_,rfl⟩;have hX:Below w.heap.size w W0:=by rw[hW0];go_grown
 have bM:aj W0 w.heap.size 41 ((⟨12,fr,aG,t,rg,ep,cd,s,pv,cm,n,mx,ks,sn,ws,ps,rs,rc,st⟩:Mg).vals h):=by rw[hW0];exact aj.new _ _ _
 have HW:=au hW0;clear ok i sm hW0;generalize qp pv s t ws=g0 at*;go_enter Tryz.func30,Tryz.ntmps30;go_upto_region 1 with fail;rw[<-HW.out];clear HW;have x0:=cl (bM.cell 0);have x3:=cl (bM.cell 3);have x4:=cl (bM.cell 4);have x5:=cl (bM.cell 5);have x9:=cl (bM.cell 9);have x10:=cl (bM.cell 10);have x11:=cl (bM.cell 11);have x12:=cl (bM.cell 12);have VE:=cl (bM.cell 13);have x14:=cl (bM.cell 14);have yw:=cl (bM.cell 20);have lM:=bM.lt;go_wp2_with (first
  |((with_reducible refine(hA _ hX).mono ?_);rintro e whA ⟨rfl,VF⟩
    have XhA:=hX.trans (VF.mono hX.size);have wE:=bM.below VF bM.lt;have x0:=cl (wE.cell 0);have x3:=cl (wE.cell 3);have x4:=cl (wE.cell 4);have x5:=cl (wE.cell 5);have x9:=cl (wE.cell 9);have x10:=cl (wE.cell 10);have x11:=cl (wE.cell 11);have x12:=cl (wE.cell 12);have VE:=cl (wE.cell 13);have x14:=cl (wE.cell 14);have yw:=cl (wE.cell 20);have lM:=wE.lt))
 all_goals go_ret
 all_goals refine⟨aZ ?_,by first|exact XhA|exact hX⟩
 all_goals first|rfl|(simp_all;done)|(simp_all;omega)
theorem afN (m:Mg) (h:Hm) (w:World) (hk:m.k=13) (ok:m.ok) (i:bH w w.heap.size m h) (sm:iV m h):
 Calls Tryz.prog 30 #[.agg (m.vals h)] w fun e w'=>e=.returned (.bool true)/\Below w.heap.size w w':=by
 obtain⟨k,fr,aG,t,rg,ep,cd,s,pv,cm,n,mx,ks,sn,ws,ps,rs,rc,st⟩:=m;change k=13 at hk;subst hk
 try dsimp only
 obtain⟨W0,hW0⟩:∃W0,W0=w.alloc (.cells ((⟨13,fr,aG,t,rg,ep,cd,s,pv,cm,n,mx,ks,sn,ws,ps,rs,rc,st⟩:Mg).vals h) 41):=⟨_,rfl⟩;have hX:Below w.heap.size w W0:=by rw[hW0];go_grown
 have bM:aj W0 w.heap.size 41 ((⟨13,fr,aG,t,rg,ep,cd,s,pv,cm,n,mx,ks,sn,ws,ps,rs,rc,st⟩:Mg).vals h):=by rw[hW0];exact aj.new _ _ _
 have HW:=au hW0;clear ok i sm hW0;go_enter Tryz.func30,Tryz.ntmps30;go_upto_region 1 with fail;rw[<-HW.out];clear HW;have x0:=cl (bM.cell 0);have lM:=bM.lt;go_wp2;all_goals go_ret
 all_goals refine⟨aZ ?_,by first|exact hX⟩
 all_goals first|rfl|(simp_all;done)|(simp_all;omega)
theorem afO (m:Mg) (h:Hm) (w:World) (hk:m.k=14) (ok:m.ok) (i:bH w w.heap.size m h) (sm:iV m h):
 Calls Tryz.prog 30 #[.agg (m.vals h)] w fun e w'=>e=.returned (.bool m.s.may)/\Below w.heap.size w w':=by
 obtain⟨k,fr,aG,t,rg,ep,cd,s,pv,cm,n,mx,ks,sn,ws,ps,rs,rc,st⟩:=m;change k=14 at hk;subst hk
 try dsimp only
 have hM:=fun w' (hb:Below w.heap.size w w')=>vV s w'
 obtain⟨W0,hW0⟩:∃W0,W0=w.alloc (.cells ((⟨14,fr,aG,t,rg,ep,cd,s,pv,cm,n,mx,ks,sn,ws,ps,rs,rc,st⟩:Mg).vals h) 41):=⟨_,rfl⟩;have hX:Below w.heap.size w W0:=by rw[hW0];go_grown
 have bM:aj W0 w.heap.size 41 ((⟨14,fr,aG,t,rg,ep,cd,s,pv,cm,n,mx,ks,sn,ws,ps,rs,rc,st⟩:Mg).vals h):=by rw[hW0];exact aj.new _ _ _
 have HW:=au hW0;clear ok i sm hW0;generalize s.may=g0 at*;go_enter Tryz.func30,Tryz.ntmps30;go_upto_region 1 with fail;rw[<-HW.out];clear HW;have x0:=cl (bM.cell 0);have x9:=cl (bM.cell 9);have x10:=cl (bM.cell 10);have x11:=cl (bM.cell 11);have lM:=bM.lt;go_wp2_with (first
  |((with_reducible refine(hM _ hX).mono ?_);rintro e Gy ⟨rfl,qR⟩
    have tN:=hX.trans (qR.mono hX.size);have dI:=bM.below qR bM.lt;have x0:=cl (dI.cell 0);have x9:=cl (dI.cell 9);have x10:=cl (dI.cell 10);have x11:=cl (dI.cell 11);have lM:=dI.lt))
 all_goals go_ret
 all_goals refine⟨aZ ?_,by first|exact tN|exact hX⟩
 all_goals first|rfl|(simp_all;done)|(simp_all;omega)
def oN (m:Mg):Bool:=
 if m.k=1 then (decide (0<=m.ep)&&m.s.may&&cu m.ks&&decide (0<m.ks.length)) else
 if m.k=2 then (lV m.cd (iJ m.sn&&decide (0<m.sn.length)) m.rs&&m.s.may&&(m.cd==0||decide (m.sn.length=0))) else
 if m.k=3 then (decide (0<=m.ep)&&m.s.may&&iJ m.sn&&um m.ws&&dQ m.ps&&rG m.rg m.ps) else
 if m.k=4 then (lV m.cd true m.rs&&m.s.may) else
 if m.k=5 then (if m.cm=true then m.s.may&& !m.s.zero else m.s.zero) else
 true
theorem afP (m:Mg) (h:Hm) (w:World) (hk:1<=m.k/\m.k<=7) (i:bH w w.heap.size m h) (sm:iV m h):
 Calls Tryz.prog 59 #[.agg (m.vals h)] w fun e w'=>e=.returned (.bool (m.t.may&&bY m.rg&&oN m))/\Below w.heap.size w w':=by
 have hc:m.k=1∨m.k=2∨m.k=3∨m.k=4∨m.k=5∨m.k=6∨m.k=7:=byOmega;rcases hc with e|e|e|e|e|e|e
 · have e1:oN m=(decide (0<=m.ep)&&m.s.may&&cu m.ks&&decide (0<m.ks.length)):=(by unfold oN;simp[e]);rw[e1,i.ks.1];exact afd m h w e i sm
 · have e1:oN m=(lV m.cd (iJ m.sn&&decide (0<m.sn.length)) m.rs&&m.s.may&&(m.cd==0||decide (m.sn.length=0))):=(by unfold oN;simp[e]);rw[e1,i.sn.1];exact afj m h w e i sm
 · have e1:oN m=(decide (0<=m.ep)&&m.s.may&&iJ m.sn&&um m.ws&&dQ m.ps&&rG m.rg m.ps):=(by unfold oN;simp[e]);rw[e1];exact afe m h w e i sm
 · have e1:oN m=(lV m.cd true m.rs&&m.s.may):=(by unfold oN;simp[e]);rw[e1];exact aff m h w e i sm
 · have e1:oN m=(if m.cm=true then m.s.may&& !m.s.zero else m.s.zero):=(by unfold oN;simp[e]);rw[e1];exact afg m h w e i sm
 · have e1:oN m=true:=(by unfold oN;simp[e]);rw[e1];exact afh m h w e i sm
 · have e1:oN m=true:=(by unfold oN;simp[e]);rw[e1];exact afi m h w e i sm
set_option maxRecDepth 100000 in
set_option maxHeartbeats 16000000 in
theorem afQ (m:Mg) (h:Hm) (w:World) (hk:1<=m.k/\m.k<=7) (i:bH w w.heap.size m h) (sm:iV m h):
 Calls Tryz.prog 30 #[.agg (m.vals h)] w fun e w'=>e=.returned (.bool (m.t.may&&bY m.rg&&oN m))/\Below w.heap.size w w':=by
 have hD:=fun w' (hb:Below w.heap.size w w')=>afP m h w' hk (i.up hb) sm
 have hc:m.k=1∨m.k=2∨m.k=3∨m.k=4∨m.k=5∨m.k=6∨m.k=7:=byOmega;clear hk i sm;generalize (m.t.may&&bY m.rg&&oN m)=g0 at*;obtain⟨k,fr,aG,t,rg,ep,cd,s,pv,cm,n,mx,ks,sn,ws,ps,rs,rc,st⟩:=m;obtain⟨W0,hW0⟩:∃W0,W0=w.alloc (.cells ((⟨k,fr,aG,t,rg,ep,cd,s,pv,cm,n,mx,ks,sn,ws,ps,rs,rc,st⟩:Mg).vals h) 41):=⟨_,rfl⟩;have hX:Below w.heap.size w W0:=by rw[hW0];go_grown
 have bM:aj W0 w.heap.size 41 ((⟨k,fr,aG,t,rg,ep,cd,s,pv,cm,n,mx,ks,sn,ws,ps,rs,rc,st⟩:Mg).vals h):=by rw[hW0];exact aj.new _ _ _
 have HW:=au hW0;have x0:=cl (bM.cell 0);have lM:=bM.lt;clear hW0;change k=1∨k=2∨k=3∨k=4∨k=5∨k=6∨k=7 at hc;rcases hc with rfl|rfl|rfl|rfl|rfl|rfl|rfl
 all_goals
  go_enter Tryz.func30,Tryz.ntmps30;go_upto_region 1 with fail;rw[<-HW.out];clear HW;go_wp2_with (first
   |(guard_target=~ wpList _ _ _ _ _ _;refine wpList_load_row rfl 41 _ rfl w.heap.size ah _ _ (0,0) _ bM rfl rfl ah ?_)
   |((with_reducible refine(hD _ hX).mono ?_);rintro e w1 ⟨rfl,hb1⟩))
  go_ret;exact⟨rfl,hX.trans (hb1.mono hX.size)⟩
theorem afR (m:Mg) (h:Hm) (w:World) (hk:m.k=9) (ok:m.ok) (i:bH w w.heap.size m h) (sm:iV m h) (pl:∀r∈m.rc,jo r):
 Calls Tryz.prog 30 #[.agg (m.vals h)] w fun e w'=>e=.returned (.bool (bY m.rg&&decide (1<=m.n)&&uF m.rc))/\Below w.heap.size w w':=by
 obtain⟨k,fr,aG,t,rg,ep,cd,s,pv,cm,n,mx,ks,sn,ws,ps,rs,rc,st⟩:=m;change k=9 at hk;subst hk
 try dsimp only
 have hR:=fun w' (hb:Below w.heap.size w w')=>vS rg w'
 have hB:=fun w' (hb:Below w.heap.size w w')=>afA h.f.A h.f.n h.f.c rc w' (i.up hb).rc sm.f pl
 obtain⟨W0,hW0⟩:∃W0,W0=w.alloc (.cells ((⟨9,fr,aG,t,rg,ep,cd,s,pv,cm,n,mx,ks,sn,ws,ps,rs,rc,st⟩:Mg).vals h) 41):=⟨_,rfl⟩;have hX:Below w.heap.size w W0:=by rw[hW0];go_grown
 have bM:aj W0 w.heap.size 41 ((⟨9,fr,aG,t,rg,ep,cd,s,pv,cm,n,mx,ks,sn,ws,ps,rs,rc,st⟩:Mg).vals h):=by rw[hW0];exact aj.new _ _ _
 have HW:=au hW0;clear ok i sm pl hW0;generalize bY rg=g0 at*;generalize uF rc=g1 at*;go_enter Tryz.func30,Tryz.ntmps30;go_upto_region 1 with fail;rw[<-HW.out];clear HW;have x0:=cl (bM.cell 0);have x6:=cl (bM.cell 6);have x16:=cl (bM.cell 16);have x23:=cl (bM.cell 23);have lM:=bM.lt;go_wp2_with (first
  |((with_reducible refine(hR _ hX).mono ?_);rintro e zH ⟨rfl,rfl⟩)
  |((with_reducible refine(hB _ hX).mono ?_);rintro e whB ⟨rfl,VG⟩
    have XhB:=hX.trans (VG.mono hX.size);have GZ:=bM.below VG bM.lt;have x0:=cl (GZ.cell 0);have x6:=cl (GZ.cell 6);have x16:=cl (GZ.cell 16);have x23:=cl (GZ.cell 23);have lM:=GZ.lt))
 all_goals go_ret
 all_goals refine⟨aZ ?_,by first|exact XhB|exact hX⟩
 all_goals first|rfl|(simp_all;done)|(simp_all;omega)
def xC (m:Mg):Bool:=
 if m.k<=7 then (m.t.may&&bY m.rg&&oN m) else
 if m.k=8 then (bY m.rg&&decide (1<=m.n)&&decide (0<=m.mx)&&decide (m.mx<=8)&&m.s.may) else
 if m.k=9 then (bY m.rg&&decide (1<=m.n)&&uF m.rc) else
 if m.k=10 then (bY m.rg&&dV m.st&&(m.st.r.id==m.rg)) else
 if m.k=11 then (bY m.rg) else
 if m.k=12 then (qp m.pv m.s m.t m.ws) else
 if m.k=14 then m.s.may else
 true
theorem afS (m:Mg) (h:Hm) (w:World) (hk:iK m.k=true) (ok:m.ok) (i:bH w w.heap.size m h) (sm:iV m h) (pl:∀r∈m.rc,jo r):
 Calls Tryz.prog 30 #[.agg (m.vals h)] w fun e w'=>e=.returned (.bool (xC m))/\Below w.heap.size w w':=by
 unfold iK at hk;rw[decide_eq_true_eq]at hk;by_cases h7:m.k<=7
 · rw[show xC m=(m.t.may&&bY m.rg&&oN m) by unfold xC;rw[if_pos h7]];exact afQ m h w ⟨hk.1,h7⟩ i sm
 · have hc:m.k=8∨m.k=9∨m.k=10∨m.k=11∨m.k=12∨m.k=13∨m.k=14:=byOmega;unfold xC;rw[if_neg h7];rcases hc with e|e|e|e|e|e|e
   all_goals simp only[e]
   · exact afJ m h w e ok i sm
   · exact afR m h w e ok i sm pl
   · exact afK m h w e ok i sm
   · exact afL m h w e ok i sm
   · exact afM m h w e ok i sm
   · exact afN m h w e ok i sm
   · exact afO m h w e ok i sm
theorem bH.wipe {w:World} {B:Nat} {m:Mg} {h:Hm} (i:bH w B m h):bH w B (fE m) (fF m.k h):=by
 by_cases hk:1<=m.k/\m.k<=14
 · have hc:m.k=1∨m.k=2∨m.k=3∨m.k=4∨m.k=5∨m.k=6∨m.k=7∨m.k=8∨m.k=9∨m.k=10∨m.k=11∨m.k=12∨m.k=13∨m.k=14:=byOmega;rcases hc with e|e|e|e|e|e|e|e|e|e|e|e|e|e
   all_goals
    unfold fE fF;simp only[e];constructor;all_goals first
        |exact Sl.nil
        |exact i.ks
        |exact i.sn
        |exact i.ws
        |exact i.ps
        |exact i.rs
        |exact i.rc
        |exact i.hs
        |exact i.pn
 · rw[show fE m=m by unfold fE;repeat (rw[if_neg byOmega]),show fF m.k h=h by unfold fF;repeat (rw[if_neg byOmega])];exact i
theorem afT {m:Mg} {h:Hm} (sm:iV m h):(fF m.k h).a.n<=5000000/\(fF m.k h).b.n<=5000000/\(fF m.k h).c.n<=5000000/\(fF m.k h).d.n<=5000000/\(fF m.k h).e.n<=5000000/\(fF m.k h).f.n<=5000000:=by
 have h0:Hd.nil.n=0:=rfl;have:=sm.a;have:=sm.b;have:=sm.c;have:=sm.d;have:=sm.e;have:=sm.f;refine⟨?_,?_,?_,?_,?_,?_⟩;all_goals
  unfold fF
  repeat' split
  all_goals first|assumption|(show Hd.nil.n<=5000000;omega)
def lD (m:Mg):Int:=if iK m.k=false then 7 else if (nZ m.fr&&nZ m.aG&&(fE m).eH&&xC m)=false then 4 else 0
theorem afU (m:Mg) (h:Hm) (w:World) (ok:m.ok) (i:bH w w.heap.size m h) (sm:iV m h) (pl:∀r∈m.rc,jo r):
 Calls Tryz.prog 11 #[.agg (m.vals h)] w fun e w'=>e=.returned (.int .i64 (lD m))/\Below w.heap.size w w':=by
 have hW:=fun w'=>afc m h w'
 have hN1:=fun w'=>IU m.fr w'
 have JI:=fun w'=>IU m.aG w'
 have Ja:=fun w' (hb:Below w.heap.size w w')=>acQ (fE m) (fF m.k h) w' (i.up hb).wipe (afT sm)
 have hF:=fun (hk:iK m.k=true) w' (hb:Below w.heap.size w w')=>afS m h w' hk ok (i.up hb) sm pl
 have HV:=au (show lD m=(if iK m.k=false then 7 else if (nZ m.fr&&nZ m.aG&&(fE m).eH&&xC m)=false then 4 else 0) from rfl);clear ok i sm pl;have hX:Below w.heap.size w (w.alloc (.cells (m.vals h) 41)):=aJ;have B0:aj (w.alloc (.cells (m.vals h) 41)) w.heap.size 41 (m.vals h):=aj.new _ _ _;generalize (fE m).eH=bz at*;generalize xC m=bf at*;generalize fE m=q at*;generalize fF m.k h=g at*;generalize nZ m.fr=n1 at*;generalize nZ m.aG=n2 at*;cases hk:iK m.k
 · rw[hk]at hW HV;clear hF hk;go_enter Tryz.func11,Tryz.ntmps11;go_wp2_with (first
    |(guard_target=~ wpList _ _ _ _ _ _;refine wpList_load_row rfl 41 _ rfl _ rfl _ _ (0,0) _ (aj.new _ _ _) rfl rfl ah ?_)
    |((with_reducible refine(hW _).mono ?_);rintro e w1 ⟨rfl,hb1⟩)
    |(guard_target=~ wpList _ _ _ _ _ _;refine xO rfl 41 _ _ rfl _ rfl rfl _ _ ah ah ah ?_))
   all_goals go_ret
   exact⟨nH (by rw[HV.out];rfl),(hX.trans (hb1.mono hX.size)).alloc (hX.trans (hb1.mono hX.size)).size _⟩
 · have hF:=hF hk;rw[hk]at hW HV;clear hk;go_enter Tryz.func11,Tryz.ntmps11;go_upto_region 4 with (first
    |(guard_target=~ wpList _ _ _ _ _ _;refine wpList_load_row rfl 41 _ rfl _ rfl _ _ (0,0) _ (aj.new _ _ _) rfl rfl ah ?_)
    |((with_reducible refine(hW _).mono ?_);rintro e w1 ⟨rfl,hb1⟩)
    |(guard_target=~ wpList _ _ _ _ _ _;refine xO rfl 41 _ _ rfl _ rfl rfl _ _ ah ah ah ?_))
   have hY:=hX.trans (hb1.mono hX.size);have hY2:=hY.alloc hY.size (.cells (q.vals g) 41);have B1:=(B0.below hb1 B0.lt).alloc (.cells (q.vals g) 41);have C1:=aj.new w1 41 (q.vals g);generalize (w1.alloc (.cells (q.vals g) 41))=w2 at*;generalize w1.heap.size=bq at*;have lB:=B1.lt;have y1:=cl (B1.cell 1);have y2:=cl (B1.cell 2);cases n1<;>cases n2<;>cases bz
   all_goals
    go_wp2_with (first
        |(guard_target=~ wpList _ _ _ _ _ _;refine Cb aI 41 (.tmp 3) rfl bq ah _ _ (0,0) _ C1 rfl rfl ah ?_)
        |(guard_target=~ wpList _ _ _ _ _ _;refine Cb aI 41 (.tmp 1) rfl w.heap.size ah _ _ (0,0) _ B2 rfl rfl ah ?_)
        |((with_reducible refine(hN1 _).mono ?_);rintro e v1 ⟨rfl,rfl⟩)
        |((with_reducible refine(JI _).mono ?_);rintro e v1 ⟨rfl,rfl⟩)
        |((with_reducible refine(Ja _ hY2).mono ?_);rintro e w3 ⟨rfl,hb3⟩
          have B2:=B1.below hb3 B1.lt;have hZ:=hY2.trans (hb3.mono hY2.size))
        |((with_reducible refine(hF _ hZ).mono ?_);rintro e w4 ⟨rfl,hb4⟩
          have hU:=hZ.trans (hb4.mono hZ.size)))
    all_goals go_ret
    all_goals refine⟨nH ?_,by first|exact hU|exact hZ|exact hY2⟩
    all_goals rw[HV.out]
    all_goals simp_all
