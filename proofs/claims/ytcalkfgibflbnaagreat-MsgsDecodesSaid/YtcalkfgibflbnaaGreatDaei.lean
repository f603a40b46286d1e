/- The walk of the document's good. -/
import Derived.Test.YtcalkfgibflbnaaGreatDacf
import Derived.Test.YtcalkfgibflbnaaGreatDaeb
import Derived.Test.YtcalkfgibflbnaaGreatDaee
namespace Go.Proofs.YtcalkfgibflbnaaGreat
set_option linter.unusedVariables false
open Go.RowKit Fl
attribute [local go_sem] run_store_float
set_option maxRecDepth 100000 in
set_option maxHeartbeats 32000000 in
theorem mgood_3 (m:Mg) (h:Hm) (w:World) (hc:m.k=3) (ok:m.ok) (i:MgLo w w.heap.size m h) (sm:MgSm m h) (pl:∀r∈m.rc,RcPl r):
 Calls Tryz.prog 32 #[.agg (m.vals h)] w fun e w'=>e=.returned (.bool (goodM m))∧Below w.heap.size w w':=by
 obtain⟨gm,hgm⟩:∃gm,gm=goodM m:=⟨_,rfl⟩
 rw[←hgm]
 unfold goodM at hgm
 rw[i.ks.1,i.sn.1,i.rs.1]at hgm
 obtain⟨k,fr,ton,t,rg,ep,cd,s,pv,cm,n,mx,ks,sn,ws,ps,rs,rc,st⟩:=m
 dsimp only at hgm hc
 replace hc:=Lib.hid hc
 have hK:=fun w' (hb:Below w.heap.size w w')=>rkeys_any h.a.A h.a.n h.a.c ks w' (i.up hb).ks (by have:=sm.a;unfold maxLen;omega)
 have hN:=fun w' (hb:Below w.heap.size w w')=>rseen_any h.b.A h.b.n h.b.c sn w' (i.up hb).sn (by have:=sm.b;unfold maxLen;omega)
 have hG:=fun w' (hb:Below w.heap.size w w')=>rranges_any h.e.A h.e.n h.e.c rs w' (i.up hb).rs (by have:=sm.e;unfold maxLen;omega)
 have hW:=fun w' (hb:Below w.heap.size w w')=>rwrs_any h.c.A h.c.n h.c.c ws w' (i.up hb).ws (by have:=sm.c;unfold maxLen;omega)
 have hP:=fun w' (hb:Below w.heap.size w w')=>rparts_any h.d.A h.d.n h.d.c ps w' (i.up hb).ps (by have:=sm.d;unfold maxLen;omega)
 have hH:=fun w' (hb:Below w.heap.size w w')=>rhas_any h.d.A h.d.n h.d.c ps rg w' (i.up hb).ps (by have:=sm.d;unfold maxLen;omega)
 have hS:=fun w' (hb:Below w.heap.size w w')=>rstateMay_any st h.g.A h.i.A h.g.n h.i.n h.g.c h.i.c w' ok.sr (i.up hb).hs (i.up hb).pn sm.hs sm.pn
 have hA:=fun w' (hb:Below w.heap.size w w')=>rapplies_any pv s t h.c.A h.c.n h.c.c ws w' (i.up hb).ws (by have:=sm.c;unfold maxLen;omega)
 have hT:=fun w'=>rtxnMay_any t w'
 have hM:=fun w'=>rhmay_any s w'
 have zr:=fun w=>zero_run s w
 have hfc:=sm.f
 have hfr:=i.rc
 have hfl:=i.rc.1
 obtain⟨cdB,hcd⟩:∃c,c=(decide (0≤cd)&&decide (cd≤25)):=⟨_,rfl⟩
 rw[←hcd]at hgm
 obtain⟨id,hid⟩:∃c,c=rgI rg:=⟨_,rfl⟩
 rw[←hid]at hgm
 unfold rgI at hid
 have HI:=Lib.hid hid
 have HC:=Lib.hid hcd
 clear hid hcd
 have hX:Below w.heap.size w (w.alloc (.cells (Mg.vals ⟨k,fr,ton,t,rg,ep,cd,s,pv,cm,n,mx,ks,sn,ws,ps,rs,rc,st⟩ h) 41)):=by go_grown
 have bM:Blk (w.alloc (.cells (Mg.vals ⟨k,fr,ton,t,rg,ep,cd,s,pv,cm,n,mx,ks,sn,ws,ps,rs,rc,st⟩ h) 41)) w.heap.size 41 (Mg.vals ⟨k,fr,ton,t,rg,ep,cd,s,pv,cm,n,mx,ks,sn,ws,ps,rs,rc,st⟩ h):=Blk.new _ _ _
 clear ok i sm
 generalize t.may=tm at*
 generalize s.may=sM at*
 generalize s.zero=z at*
 generalize riseB ks=gK at*
 generalize seenB sn=gN at*
 generalize covB rs=gG at*
 generalize wrsB ws=gW at*
 generalize partsB ps=gP at*
 generalize hasN rg ps=gH at*
 generalize mayS st=gS at*
 generalize rappliesB pv s t ws=gA at*
 have HG:=Lib.hid hgm
 clear hgm
 go_enter Tryz.func32,Tryz.ntmps32
 go_upto_region 1 with fail
 generalize (w.alloc (.cells (Mg.vals ⟨k,fr,ton,t,rg,ep,cd,s,pv,cm,n,mx,ks,sn,ws,ps,rs,rc,st⟩ h) 41))=w1 at*
 have x3:=cl (bM.cell 3)
 have x4:=cl (bM.cell 4)
 have x5:=cl (bM.cell 5)
 go_upto_region 2 with (((with_reducible refine(hT _).mono ?_);rintro e w2 ⟨rfl,hb2⟩))
 have hY:=hX.trans (hb2.mono hX.size)
 have bM2:=bM.below hb2 bM.lt
 clear x3 x4 x5 bM hb2 hX
 have x6:=cl (bM2.cell 6)
 go_cut [4] from 14 (fun v w'=>v=.bool id∧w'=w2)
 case first=>
  clear hK hN hG hW hP hH hS hA hT hM zr hfr hfl hc HG HC hY
  go_wp2_with fail
  all_goals
   go_meet
   case rel=>exact⟨congrArg Value.bool (by rw[HI.out];first|(simp_all;done)|(simp_all;omega)),rfl⟩
 obtain⟨rfl,rfl⟩:=hcut
 clear x6 HI
 have x9:=cl (bM2.cell 9)
 have x10:=cl (bM2.cell 10)
 have x11:=cl (bM2.cell 11)
 go_upto_region 4 with (((with_reducible refine(hM _).mono ?_);rintro e w3 ⟨rfl,hb3⟩))
 have hZ:=hY.trans (hb3.mono hY.size)
 have bM3:=bM2.below hb3 bM2.lt
 clear x9 x10 x11 bM2 hb3 hY
 have x8:=cl (bM3.cell 8)
 go_cut [6] from 25 (fun v w'=>v=.bool cdB∧w'=w3)
 case first=>
  clear hK hN hG hW hP hH hS hA hT hM zr hfr hfl hc HG hZ
  go_wp2_with fail
  all_goals
   go_meet
   case rel=>exact⟨congrArg Value.bool (by rw[HC.out];first|(simp_all;done)|(simp_all;omega)),rfl⟩
 rename_i wd
 obtain⟨rfl,rfl⟩:=hcut
 clear x8 HC
 have x9:=cl (bM3.cell 9)
 have x10:=cl (bM3.cell 10)
 have x11:=cl (bM3.cell 11)
 have x0:=cl (bM3.cell 0)
 go_upto_region 6 with fail
 clear x9 x10 x11 zr hT hM
 have lM:=bM3.lt
 replace hc:=hc.out
 subst hc
 · clear hK hG hS hA
   have x7:=cl (bM3.cell 7)
   have x19:=cl (bM3.cell 19)
   go_wp2_with (first
    |((with_reducible refine(hN _ hZ).mono ?_);rintro e y0 ⟨rfl,hq0⟩
      have Z0:=hZ.trans (hq0.mono hZ.size)
      have B0:=bM3.below hq0 bM3.lt
      have x20:=cl (B0.cell 20)
      have x21:=cl (B0.cell 21)
      have x6:=cl (B0.cell 6))
    |((with_reducible refine(hW _ Z0).mono ?_);rintro e y1 ⟨rfl,hq1⟩
      have Z1:=Z0.trans (hq1.mono Z0.size)
      have B1:=B0.below hq1 B0.lt
      have x21:=cl (B1.cell 21)
      have x6:=cl (B1.cell 6))
    |((with_reducible refine(hP _ Z1).mono ?_);rintro e y2 ⟨rfl,hq2⟩
      have Z2:=Z1.trans (hq2.mono Z1.size)
      have B2:=B1.below hq2 B1.lt
      have x21:=cl (B2.cell 21)
      have x6:=cl (B2.cell 6))
    |((with_reducible refine(hH _ Z2).mono ?_);rintro e y3 ⟨rfl,hq3⟩
      have Z3:=Z2.trans (hq3.mono Z2.size)))
   all_goals go_ret
   all_goals refine⟨ret_bool ?_,by first|exact Z3|exact Z2|exact Z1|exact Z0|exact hZ⟩
   all_goals rw[HG.out]
   all_goals first|rfl|(simp_all;done)|(simp_all;omega)
end Go.Proofs.YtcalkfgibflbnaaGreat
