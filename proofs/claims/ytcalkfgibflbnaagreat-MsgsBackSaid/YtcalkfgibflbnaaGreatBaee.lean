/- The walk of the document's good. -/
import Derived.Test.YtcalkfgibflbnaaGreatBaeb
import Derived.Test.YtcalkfgibflbnaaGreatBaed
namespace Go.Proofs.YtcalkfgibflbnaaGreat
set_option maxHeartbeats 32000000
set_option maxRecDepth 100000
set_option linter.unusedVariables false
open Go.RowKit Fl
attribute [local go_sem] dJ
theorem aib (m:Mg) (h:Hm) (w:World) (hc:m.k=6∨m.k=7∨m.k=11∨m.k=13∨m.k=14) (ok:m.ok) (i:bH w w.heap.size m h) (sm:iV m h) (pl:∀r∈m.rc,jo r):
 Calls Tryz.prog 32 #[.agg (m.vals h)] w fun e w'=>e=.returned (.bool (kR m))/\Below w.heap.size w w':=by
 obtain⟨gm,hgm⟩:∃gm,gm=kR m:=⟨_,rfl⟩;rw[<-hgm];unfold kR at hgm;rw[i.ks.1,i.sn.1,i.rs.1]at hgm;obtain⟨k,fr,aG,t,rg,ep,cd,s,pv,cm,n,mx,ks,sn,ws,ps,rs,rc,st⟩:=m;dsimp only at hgm hc;have hK:=fun w' (hb:Below w.heap.size w w')=>Ai h.a.A h.a.n h.a.c ks w' (i.up hb).ks (by have:=sm.a;unfold maxLen;omega)
 have hN:=fun w' (hb:Below w.heap.size w w')=>CZ h.b.A h.b.n h.b.c sn w' (i.up hb).sn (by have:=sm.b;unfold maxLen;omega)
 have hG:=fun w' (hb:Below w.heap.size w w')=>CX h.e.A h.e.n h.e.c rs w' (i.up hb).rs (by have:=sm.e;unfold maxLen;omega)
 have hW:=fun w' (hb:Below w.heap.size w w')=>zo h.c.A h.c.n h.c.c ws w' (i.up hb).ws (by have:=sm.c;unfold maxLen;omega)
 have hP:=fun w' (hb:Below w.heap.size w w')=>yR h.d.A h.d.n h.d.c ps w' (i.up hb).ps (by have:=sm.d;unfold maxLen;omega)
 have hH:=fun w' (hb:Below w.heap.size w w')=>CY h.d.A h.d.n h.d.c ps rg w' (i.up hb).ps (by have:=sm.d;unfold maxLen;omega)
 have hS:=fun w' (hb:Below w.heap.size w w')=>Ar st h.g.A h.i.A h.g.n h.i.n h.g.c h.i.c w' ok.sr (i.up hb).hs (i.up hb).pn sm.hs sm.pn
 have hA:=fun w' (hb:Below w.heap.size w w')=>AQ pv s t h.c.A h.c.n h.c.c ws w' (i.up hb).ws (by have:=sm.c;unfold maxLen;omega)
 have hT:=fun w'=>nI t w'
 have hM:=fun w'=>jF s w'
 have zr:=fun w=>fQ s w
 have hfc:=sm.f;have hfr:=i.rc;have hfl:=i.rc.1;obtain⟨vG,hcd⟩:∃c,c=(decide (0<=cd)&&decide (cd<=25)):=⟨_,rfl⟩;rw[<-hcd]at hgm;obtain⟨id,hid⟩:∃c,c=bY rg:=⟨_,rfl⟩;rw[<-hid]at hgm;unfold bY at hid;have HI:=au hid;have HC:=au hcd;clear hid hcd;have hX:Below w.heap.size w (w.alloc (.cells (Mg.vals ⟨k,fr,aG,t,rg,ep,cd,s,pv,cm,n,mx,ks,sn,ws,ps,rs,rc,st⟩ h) 41)):=aJ;have bM:aj (w.alloc (.cells (Mg.vals ⟨k,fr,aG,t,rg,ep,cd,s,pv,cm,n,mx,ks,sn,ws,ps,rs,rc,st⟩ h) 41)) w.heap.size 41 (Mg.vals ⟨k,fr,aG,t,rg,ep,cd,s,pv,cm,n,mx,ks,sn,ws,ps,rs,rc,st⟩ h):=aj.new _ _ _;clear ok i sm;generalize t.may=tm at*;generalize s.may=sM at*;generalize s.zero=z at*;generalize cu ks=gK at*;generalize iJ sn=gN at*;generalize jI rs=gG at*;generalize jY ws=gW at*;generalize dQ ps=gP at*;generalize rG rg ps=gH at*;generalize dV st=gS at*;generalize qY pv s t ws=gA at*;have HG:=au hgm;clear hgm;go_enter Tryz.func32,Tryz.ntmps32;go_upto_region 1 with fail;generalize (w.alloc (.cells (Mg.vals ⟨k,fr,aG,t,rg,ep,cd,s,pv,cm,n,mx,ks,sn,ws,ps,rs,rc,st⟩ h) 41))=w1 at*;have x3:=cl (bM.cell 3);have x4:=cl (bM.cell 4);have x5:=cl (bM.cell 5);go_upto_region 2 with (((with_reducible refine(hT _).mono ?_);rintro e w2 ⟨rfl,hb2⟩));have hY:=hX.trans (hb2.mono hX.size);have dB:=bM.below hb2 bM.lt;clear x3 x4 x5 bM hb2 hX;have x6:=cl (dB.cell 6)
 go_cut [4] from 14 (fun v w'=>v=.bool id/\w'=w2)
 case first=>
  clear hK hN hG hW hP hH hS hA hT hM zr hfr hfl hc HG HC hY;go_wp2_with fail;all_goals
   go_meet
   case rel=>exact⟨congrArg Value.bool (by rw[HI.out];first|(simp_all;done)|(simp_all;omega)),rfl⟩
 obtain⟨rfl,rfl⟩:=hcut;clear x6 HI;have x9:=cl (dB.cell 9);have x10:=cl (dB.cell 10);have x11:=cl (dB.cell 11);go_upto_region 4 with (((with_reducible refine(hM _).mono ?_);rintro e w3 ⟨rfl,hb3⟩));have hZ:=hY.trans (hb3.mono hY.size);have aY:=dB.below hb3 dB.lt;clear x9 x10 x11 dB hb3 hY;have x8:=cl (aY.cell 8)
 go_cut [6] from 25 (fun v w'=>v=.bool vG/\w'=w3)
 case first=>
  clear hK hN hG hW hP hH hS hA hT hM zr hfr hfl hc HG hZ;go_wp2_with fail;all_goals
   go_meet
   case rel=>exact⟨congrArg Value.bool (by rw[HC.out];first|(simp_all;done)|(simp_all;omega)),rfl⟩
 rename_i wd;obtain⟨rfl,rfl⟩:=hcut;clear x8 HC;have x9:=cl (aY.cell 9);have x10:=cl (aY.cell 10);have x11:=cl (aY.cell 11);have x0:=cl (aY.cell 0);go_upto_region 6 with fail;clear x9 x10 x11 zr hT hM;have lM:=aY.lt;rcases hc with rfl|rfl|rfl|rfl|rfl
 · clear hK hN hG hW hP hH hS hA;go_wp2;all_goals go_ret
   all_goals refine⟨aZ ?_,by first|exact hZ⟩
   all_goals rw[HG.out]
   all_goals first|rfl|(simp_all;done)|(simp_all;omega)
 · clear hK hN hG hW hP hH hS hA;go_wp2;all_goals go_ret
   all_goals refine⟨aZ ?_,by first|exact hZ⟩
   all_goals rw[HG.out]
   all_goals first|rfl|(simp_all;done)|(simp_all;omega)
 · clear hK hN hG hW hP hH hS hA;go_wp2;all_goals go_ret
   all_goals refine⟨aZ ?_,by first|exact hZ⟩
   all_goals rw[HG.out]
   all_goals first|rfl|(simp_all;done)|(simp_all;omega)
 · clear hK hN hG hW hP hH hS hA;go_wp2;all_goals go_ret
   all_goals refine⟨aZ ?_,by first|exact hZ⟩
   all_goals rw[HG.out]
   all_goals first|rfl|(simp_all;done)|(simp_all;omega)
 · clear hK hN hG hW hP hH hS hA;go_wp2;all_goals go_ret
   all_goals refine⟨aZ ?_,by first|exact hZ⟩
   all_goals rw[HG.out]
   all_goals first|rfl|(simp_all;done)|(simp_all;omega)
theorem aic (m:Mg) (h:Hm) (w:World) (hc:m.k=5∨m.k=8) (ok:m.ok) (i:bH w w.heap.size m h) (sm:iV m h) (pl:∀r∈m.rc,jo r):
 Calls Tryz.prog 32 #[.agg (m.vals h)] w fun e w'=>e=.returned (.bool (kR m))/\Below w.heap.size w w':=by
 obtain⟨gm,hgm⟩:∃gm,gm=kR m:=⟨_,rfl⟩;rw[<-hgm];unfold kR at hgm;rw[i.ks.1,i.sn.1,i.rs.1]at hgm;obtain⟨k,fr,aG,t,rg,ep,cd,s,pv,cm,n,mx,ks,sn,ws,ps,rs,rc,st⟩:=m;dsimp only at hgm hc;have hK:=fun w' (hb:Below w.heap.size w w')=>Ai h.a.A h.a.n h.a.c ks w' (i.up hb).ks (by have:=sm.a;unfold maxLen;omega)
 have hN:=fun w' (hb:Below w.heap.size w w')=>CZ h.b.A h.b.n h.b.c sn w' (i.up hb).sn (by have:=sm.b;unfold maxLen;omega)
 have hG:=fun w' (hb:Below w.heap.size w w')=>CX h.e.A h.e.n h.e.c rs w' (i.up hb).rs (by have:=sm.e;unfold maxLen;omega)
 have hW:=fun w' (hb:Below w.heap.size w w')=>zo h.c.A h.c.n h.c.c ws w' (i.up hb).ws (by have:=sm.c;unfold maxLen;omega)
 have hP:=fun w' (hb:Below w.heap.size w w')=>yR h.d.A h.d.n h.d.c ps w' (i.up hb).ps (by have:=sm.d;unfold maxLen;omega)
 have hH:=fun w' (hb:Below w.heap.size w w')=>CY h.d.A h.d.n h.d.c ps rg w' (i.up hb).ps (by have:=sm.d;unfold maxLen;omega)
 have hS:=fun w' (hb:Below w.heap.size w w')=>Ar st h.g.A h.i.A h.g.n h.i.n h.g.c h.i.c w' ok.sr (i.up hb).hs (i.up hb).pn sm.hs sm.pn
 have hA:=fun w' (hb:Below w.heap.size w w')=>AQ pv s t h.c.A h.c.n h.c.c ws w' (i.up hb).ws (by have:=sm.c;unfold maxLen;omega)
 have hT:=fun w'=>nI t w'
 have hM:=fun w'=>jF s w'
 have zr:=fun w=>fQ s w
 have hfc:=sm.f;have hfr:=i.rc;have hfl:=i.rc.1;obtain⟨vG,hcd⟩:∃c,c=(decide (0<=cd)&&decide (cd<=25)):=⟨_,rfl⟩;rw[<-hcd]at hgm;obtain⟨id,hid⟩:∃c,c=bY rg:=⟨_,rfl⟩;rw[<-hid]at hgm;unfold bY at hid;have HI:=au hid;have HC:=au hcd;clear hid hcd;have hX:Below w.heap.size w (w.alloc (.cells (Mg.vals ⟨k,fr,aG,t,rg,ep,cd,s,pv,cm,n,mx,ks,sn,ws,ps,rs,rc,st⟩ h) 41)):=aJ;have bM:aj (w.alloc (.cells (Mg.vals ⟨k,fr,aG,t,rg,ep,cd,s,pv,cm,n,mx,ks,sn,ws,ps,rs,rc,st⟩ h) 41)) w.heap.size 41 (Mg.vals ⟨k,fr,aG,t,rg,ep,cd,s,pv,cm,n,mx,ks,sn,ws,ps,rs,rc,st⟩ h):=aj.new _ _ _;clear ok i sm;generalize t.may=tm at*;generalize s.may=sM at*;generalize s.zero=z at*;generalize cu ks=gK at*;generalize iJ sn=gN at*;generalize jI rs=gG at*;generalize jY ws=gW at*;generalize dQ ps=gP at*;generalize rG rg ps=gH at*;generalize dV st=gS at*;generalize qY pv s t ws=gA at*;have HG:=au hgm;clear hgm;go_enter Tryz.func32,Tryz.ntmps32;go_upto_region 1 with fail;generalize (w.alloc (.cells (Mg.vals ⟨k,fr,aG,t,rg,ep,cd,s,pv,cm,n,mx,ks,sn,ws,ps,rs,rc,st⟩ h) 41))=w1 at*;have x3:=cl (bM.cell 3);have x4:=cl (bM.cell 4);have x5:=cl (bM.cell 5);go_upto_region 2 with (((with_reducible refine(hT _).mono ?_);rintro e w2 ⟨rfl,hb2⟩));have hY:=hX.trans (hb2.mono hX.size);have dB:=bM.below hb2 bM.lt;clear x3 x4 x5 bM hb2 hX;have x6:=cl (dB.cell 6)
 go_cut [4] from 14 (fun v w'=>v=.bool id/\w'=w2)
 case first=>
  clear hK hN hG hW hP hH hS hA hT hM zr hfr hfl hc HG HC hY;go_wp2_with fail;all_goals
   go_meet
   case rel=>exact⟨congrArg Value.bool (by rw[HI.out];first|(simp_all;done)|(simp_all;omega)),rfl⟩
 obtain⟨rfl,rfl⟩:=hcut;clear x6 HI;have x9:=cl (dB.cell 9);have x10:=cl (dB.cell 10);have x11:=cl (dB.cell 11);go_upto_region 4 with (((with_reducible refine(hM _).mono ?_);rintro e w3 ⟨rfl,hb3⟩));have hZ:=hY.trans (hb3.mono hY.size);have aY:=dB.below hb3 dB.lt;clear x9 x10 x11 dB hb3 hY;have x8:=cl (aY.cell 8)
 go_cut [6] from 25 (fun v w'=>v=.bool vG/\w'=w3)
 case first=>
  clear hK hN hG hW hP hH hS hA hT hM zr hfr hfl hc HG hZ;go_wp2_with fail;all_goals
   go_meet
   case rel=>exact⟨congrArg Value.bool (by rw[HC.out];first|(simp_all;done)|(simp_all;omega)),rfl⟩
 rename_i wd;obtain⟨rfl,rfl⟩:=hcut;clear x8 HC;have x9:=cl (aY.cell 9);have x10:=cl (aY.cell 10);have x11:=cl (aY.cell 11);have x0:=cl (aY.cell 0);go_upto_region 6 with fail;clear x9 x10 x11 zr hT hM;have lM:=aY.lt;rcases hc with rfl|rfl
 · clear hK hN hG hW hP hH hS hA;have x15:=cl (aY.cell 15);go_wp2;all_goals go_ret
   all_goals refine⟨aZ ?_,by first|exact hZ⟩
   all_goals rw[HG.out]
   all_goals first|rfl|(simp_all;done)|(simp_all;omega)
 · clear hK hN hG hW hP hH hS hA;have x16:=cl (aY.cell 16);have x17:=cl (aY.cell 17);go_wp2;all_goals go_ret
   all_goals refine⟨aZ ?_,by first|exact hZ⟩
   all_goals rw[HG.out]
   all_goals first|rfl|(simp_all;done)|(simp_all;omega)
