/- The walk of the document's good. -/
import Derived.Test.YtcalkfgibflbnaaGreatBaeb
import Derived.Test.YtcalkfgibflbnaaGreatBaed
namespace Go.Proofs.YtcalkfgibflbnaaGreat
set_option maxHeartbeats 32000000
set_option maxRecDepth 100000
set_option linter.unusedVariables false
open Go.RowKit Fl
attribute [local go_sem] dJ
theorem aij (m:Mg) (h:Hm) (w:World) (hc:m.k=9) (ok:m.ok) (i:bH w w.heap.size m h) (sm:iV m h) (pl:∀r∈m.rc,jo r):
 Calls Tryz.prog 32 #[.agg (m.vals h)] w fun e w'=>e=.returned (.bool (kR m))/\Below w.heap.size w w':=by
 obtain⟨gm,hgm⟩:∃gm,gm=kR m:=⟨_,rfl⟩;rw[<-hgm];unfold kR at hgm;rw[i.ks.1,i.sn.1,i.rs.1]at hgm;obtain⟨k,fr,aG,t,rg,ep,cd,s,pv,cm,n,mx,ks,sn,ws,ps,rs,rc,st⟩:=m;dsimp only at hgm hc;replace hc:=au hc;have hK:=fun w' (hb:Below w.heap.size w w')=>Ai h.a.A h.a.n h.a.c ks w' (i.up hb).ks (by have:=sm.a;unfold maxLen;omega)
 have hN:=fun w' (hb:Below w.heap.size w w')=>CZ h.b.A h.b.n h.b.c sn w' (i.up hb).sn (by have:=sm.b;unfold maxLen;omega)
 have hG:=fun w' (hb:Below w.heap.size w w')=>CX h.e.A h.e.n h.e.c rs w' (i.up hb).rs (by have:=sm.e;unfold maxLen;omega)
 have hW:=fun w' (hb:Below w.heap.size w w')=>zo h.c.A h.c.n h.c.c ws w' (i.up hb).ws (by have:=sm.c;unfold maxLen;omega)
 have hP:=fun w' (hb:Below w.heap.size w w')=>yR h.d.A h.d.n h.d.c ps w' (i.up hb).ps (by have:=sm.d;unfold maxLen;omega)
 have hH:=fun w' (hb:Below w.heap.size w w')=>CY h.d.A h.d.n h.d.c ps rg w' (i.up hb).ps (by have:=sm.d;unfold maxLen;omega)
 have hS:=fun w' (hb:Below w.heap.size w w')=>Ar st h.g.A h.i.A h.g.n h.i.n h.g.c h.i.c w' ok.sr (i.up hb).hs (i.up hb).pn sm.hs sm.pn
 have hA:=fun w' (hb:Below w.heap.size w w')=>AQ pv s t h.c.A h.c.n h.c.c ws w' (i.up hb).ws (by have:=sm.c;unfold maxLen;omega)
 have hT:=fun w'=>nI t w'
 have hM:=fun w'=>jF s w'
 have zr:=fun w=>fQ s w
 have hfc:=sm.f;have hfr:=i.rc;have hfl:=i.rc.1;obtain⟨vG,hcd⟩:∃c,c=(decide (0<=cd)&&decide (cd<=25)):=⟨_,rfl⟩;rw[<-hcd]at hgm;obtain⟨id,hid⟩:∃c,c=bY rg:=⟨_,rfl⟩;rw[<-hid]at hgm;unfold bY at hid;have HI:=au hid;have HC:=au hcd;clear hid hcd;have hX:Below w.heap.size w (w.alloc (.cells (Mg.vals ⟨k,fr,aG,t,rg,ep,cd,s,pv,cm,n,mx,ks,sn,ws,ps,rs,rc,st⟩ h) 41)):=aJ;have bM:aj (w.alloc (.cells (Mg.vals ⟨k,fr,aG,t,rg,ep,cd,s,pv,cm,n,mx,ks,sn,ws,ps,rs,rc,st⟩ h) 41)) w.heap.size 41 (Mg.vals ⟨k,fr,aG,t,rg,ep,cd,s,pv,cm,n,mx,ks,sn,ws,ps,rs,rc,st⟩ h):=aj.new _ _ _;clear ok i sm;generalize t.may=tm at*;generalize s.may=sM at*;generalize s.zero=z at*;generalize cu ks=gK at*;generalize iJ sn=gN at*;generalize jI rs=gG at*;generalize jY ws=gW at*;generalize dQ ps=gP at*;generalize rG rg ps=gH at*;generalize dV st=gS at*;generalize qY pv s t ws=gA at*;have HG:=au hgm;clear hgm;go_enter Tryz.func32,Tryz.ntmps32;go_upto_region 1 with fail;generalize (w.alloc (.cells (Mg.vals ⟨k,fr,aG,t,rg,ep,cd,s,pv,cm,n,mx,ks,sn,ws,ps,rs,rc,st⟩ h) 41))=w1 at*;have x3:=cl (bM.cell 3);have x4:=cl (bM.cell 4);have x5:=cl (bM.cell 5);go_upto_region 2 with (((with_reducible refine(hT _).mono ?_);rintro e w2 ⟨rfl,hb2⟩));have hY:=hX.trans (hb2.mono hX.size);have dB:=bM.below hb2 bM.lt;clear x3 x4 x5 bM hb2 hX;have x6:=cl (dB.cell 6)
 go_cut [4] from 14 (fun v w'=>v=.bool id/\w'=w2)
 case first=>
  clear hK hN hG hW hP hH hS hA hT hM zr hfr hfl hc HG HC hY;go_wp2_with fail;all_goals
   go_meet
   case rel=>exact⟨congrArg Value.bool (by rw[HI.out];first|(simp_all;done)|(simp_all;omega)),rfl⟩
 obtain⟨rfl,rfl⟩:=hcut;clear x6 HI;have x9:=cl (dB.cell 9);have x10:=cl (dB.cell 10);have x11:=cl (dB.cell 11);go_upto_region 4 with (((with_reducible refine(hM _).mono ?_);rintro e w3 ⟨rfl,hb3⟩));have hZ:=hY.trans (hb3.mono hY.size);have aY:=dB.below hb3 dB.lt;clear x9 x10 x11 dB hb3 hY;have x8:=cl (aY.cell 8)
 go_cut [6] from 25 (fun v w'=>v=.bool vG/\w'=w3)
 case first=>
  clear hK hN hG hW hP hH hS hA hT hM zr hfr hfl hc HG hZ;go_wp2_with fail;all_goals
   go_meet
   case rel=>exact⟨congrArg Value.bool (by rw[HC.out];first|(simp_all;done)|(simp_all;omega)),rfl⟩
 rename_i wd;obtain⟨rfl,rfl⟩:=hcut;clear x8 HC;have x9:=cl (aY.cell 9);have x10:=cl (aY.cell 10);have x11:=cl (aY.cell 11);have x0:=cl (aY.cell 0);go_upto_region 6 with fail;clear x9 x10 x11 zr hT hM;have lM:=aY.lt;replace hc:=hc.out;subst hc
 · clear hK hN hG hW hP hH hS hA;have x16:=cl (aY.cell 16);have x23:=cl (aY.cell 23);have HQ:=au (show gm=(id&&decide (1<=n)&&uF rc) by rw[HG.out];rfl);have HP:=au pl;have hr:=(hfr.below eX.kept hZ).more eX.kept hZ.size;clear HG hfr pl aY;generalize h.f.A=fA at*;generalize h.f.n=fn at*;generalize h.f.c=fc at*;have HL:=au hfl;have hle:rc.length<=fn:=byOmega;have hge:fn<=rc.length:=byOmega;clear hfl;have HN:RowKit.Hid ((id=false∨n<1∨8<fn)->gm=false):=au fun hx=>by
    rw[HQ.out];rcases hx with h|h|h
    · rw[h];rfl
    · rw[show decide (1<=n)=false by simp;omega];simp
    · unfold uF;rw[show decide ((rc.length:Int)<=8)=false by simp;omega];simp
   cases id
   · go_wp2;go_ret;exact⟨aZ (HN.out aA).symm,hZ⟩
   by_cases hn1:n<1
   · have hd:decide (n<1)=true:=decide_eq_true hn1;go_wp2;go_ret;exact⟨aZ (HN.out (by first|exact Or.inr (Or.inl hn1)|simp_all)).symm,hZ⟩
   have hd:decide (n<1)=false:=decide_eq_false hn1;by_cases hf8:8<fn
   · have hd8:decide ((8:Int)<(fn:Int))=true:=ay;go_wp2;go_ret;exact⟨aZ (HN.out (by first|exact Or.inr (Or.inr hf8)|simp_all)).symm,hZ⟩
   have hd8:decide ((8:Int)<(fn:Int))=false:=ay;have HR:RowKit.Hid (gm=rc.all fun r=>gU r==0):=au (by rw[HQ.out];unfold uF;rw[show decide (1<=n)=true by simp;omega,show decide ((rc.length:Int)<=8)=true by simp;omega];simp);clear HQ HN;go_wp2
   go_loopw [8] (fun i wr=>Vq rc wc i wr) (fun i _=>fn-(intOf i).toNat)
   case atStart=>exact⟨0,byOmega,rfl,rfl,aC⟩
   case round=>
    obtain⟨k,hk,rfl,hs,hb⟩:=hrel;have hzz:=hb.size;have y23:=(hb.cell (p:=⟨w.heap.size,23,none⟩) lM).trans x23;have hU:=hZ.trans (hb.mono hZ.size);by_cases hlt:k<fn
    · obtain⟨ad,r,g,b,o,rfl,ha,hq,hbb,hrg,ok,cp,i⟩:=((hr.below eX.kept hb).more eX.kept hb.size).GN hlt;have hd1:decide ((k:Int)<(fn:Int))=true:=ay;have hk0:(0:Int)<=(k:Int):=byOmega;have hk1:(k:Int)<(fn:Int):=byOmega;have pl:=HP.out r (List.mem_of_getElem? ha);have hE:=fun w' (hb:Below wr.heap.size wr w')=>WX r g w' ok (i.into.below hb) (pl.sm i) (by have:=pl.e;omega)
      rw[rZ ha]at hs;clear ha i pl;have HB:=au (show gU r≠0->(rc.all fun r=>gU r==0)=false by
         intro hz;rw[<-hs,show (gU r==0)=false from by simp[hz]];rfl)
      have HS:=au (show gU r=0->((rc.drop (k+1)).all fun r=>gU r==0)=(rc.all fun r=>gU r==0) by
         intro hz;rw[<-hs,hz];rfl)
      clear hs;generalize hz:gU r=ze at*;clear hz;by_cases hz:ze=0
      · subst hz;go_wp2_with (first
         |(guard_target=~ wpList _ _ _ _ _ _;refine wpList_load_mid rfl 69 _ rfl b o ah (r.vals g).toList _ hrg rfl rfl ah ?_)
         |((with_reducible refine(hE _ aC).mono ?_);rintro e w5 ⟨A5,c5,rfl,q5,m5,o5,hb5⟩))
        go_roundw
        case rel=>exact⟨k+1,byOmega,by go_num,HS.out (by trivial),hb.trans (hb5.mono hzz)⟩
        case measure=>simp[intOf];omega
      · have hz1:(ze !=0)=true:=(by simp[hz]);go_wp2_with (first
         |(guard_target=~ wpList _ _ _ _ _ _;refine wpList_load_mid rfl 69 _ rfl b o ah (r.vals g).toList _ hrg rfl rfl ah ?_)
         |((with_reducible refine(hE _ aC).mono ?_);rintro e w5 ⟨A5,c5,rfl,q5,m5,o5,hb5⟩))
        go_ret;rw[HR.out,HB.out hz];exact⟨rfl,hU.trans (hb5.mono hU.size)⟩
    · have hd1:decide ((k:Int)<(fn:Int))=false:=ay;have HT:=au (show (rc.all fun r=>gU r==0)=true by rw[<-hs,bF byOmega];rfl);clear hs;go_wp2;go_ret;rw[HR.out,HT.out];exact⟨rfl,hU⟩
theorem aik (m:Mg) (h:Hm) (w:World) (hc:m.k=10∨m.k=12) (ok:m.ok) (i:bH w w.heap.size m h) (sm:iV m h) (pl:∀r∈m.rc,jo r):
 Calls Tryz.prog 32 #[.agg (m.vals h)] w fun e w'=>e=.returned (.bool (kR m))/\Below w.heap.size w w':=by
 obtain⟨gm,hgm⟩:∃gm,gm=kR m:=⟨_,rfl⟩;rw[<-hgm];unfold kR at hgm;rw[i.ks.1,i.sn.1,i.rs.1]at hgm;obtain⟨k,fr,aG,t,rg,ep,cd,s,pv,cm,n,mx,ks,sn,ws,ps,rs,rc,st⟩:=m;dsimp only at hgm hc;have hK:=fun w' (hb:Below w.heap.size w w')=>Ai h.a.A h.a.n h.a.c ks w' (i.up hb).ks (by have:=sm.a;unfold maxLen;omega)
 have hN:=fun w' (hb:Below w.heap.size w w')=>CZ h.b.A h.b.n h.b.c sn w' (i.up hb).sn (by have:=sm.b;unfold maxLen;omega)
 have hG:=fun w' (hb:Below w.heap.size w w')=>CX h.e.A h.e.n h.e.c rs w' (i.up hb).rs (by have:=sm.e;unfold maxLen;omega)
 have hW:=fun w' (hb:Below w.heap.size w w')=>zo h.c.A h.c.n h.c.c ws w' (i.up hb).ws (by have:=sm.c;unfold maxLen;omega)
 have hP:=fun w' (hb:Below w.heap.size w w')=>yR h.d.A h.d.n h.d.c ps w' (i.up hb).ps (by have:=sm.d;unfold maxLen;omega)
 have hH:=fun w' (hb:Below w.heap.size w w')=>CY h.d.A h.d.n h.d.c ps rg w' (i.up hb).ps (by have:=sm.d;unfold maxLen;omega)
 have hS:=fun w' (hb:Below w.heap.size w w')=>Ar st h.g.A h.i.A h.g.n h.i.n h.g.c h.i.c w' ok.sr (i.up hb).hs (i.up hb).pn sm.hs sm.pn
 have hA:=fun w' (hb:Below w.heap.size w w')=>AQ pv s t h.c.A h.c.n h.c.c ws w' (i.up hb).ws (by have:=sm.c;unfold maxLen;omega)
 have hT:=fun w'=>nI t w'
 have hM:=fun w'=>jF s w'
 have zr:=fun w=>fQ s w
 have hfc:=sm.f;have hfr:=i.rc;have hfl:=i.rc.1;obtain⟨vG,hcd⟩:∃c,c=(decide (0<=cd)&&decide (cd<=25)):=⟨_,rfl⟩;rw[<-hcd]at hgm;obtain⟨id,hid⟩:∃c,c=bY rg:=⟨_,rfl⟩;rw[<-hid]at hgm;unfold bY at hid;have HI:=au hid;have HC:=au hcd;clear hid hcd;have hX:Below w.heap.size w (w.alloc (.cells (Mg.vals ⟨k,fr,aG,t,rg,ep,cd,s,pv,cm,n,mx,ks,sn,ws,ps,rs,rc,st⟩ h) 41)):=aJ;have bM:aj (w.alloc (.cells (Mg.vals ⟨k,fr,aG,t,rg,ep,cd,s,pv,cm,n,mx,ks,sn,ws,ps,rs,rc,st⟩ h) 41)) w.heap.size 41 (Mg.vals ⟨k,fr,aG,t,rg,ep,cd,s,pv,cm,n,mx,ks,sn,ws,ps,rs,rc,st⟩ h):=aj.new _ _ _;clear ok i sm;generalize t.may=tm at*;generalize s.may=sM at*;generalize s.zero=z at*;generalize cu ks=gK at*;generalize iJ sn=gN at*;generalize jI rs=gG at*;generalize jY ws=gW at*;generalize dQ ps=gP at*;generalize rG rg ps=gH at*;generalize dV st=gS at*;generalize qY pv s t ws=gA at*;have HG:=au hgm;clear hgm;go_enter Tryz.func32,Tryz.ntmps32;go_upto_region 1 with fail;generalize (w.alloc (.cells (Mg.vals ⟨k,fr,aG,t,rg,ep,cd,s,pv,cm,n,mx,ks,sn,ws,ps,rs,rc,st⟩ h) 41))=w1 at*;have x3:=cl (bM.cell 3);have x4:=cl (bM.cell 4);have x5:=cl (bM.cell 5);go_upto_region 2 with (((with_reducible refine(hT _).mono ?_);rintro e w2 ⟨rfl,hb2⟩));have hY:=hX.trans (hb2.mono hX.size);have dB:=bM.below hb2 bM.lt;clear x3 x4 x5 bM hb2 hX;have x6:=cl (dB.cell 6)
 go_cut [4] from 14 (fun v w'=>v=.bool id/\w'=w2)
 case first=>
  clear hK hN hG hW hP hH hS hA hT hM zr hfr hfl hc HG HC hY;go_wp2_with fail;all_goals
   go_meet
   case rel=>exact⟨congrArg Value.bool (by rw[HI.out];first|(simp_all;done)|(simp_all;omega)),rfl⟩
 obtain⟨rfl,rfl⟩:=hcut;clear x6 HI;have x9:=cl (dB.cell 9);have x10:=cl (dB.cell 10);have x11:=cl (dB.cell 11);go_upto_region 4 with (((with_reducible refine(hM _).mono ?_);rintro e w3 ⟨rfl,hb3⟩));have hZ:=hY.trans (hb3.mono hY.size);have aY:=dB.below hb3 dB.lt;clear x9 x10 x11 dB hb3 hY;have x8:=cl (aY.cell 8)
 go_cut [6] from 25 (fun v w'=>v=.bool vG/\w'=w3)
 case first=>
  clear hK hN hG hW hP hH hS hA hT hM zr hfr hfl hc HG hZ;go_wp2_with fail;all_goals
   go_meet
   case rel=>exact⟨congrArg Value.bool (by rw[HC.out];first|(simp_all;done)|(simp_all;omega)),rfl⟩
 rename_i wd;obtain⟨rfl,rfl⟩:=hcut;clear x8 HC;have x9:=cl (aY.cell 9);have x10:=cl (aY.cell 10);have x11:=cl (aY.cell 11);have x0:=cl (aY.cell 0);go_upto_region 6 with fail;clear x9 x10 x11 zr hT hM;have lM:=aY.lt;rcases hc with rfl|rfl
 · clear hK hN hG hW hP hH hA;have x24:=cl (aY.cell 24);have x25:=cl (aY.cell 25);have VD:=cl (aY.cell 26);have x27:=cl (aY.cell 27);have x28:=cl (aY.cell 28);have x29:=cl (aY.cell 29);have Dy:=cl (aY.cell 30);have x31:=cl (aY.cell 31);have x32:=cl (aY.cell 32);have Dz:=cl (aY.cell 33);have x34:=cl (aY.cell 34);have DC:=cl (aY.cell 35);go_wp2_with (first
    |((with_reducible refine(hS _ hZ).mono ?_);rintro e y0 ⟨rfl,hq0⟩
      have Z0:=hZ.trans (hq0.mono hZ.size);have B0:=aY.below hq0 aY.lt;have x24:=cl (B0.cell 24);have x6:=cl (B0.cell 6)))
   all_goals go_ret
   all_goals refine⟨aZ ?_,by first|exact Z0|exact hZ⟩
   all_goals rw[HG.out]
   all_goals first|rfl|(simp_all;done)|(simp_all;omega)
 · clear hK hN hG hW hP hH hS;have x3:=cl (aY.cell 3);have x4:=cl (aY.cell 4);have x5:=cl (aY.cell 5);have x9:=cl (aY.cell 9);have x10:=cl (aY.cell 10);have x11:=cl (aY.cell 11);have x12:=cl (aY.cell 12);have VE:=cl (aY.cell 13);have x14:=cl (aY.cell 14);have yw:=cl (aY.cell 20);go_wp2_with (first
    |((with_reducible refine(hA _ hZ).mono ?_);rintro e y0 ⟨rfl,hq0⟩
      have Z0:=hZ.trans (hq0.mono hZ.size)))
   all_goals go_ret
   all_goals refine⟨aZ ?_,by first|exact Z0|exact hZ⟩
   all_goals rw[HG.out]
   all_goals first|rfl|(simp_all;done)|(simp_all;omega)
