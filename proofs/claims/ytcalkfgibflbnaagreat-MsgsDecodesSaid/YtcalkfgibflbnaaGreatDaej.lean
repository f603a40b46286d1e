/- The walk of the document's good. -/
import Derived.Test.YtcalkfgibflbnaaGreatDacf
import Derived.Test.YtcalkfgibflbnaaGreatDaeb
import Derived.Test.YtcalkfgibflbnaaGreatDaee
namespace Go.Proofs.YtcalkfgibflbnaaGreat
set_option maxHeartbeats 32000000
set_option maxRecDepth 100000
set_option linter.unusedVariables false
open Go.RowKit Fl
attribute [local go_sem] run_store_float
theorem mgood_9 (m:Mg) (h:Hm) (w:World) (hc:m.k=9) (ok:m.ok) (i:MgLo w w.heap.size m h) (sm:MgSm m h) (pl:∀r∈m.rc,RcPl r):
 Calls Tryz.prog 32 #[.agg (m.vals h)] w fun e w'=>e=.returned (.bool (goodM m))∧Below w.heap.size w w':=by
 obtain⟨gm,hgm⟩:∃gm,gm=goodM m:=⟨_,rfl⟩
 rw[←hgm]
 unfold goodM at hgm
 rw[i.ks.1,i.sn.1,i.rs.1]at hgm
 obtain⟨k,fr,ton,t,rg,ep,cd,s,pv,cm,n,mx,ks,sn,ws,ps,rs,rc,st⟩:=m
 dsimp only at hgm hc
 replace hc:=Lib.hid hc
 have hK:=fun w' (hb:Below w.heap.size w w')=>rkeys_any h.a.A h.a.n h.a.c ks w' (i.up hb).ks (by have:=sm.a;unfold maxLen;omega)
 have hN:=fun w' (hb:Below w.heap.size w w')=>rseen_any h.b.A h.b.n h.b.c sn w' (i.up hb).sn (by have:=sm.b;unfold maxLen;omega)
 have hG:=fun w' (hb:Below w.heap.size w w')=>rranges_any h.e.A h.e.n h.e.c rs w' (i.up hb).rs (by have:=sm.e;unfold maxLen;omega)
 have hW:=fun w' (hb:Below w.heap.size w w')=>rwrs_any h.c.A h.c.n h.c.c ws w' (i.up hb).ws (by have:=sm.c;unfold maxLen;omega)
 have hP:=fun w' (hb:Below w.heap.size w w')=>rparts_any h.d.A h.d.n h.d.c ps w' (i.up hb).ps (by have:=sm.d;unfold maxLen;omega)
 have hH:=fun w' (hb:Below w.heap.size w w')=>rhas_any h.d.A h.d.n h.d.c ps rg w' (i.up hb).ps (by have:=sm.d;unfold maxLen;omega)
 have hS:=fun w' (hb:Below w.heap.size w w')=>rstateMay_any st h.g.A h.i.A h.g.n h.i.n h.g.c h.i.c w' ok.sr (i.up hb).hs (i.up hb).pn sm.hs sm.pn
 have hA:=fun w' (hb:Below w.heap.size w w')=>rapplies_any pv s t h.c.A h.c.n h.c.c ws w' (i.up hb).ws (by have:=sm.c;unfold maxLen;omega)
 have hT:=fun w'=>rtxnMay_any t w'
 have hM:=fun w'=>rhmay_any s w'
 have zr:=fun w=>zero_run s w
 have hfc:=sm.f
 have hfr:=i.rc
 have hfl:=i.rc.1
 obtain⟨cdB,hcd⟩:∃c,c=(decide (0≤cd)&&decide (cd≤25)):=⟨_,rfl⟩
 rw[←hcd]at hgm
 obtain⟨id,hid⟩:∃c,c=rgI rg:=⟨_,rfl⟩
 rw[←hid]at hgm
 unfold rgI at hid
 have HI:=Lib.hid hid
 have HC:=Lib.hid hcd
 clear hid hcd
 have hX:Below w.heap.size w (w.alloc (.cells (Mg.vals ⟨k,fr,ton,t,rg,ep,cd,s,pv,cm,n,mx,ks,sn,ws,ps,rs,rc,st⟩ h) 41)):=by go_grown
 have bM:Blk (w.alloc (.cells (Mg.vals ⟨k,fr,ton,t,rg,ep,cd,s,pv,cm,n,mx,ks,sn,ws,ps,rs,rc,st⟩ h) 41)) w.heap.size 41 (Mg.vals ⟨k,fr,ton,t,rg,ep,cd,s,pv,cm,n,mx,ks,sn,ws,ps,rs,rc,st⟩ h):=Blk.new _ _ _
 clear ok i sm
 generalize t.may=tm at*
 generalize s.may=sM at*
 generalize s.zero=z at*
 generalize riseB ks=gK at*
 generalize seenB sn=gN at*
 generalize covB rs=gG at*
 generalize wrsB ws=gW at*
 generalize partsB ps=gP at*
 generalize hasN rg ps=gH at*
 generalize mayS st=gS at*
 generalize rappliesB pv s t ws=gA at*
 have HG:=Lib.hid hgm
 clear hgm
 go_enter Tryz.func32,Tryz.ntmps32
 go_upto_region 1 with fail
 generalize (w.alloc (.cells (Mg.vals ⟨k,fr,ton,t,rg,ep,cd,s,pv,cm,n,mx,ks,sn,ws,ps,rs,rc,st⟩ h) 41))=w1 at*
 have x3:=cl (bM.cell 3)
 have x4:=cl (bM.cell 4)
 have x5:=cl (bM.cell 5)
 go_upto_region 2 with (((with_reducible refine(hT _).mono ?_);rintro e w2 ⟨rfl,hb2⟩))
 have hY:=hX.trans (hb2.mono hX.size)
 have bM2:=bM.below hb2 bM.lt
 clear x3 x4 x5 bM hb2 hX
 have x6:=cl (bM2.cell 6)
 go_cut [4] from 14 (fun v w'=>v=.bool id∧w'=w2)
 case first=>
  clear hK hN hG hW hP hH hS hA hT hM zr hfr hfl hc HG HC hY
  go_wp2_with fail
  all_goals
   go_meet
   case rel=>exact⟨congrArg Value.bool (by rw[HI.out];first|(simp_all;done)|(simp_all;omega)),rfl⟩
 obtain⟨rfl,rfl⟩:=hcut
 clear x6 HI
 have x9:=cl (bM2.cell 9)
 have x10:=cl (bM2.cell 10)
 have x11:=cl (bM2.cell 11)
 go_upto_region 4 with (((with_reducible refine(hM _).mono ?_);rintro e w3 ⟨rfl,hb3⟩))
 have hZ:=hY.trans (hb3.mono hY.size)
 have bM3:=bM2.below hb3 bM2.lt
 clear x9 x10 x11 bM2 hb3 hY
 have x8:=cl (bM3.cell 8)
 go_cut [6] from 25 (fun v w'=>v=.bool cdB∧w'=w3)
 case first=>
  clear hK hN hG hW hP hH hS hA hT hM zr hfr hfl hc HG hZ
  go_wp2_with fail
  all_goals
   go_meet
   case rel=>exact⟨congrArg Value.bool (by rw[HC.out];first|(simp_all;done)|(simp_all;omega)),rfl⟩
 rename_i wd
 obtain⟨rfl,rfl⟩:=hcut
 clear x8 HC
 have x9:=cl (bM3.cell 9)
 have x10:=cl (bM3.cell 10)
 have x11:=cl (bM3.cell 11)
 have x0:=cl (bM3.cell 0)
 go_upto_region 6 with fail
 clear x9 x10 x11 zr hT hM
 have lM:=bM3.lt
 replace hc:=hc.out
 subst hc
 · clear hK hN hG hW hP hH hS hA
   have x16:=cl (bM3.cell 16)
   have x23:=cl (bM3.cell 23)
   have HQ:=Lib.hid (show gm=(id&&decide (1≤n)&&batchB rc) by rw[HG.out];rfl)
   have HP:=Lib.hid pl
   have hr:=(hfr.below RmRel.kept hZ).more RmRel.kept hZ.size
   clear HG hfr pl bM3
   generalize h.f.A=fA at*
   generalize h.f.n=fn at*
   generalize h.f.c=fc at*
   have HL:=Lib.hid hfl
   have hle:rc.length≤fn:=by omega
   have hge:fn≤rc.length:=by omega
   clear hfl
   have HN:RowKit.Hid ((id=false∨n<1∨8<fn)→gm=false):=Lib.hid fun hx=>by
    rw[HQ.out]
    rcases hx with h|h|h
    · rw[h];rfl
    · rw[show decide (1≤n)=false by simp;omega];simp
    · unfold batchB;rw[show decide ((rc.length:Int)≤8)=false by simp;omega];simp
   cases id
   · go_wp2
     go_ret
     exact⟨ret_bool (HN.out (by simp)).symm,hZ⟩
   by_cases hn1:n<1
   · have hd:decide (n<1)=true:=decide_eq_true hn1
     go_wp2
     go_ret
     exact⟨ret_bool (HN.out (by first|exact Or.inr (Or.inl hn1)|simp_all)).symm,hZ⟩
   have hd:decide (n<1)=false:=decide_eq_false hn1
   by_cases hf8:8<fn
   · have hd8:decide ((8:Int)<(fn:Int))=true:=by simp;omega
     go_wp2
     go_ret
     exact⟨ret_bool (HN.out (by first|exact Or.inr (Or.inr hf8)|simp_all)).symm,hZ⟩
   have hd8:decide ((8:Int)<(fn:Int))=false:=by simp;omega
   have HR:RowKit.Hid (gm=rc.all fun r=>encE r==0):=Lib.hid (by rw[HQ.out];unfold batchB;rw[show decide (1≤n)=true by simp;omega,show decide ((rc.length:Int)≤8)=true by simp;omega];simp)
   clear HQ HN
   go_wp2
   go_loopw [8] (fun i wr=>BatR rc wc i wr) (fun i _=>fn-(intOf i).toNat)
   case atStart=>exact⟨0,by omega,rfl,rfl,Below.refl _ _⟩
   case round=>
    obtain⟨k,hk,rfl,hs,hb⟩:=hrel
    have hzz:=hb.size
    have y23:=(hb.cell (p:=⟨w.heap.size,23,none⟩) lM).trans x23
    have hU:=hZ.trans (hb.mono hZ.size)
    by_cases hlt:k<fn
    · obtain⟨ad,r,g,b,o,rfl,ha,hq,hbb,hrg,ok,cp,i⟩:=((hr.below RmRel.kept hb).more RmRel.kept hb.size).rm2 hlt
      have hd1:decide ((k:Int)<(fn:Int))=true:=by simp;omega
      have hk0:(0:Int)≤(k:Int):=by omega
      have hk1:(k:Int)<(fn:Int):=by omega
      have pl:=HP.out r (List.mem_of_getElem? ha)
      have hE:=fun w' (hb:Below wr.heap.size wr w')=>xEncode r g w' ok (i.into.below hb) (pl.sm i) (by have:=pl.e;omega)
      rw[all_drop ha]at hs
      clear ha i pl
      have HB:=Lib.hid (show encE r≠0→(rc.all fun r=>encE r==0)=false by
         intro hz
         rw[←hs,show (encE r==0)=false from by simp[hz]]
         rfl)
      have HS:=Lib.hid (show encE r=0→((rc.drop (k+1)).all fun r=>encE r==0)=(rc.all fun r=>encE r==0) by
         intro hz
         rw[←hs,hz]
         rfl)
      clear hs
      generalize hz:encE r=ze at*
      clear hz
      by_cases hz:ze=0
      · subst hz
        go_wp2_with (first
         |(guard_target=~ wpList _ _ _ _ _ _;refine wpList_load_mid rfl 69 _ rfl b o (by kernel_rfl) (r.vals g).toList _ hrg rfl rfl (by kernel_rfl) ?_)
         |((with_reducible refine(hE _ (Below.refl _ _)).mono ?_);rintro e w5 ⟨A5,c5,rfl,q5,m5,o5,hb5⟩))
        go_roundw
        case rel=>exact⟨k+1,by omega,by go_num,HS.out (by trivial),hb.trans (hb5.mono hzz)⟩
        case measure=>simp[intOf];omega
      · have hz1:(ze !=0)=true:=by simp[hz]
        go_wp2_with (first
         |(guard_target=~ wpList _ _ _ _ _ _;refine wpList_load_mid rfl 69 _ rfl b o (by kernel_rfl) (r.vals g).toList _ hrg rfl rfl (by kernel_rfl) ?_)
         |((with_reducible refine(hE _ (Below.refl _ _)).mono ?_);rintro e w5 ⟨A5,c5,rfl,q5,m5,o5,hb5⟩))
        go_ret
        rw[HR.out,HB.out hz]
        exact⟨rfl,hU.trans (hb5.mono hU.size)⟩
    · have hd1:decide ((k:Int)<(fn:Int))=false:=by simp;omega
      have HT:=Lib.hid (show (rc.all fun r=>encE r==0)=true by rw[←hs,List.drop_of_length_le (by omega)];rfl)
      clear hs
      go_wp2
      go_ret
      rw[HR.out,HT.out]
      exact⟨rfl,hU⟩
theorem mgood_10 (m:Mg) (h:Hm) (w:World) (hc:m.k=10∨m.k=12) (ok:m.ok) (i:MgLo w w.heap.size m h) (sm:MgSm m h) (pl:∀r∈m.rc,RcPl r):
 Calls Tryz.prog 32 #[.agg (m.vals h)] w fun e w'=>e=.returned (.bool (goodM m))∧Below w.heap.size w w':=by
 obtain⟨gm,hgm⟩:∃gm,gm=goodM m:=⟨_,rfl⟩
 rw[←hgm]
 unfold goodM at hgm
 rw[i.ks.1,i.sn.1,i.rs.1]at hgm
 obtain⟨k,fr,ton,t,rg,ep,cd,s,pv,cm,n,mx,ks,sn,ws,ps,rs,rc,st⟩:=m
 dsimp only at hgm hc
 have hK:=fun w' (hb:Below w.heap.size w w')=>rkeys_any h.a.A h.a.n h.a.c ks w' (i.up hb).ks (by have:=sm.a;unfold maxLen;omega)
 have hN:=fun w' (hb:Below w.heap.size w w')=>rseen_any h.b.A h.b.n h.b.c sn w' (i.up hb).sn (by have:=sm.b;unfold maxLen;omega)
 have hG:=fun w' (hb:Below w.heap.size w w')=>rranges_any h.e.A h.e.n h.e.c rs w' (i.up hb).rs (by have:=sm.e;unfold maxLen;omega)
 have hW:=fun w' (hb:Below w.heap.size w w')=>rwrs_any h.c.A h.c.n h.c.c ws w' (i.up hb).ws (by have:=sm.c;unfold maxLen;omega)
 have hP:=fun w' (hb:Below w.heap.size w w')=>rparts_any h.d.A h.d.n h.d.c ps w' (i.up hb).ps (by have:=sm.d;unfold maxLen;omega)
 have hH:=fun w' (hb:Below w.heap.size w w')=>rhas_any h.d.A h.d.n h.d.c ps rg w' (i.up hb).ps (by have:=sm.d;unfold maxLen;omega)
 have hS:=fun w' (hb:Below w.heap.size w w')=>rstateMay_any st h.g.A h.i.A h.g.n h.i.n h.g.c h.i.c w' ok.sr (i.up hb).hs (i.up hb).pn sm.hs sm.pn
 have hA:=fun w' (hb:Below w.heap.size w w')=>rapplies_any pv s t h.c.A h.c.n h.c.c ws w' (i.up hb).ws (by have:=sm.c;unfold maxLen;omega)
 have hT:=fun w'=>rtxnMay_any t w'
 have hM:=fun w'=>rhmay_any s w'
 have zr:=fun w=>zero_run s w
 have hfc:=sm.f
 have hfr:=i.rc
 have hfl:=i.rc.1
 obtain⟨cdB,hcd⟩:∃c,c=(decide (0≤cd)&&decide (cd≤25)):=⟨_,rfl⟩
 rw[←hcd]at hgm
 obtain⟨id,hid⟩:∃c,c=rgI rg:=⟨_,rfl⟩
 rw[←hid]at hgm
 unfold rgI at hid
 have HI:=Lib.hid hid
 have HC:=Lib.hid hcd
 clear hid hcd
 have hX:Below w.heap.size w (w.alloc (.cells (Mg.vals ⟨k,fr,ton,t,rg,ep,cd,s,pv,cm,n,mx,ks,sn,ws,ps,rs,rc,st⟩ h) 41)):=by go_grown
 have bM:Blk (w.alloc (.cells (Mg.vals ⟨k,fr,ton,t,rg,ep,cd,s,pv,cm,n,mx,ks,sn,ws,ps,rs,rc,st⟩ h) 41)) w.heap.size 41 (Mg.vals ⟨k,fr,ton,t,rg,ep,cd,s,pv,cm,n,mx,ks,sn,ws,ps,rs,rc,st⟩ h):=Blk.new _ _ _
 clear ok i sm
 generalize t.may=tm at*
 generalize s.may=sM at*
 generalize s.zero=z at*
 generalize riseB ks=gK at*
 generalize seenB sn=gN at*
 generalize covB rs=gG at*
 generalize wrsB ws=gW at*
 generalize partsB ps=gP at*
 generalize hasN rg ps=gH at*
 generalize mayS st=gS at*
 generalize rappliesB pv s t ws=gA at*
 have HG:=Lib.hid hgm
 clear hgm
 go_enter Tryz.func32,Tryz.ntmps32
 go_upto_region 1 with fail
 generalize (w.alloc (.cells (Mg.vals ⟨k,fr,ton,t,rg,ep,cd,s,pv,cm,n,mx,ks,sn,ws,ps,rs,rc,st⟩ h) 41))=w1 at*
 have x3:=cl (bM.cell 3)
 have x4:=cl (bM.cell 4)
 have x5:=cl (bM.cell 5)
 go_upto_region 2 with (((with_reducible refine(hT _).mono ?_);rintro e w2 ⟨rfl,hb2⟩))
 have hY:=hX.trans (hb2.mono hX.size)
 have bM2:=bM.below hb2 bM.lt
 clear x3 x4 x5 bM hb2 hX
 have x6:=cl (bM2.cell 6)
 go_cut [4] from 14 (fun v w'=>v=.bool id∧w'=w2)
 case first=>
  clear hK hN hG hW hP hH hS hA hT hM zr hfr hfl hc HG HC hY
  go_wp2_with fail
  all_goals
   go_meet
   case rel=>exact⟨congrArg Value.bool (by rw[HI.out];first|(simp_all;done)|(simp_all;omega)),rfl⟩
 obtain⟨rfl,rfl⟩:=hcut
 clear x6 HI
 have x9:=cl (bM2.cell 9)
 have x10:=cl (bM2.cell 10)
 have x11:=cl (bM2.cell 11)
 go_upto_region 4 with (((with_reducible refine(hM _).mono ?_);rintro e w3 ⟨rfl,hb3⟩))
 have hZ:=hY.trans (hb3.mono hY.size)
 have bM3:=bM2.below hb3 bM2.lt
 clear x9 x10 x11 bM2 hb3 hY
 have x8:=cl (bM3.cell 8)
 go_cut [6] from 25 (fun v w'=>v=.bool cdB∧w'=w3)
 case first=>
  clear hK hN hG hW hP hH hS hA hT hM zr hfr hfl hc HG hZ
  go_wp2_with fail
  all_goals
   go_meet
   case rel=>exact⟨congrArg Value.bool (by rw[HC.out];first|(simp_all;done)|(simp_all;omega)),rfl⟩
 rename_i wd
 obtain⟨rfl,rfl⟩:=hcut
 clear x8 HC
 have x9:=cl (bM3.cell 9)
 have x10:=cl (bM3.cell 10)
 have x11:=cl (bM3.cell 11)
 have x0:=cl (bM3.cell 0)
 go_upto_region 6 with fail
 clear x9 x10 x11 zr hT hM
 have lM:=bM3.lt
 rcases hc with rfl|rfl
 · clear hK hN hG hW hP hH hA
   have x24:=cl (bM3.cell 24)
   have x25:=cl (bM3.cell 25)
   have x26:=cl (bM3.cell 26)
   have x27:=cl (bM3.cell 27)
   have x28:=cl (bM3.cell 28)
   have x29:=cl (bM3.cell 29)
   have x30:=cl (bM3.cell 30)
   have x31:=cl (bM3.cell 31)
   have x32:=cl (bM3.cell 32)
   have x33:=cl (bM3.cell 33)
   have x34:=cl (bM3.cell 34)
   have x35:=cl (bM3.cell 35)
   go_wp2_with (first
    |((with_reducible refine(hS _ hZ).mono ?_);rintro e y0 ⟨rfl,hq0⟩
      have Z0:=hZ.trans (hq0.mono hZ.size)
      have B0:=bM3.below hq0 bM3.lt
      have x24:=cl (B0.cell 24)
      have x6:=cl (B0.cell 6)))
   all_goals go_ret
   all_goals refine⟨ret_bool ?_,by first|exact Z0|exact hZ⟩
   all_goals rw[HG.out]
   all_goals first|rfl|(simp_all;done)|(simp_all;omega)
 · clear hK hN hG hW hP hH hS
   have x3:=cl (bM3.cell 3)
   have x4:=cl (bM3.cell 4)
   have x5:=cl (bM3.cell 5)
   have x9:=cl (bM3.cell 9)
   have x10:=cl (bM3.cell 10)
   have x11:=cl (bM3.cell 11)
   have x12:=cl (bM3.cell 12)
   have x13:=cl (bM3.cell 13)
   have x14:=cl (bM3.cell 14)
   have x20:=cl (bM3.cell 20)
   go_wp2_with (first
    |((with_reducible refine(hA _ hZ).mono ?_);rintro e y0 ⟨rfl,hq0⟩
      have Z0:=hZ.trans (hq0.mono hZ.size)))
   all_goals go_ret
   all_goals refine⟨ret_bool ?_,by first|exact Z0|exact hZ⟩
   all_goals rw[HG.out]
   all_goals first|rfl|(simp_all;done)|(simp_all;omega)
end Go.Proofs.YtcalkfgibflbnaaGreat
