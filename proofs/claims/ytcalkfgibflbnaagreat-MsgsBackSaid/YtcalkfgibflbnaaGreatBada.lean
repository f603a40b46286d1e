/- The walks of a coder that reads: lists. -/
import Derived.Test.YtcalkfgibflbnaaGreatBaaf
namespace Go.Proofs.YtcalkfgibflbnaaGreat
set_option maxHeartbeats 4000000
set_option maxRecDepth 100000
set_option linter.unusedVariables false
open Go.RowKit Fl
attribute [local go_sem] dJ
theorem OC:yg 137 81 bK 1 aS:=by
 obtain⟨i0,hi0,hz0,hz1,hz2⟩:=info_parts aaJ;intro w g A n c l s gc b t cs i h hs D;have fx:=h.fix D;have hib:i<cs.size:=(Array.getElem?_eq_some_iff.1 (D.has 0 _ rfl)).1;have c0:=cl (h.blk.cell 0);have c1:=cl (h.blk.cell 1);have z0:w.cell? ⟨b,i,none⟩=some (.slice none 0 0):=D.at0 rfl;have hL:=xZ g A n c l s w.drew (h.below (aC).drew).rd;have hC:=fun q=>xY g A n c l s (bI l s:Int) (w.drewN q) (h.below (bD q)).rd
 have hkn:=wW l s (bI l s:Int) 3;have hsm:=h.rd.small;have hlf:bI l s<=n:=by rw[<-h.rd.len];unfold bI;split<;>omega
 have HR:=au (show dn aS l s=iG aS l (aX l s (bI l s:Int) 3).1.toNat (aX l s (bI l s:Int) 3).2 from rfl);have HH:=au h;generalize dn aS l s=res at*;generalize aX l s (bI l s:Int) 3=x at*;obtain⟨xn,s1⟩:=x;obtain⟨N,rfl⟩:∃N:Nat,xn=(N:Int):=⟨xn.toNat,by have:=hkn.2.1;omega⟩;have hN:N<=n:=by have:=hkn.2.2 byOmega;simp only at this;omega
 clear hkn hlf;go_enter Tryz.func137,Tryz.ntmps137;go_wp2_with fail
 go_region_held3 (fun w'=>w'.cell? ⟨gc,1,none⟩=some (.pointer (some ⟨g,0,none⟩)))
  (first|exact c1|exact c1')
  (first
    |((with_reducible refine hL.mono ?_);rintro e w1 ⟨rfl,q,rfl⟩)
    |((with_reducible refine(hC _).mono ?_);rintro e w2 ⟨rfl,hrd,hg⟩;have c1':w2.cell? ⟨gc,1,none⟩=some (.pointer (some ⟨g,0,none⟩)):=((h.below (bD _)).blk.grown hg (by intro e;exact h.ne (by injection e))).cell 1))
 have hg2:w.grownBy w2 (some g):=(below_grown (bD _) _).trans hg;have h2:CR w2 g A n c l s1 gc:=HH.out.read hrd hg2;have k2:aj w2 b t cs:=D.blk.grown hg2 (by intro e;exact D.ng (by injection e));have t2:aW w w2 g b:=aW.left hg2 b;clear hg hg2 hrd hL hC c1' c1 h c0 z0;go_wp2_with fail;refine(sN w2 g A n c l s1 gc h2).mono ?_;rintro e w3 ⟨⟨q3,rfl⟩,⟨he,rfl⟩|⟨he,rfl⟩⟩
 rotate_left
 · have hQ:Below w2.heap.size w2 (w2.drewN q3):=bD _;go_wp2;exact⟨rfl,dW.bad (s':=s1) (by rw[HR.out];exact congrArg Prod.snd (sJ _ _ _ _ he)) he (h2.below hQ) (t2.trans (aW.eU g b hQ)) rfl (k2.below hQ k2.lt)⟩
 have hQ:Below w2.heap.size w2 (w2.drewN q3):=bD _;have k3:=k2.below hQ k2.lt;have h3:=h2.below hQ;have t3:=t2.trans (aW.eU g b hQ);have z3:(w2.drewN q3).cell? ⟨b,i,none⟩=some (.slice none 0 0):=(k3.cell i).trans (D.has 0 _ rfl);have f3:=k3.frozen i;have hgs:=jJ (w2.drewN q3) b i (.slice none 0 0);have h4:=h3.laid hgs fx.ng fx.nc fx.ap;have t4:=t3.trans (aW.right hgs g);have k4:aj _ b t (put cs i [.slice none 0 0]):=k3.fB i (.slice none 0 0);have hst:=qj.start (R:=bK) (E:=3) (size:=1) (f:=aS) (N:=N) h4 he k4 t4;clear k3 h3 t3 hgs h4 t4 k4 k2 h2 t2 hQ D;go_wp2_with fail
 go_loopw [39] (fun iv wr=>yj bK 3 1 aS w g A n c l gc b t cs i N s1 iv wr) (fun iv _=>N-(intOf iv).toNat)
 case atStart=>exact⟨0,_,_,_,rfl,hst⟩
 case round=>
  clear hst z3 f3;obtain⟨k,L,sk,v,rfl,hI⟩:=hrel;by_cases hlt:k<N
  · have hd1:decide ((k:Int)<(N:Int))=true:=ay;have hk0:(0:Int)<=(k:Int):=byOmega;have hk1:(k:Int)<((k+1:Nat):Int):=byOmega;have d0:=cl (hI.cr.blk.cell 0);have y0:wr.cell? ⟨b,i,none⟩=some v:=(hI.blk.cell i).trans (ug [v] cs i 0 v rfl ay);have yF:=hI.blk.lt;have hlen:=hI.len;have hzz:=hI.two.size;obtain⟨Av,qv,rfl,ni,wV⟩:=Single.form hI.row;rw[hlen]at ni y0 hI;have HI:=au hI;have hX:Below wr.heap.size wr (wr.alloc (.cells #[.int .i64 0] 3)):=(aC).alloc (Nat.le_refl _) _;obtain⟨xs,hown0,hrd⟩:=hI.round bK.kept bK.mono fx hlt hib (z:=[.int .i64 0]) rfl hX;have pJ:=au hrd;have dF:=nK wr 3 [.int .i64 0] 1 rfl;clear hrd hI;rw[hlen]at hown0;go_wp2_with (first
        |(at_builtin
          refine iI _ rfl (.tmp 50) (.tmp 52) _ rfl w.heap.size 3 i0 _ 1 8 Tryz.underlying30 hi0 hz0 hz1 hz2 rfl byOmega (.slice Av k qv) _ xs aI hown0 _ (some ⟨wr.heap.size,0,none⟩) 1 1 [.int .i64 0] aI dF (Zz 0) dX byOmega ay ?_;intro v' w5 hown5 hg5 pK;obtain⟨y5,f5,rb,cap,cur,rfl,y6,h6,D6,t6,hfin⟩:=pJ.out v' w5 (by rw[hlen];exact hown5) hg5 pK;rw[Nat.mul_one]at D6 hfin;have HF:=au hfin;clear hfin)
        |fail)
    refine(jK _ g A n c l sk gc rb _ cur k h6 HI.out.e D6).mono ?_;intro e w7 hP;rcases HF.out e w7 hP.m with ⟨rfl,pO⟩|⟨rfl,hB⟩
    · go_wp2_with fail;go_roundw
      case rel=>exact⟨k+1,_,_,_,by go_num,pO⟩
      case measure=>simp[intOf];omega
    · go_wp2;exact⟨rfl,by rw[HR.out];exact hB.post hP.1⟩
  · have hd1:decide ((k:Int)<(N:Int))=false:=ay;go_wp2_with fail
    go_end0
    rw[HR.out];exact hI.done bK.mono byOmega hlt
theorem Wj:yg 131 132 aO 1 iF:=by
 obtain⟨i0,hi0,hz0,hz1,hz2⟩:=info_parts Dv;intro w g A n c l s gc b t cs i h hs D;have fx:=h.fix D;have hib:i<cs.size:=(Array.getElem?_eq_some_iff.1 (D.has 0 _ rfl)).1;have c0:=cl (h.blk.cell 0);have c1:=cl (h.blk.cell 1);have z0:w.cell? ⟨b,i,none⟩=some (.slice none 0 0):=D.at0 rfl;have hL:=xZ g A n c l s w.drew (h.below (aC).drew).rd;have hC:=fun q=>xY g A n c l s (bI l s:Int) (w.drewN q) (h.below (bD q)).rd
 have hkn:=wW l s (bI l s:Int) 3;have hsm:=h.rd.small;have hlf:bI l s<=n:=by rw[<-h.rd.len];unfold bI;split<;>omega
 have HR:=au (show dn iF l s=iG iF l (aX l s (bI l s:Int) 3).1.toNat (aX l s (bI l s:Int) 3).2 from rfl);have HH:=au h;generalize dn iF l s=res at*;generalize aX l s (bI l s:Int) 3=x at*;obtain⟨xn,s1⟩:=x;obtain⟨N,rfl⟩:∃N:Nat,xn=(N:Int):=⟨xn.toNat,by have:=hkn.2.1;omega⟩;have hN:N<=n:=by have:=hkn.2.2 byOmega;simp only at this;omega
 clear hkn hlf;go_enter Tryz.func131,Tryz.ntmps131;go_wp2_with fail
 go_region_held3 (fun w'=>w'.cell? ⟨gc,1,none⟩=some (.pointer (some ⟨g,0,none⟩)))
  (first|exact c1|exact c1')
  (first
    |((with_reducible refine hL.mono ?_);rintro e w1 ⟨rfl,q,rfl⟩)
    |((with_reducible refine(hC _).mono ?_);rintro e w2 ⟨rfl,hrd,hg⟩;have c1':w2.cell? ⟨gc,1,none⟩=some (.pointer (some ⟨g,0,none⟩)):=((h.below (bD _)).blk.grown hg (by intro e;exact h.ne (by injection e))).cell 1))
 have hg2:w.grownBy w2 (some g):=(below_grown (bD _) _).trans hg;have h2:CR w2 g A n c l s1 gc:=HH.out.read hrd hg2;have k2:aj w2 b t cs:=D.blk.grown hg2 (by intro e;exact D.ng (by injection e));have t2:aW w w2 g b:=aW.left hg2 b;clear hg hg2 hrd hL hC c1' c1 h c0 z0;go_wp2_with fail;refine(sN w2 g A n c l s1 gc h2).mono ?_;rintro e w3 ⟨⟨q3,rfl⟩,⟨he,rfl⟩|⟨he,rfl⟩⟩
 rotate_left
 · have hQ:Below w2.heap.size w2 (w2.drewN q3):=bD _;go_wp2;exact⟨rfl,dW.bad (s':=s1) (by rw[HR.out];exact congrArg Prod.snd (sJ _ _ _ _ he)) he (h2.below hQ) (t2.trans (aW.eU g b hQ)) rfl (k2.below hQ k2.lt)⟩
 have hQ:Below w2.heap.size w2 (w2.drewN q3):=bD _;have k3:=k2.below hQ k2.lt;have h3:=h2.below hQ;have t3:=t2.trans (aW.eU g b hQ);have z3:(w2.drewN q3).cell? ⟨b,i,none⟩=some (.slice none 0 0):=(k3.cell i).trans (D.has 0 _ rfl);have f3:=k3.frozen i;have hgs:=jJ (w2.drewN q3) b i (.slice none 0 0);have h4:=h3.laid hgs fx.ng fx.nc fx.ap;have t4:=t3.trans (aW.right hgs g);have k4:aj _ b t (put cs i [.slice none 0 0]):=k3.fB i (.slice none 0 0);have hst:=qj.start (R:=aO) (E:=9) (size:=1) (f:=iF) (N:=N) h4 he k4 t4;clear k3 h3 t3 hgs h4 t4 k4 k2 h2 t2 hQ D;go_wp2_with fail
 go_loopw [39] (fun iv wr=>yj aO 9 1 iF w g A n c l gc b t cs i N s1 iv wr) (fun iv _=>N-(intOf iv).toNat)
 case atStart=>exact⟨0,_,_,_,rfl,hst⟩
 case round=>
  clear hst z3 f3;obtain⟨k,L,sk,v,rfl,hI⟩:=hrel;by_cases hlt:k<N
  · have hd1:decide ((k:Int)<(N:Int))=true:=ay;have hk0:(0:Int)<=(k:Int):=byOmega;have hk1:(k:Int)<((k+1:Nat):Int):=byOmega;have d0:=cl (hI.cr.blk.cell 0);have y0:wr.cell? ⟨b,i,none⟩=some v:=(hI.blk.cell i).trans (ug [v] cs i 0 v rfl ay);have yF:=hI.blk.lt;have hlen:=hI.len;have hzz:=hI.two.size;obtain⟨Av,qv,rfl,ni,wV⟩:=Single.form hI.row;rw[hlen]at ni y0 hI;have HI:=au hI;have hX:Below wr.heap.size wr (wr.alloc (.cells #[.string ⟨#[]⟩] 9)):=(aC).alloc (Nat.le_refl _) _;obtain⟨xs,hown0,hrd⟩:=hI.round aO.kept aO.mono fx hlt hib (z:=[.string ⟨#[]⟩]) rfl hX;have pJ:=au hrd;have dF:=nK wr 9 [.string ⟨#[]⟩] 1 rfl;clear hrd hI;rw[hlen]at hown0;go_wp2_with (first
        |(at_builtin
          refine iI _ rfl (.tmp 50) (.tmp 52) _ rfl w.heap.size 9 i0 _ 1 16 Tryz.underlying27 hi0 hz0 hz1 hz2 rfl byOmega (.slice Av k qv) _ xs aI hown0 _ (some ⟨wr.heap.size,0,none⟩) 1 1 [.string ⟨#[]⟩] aI dF (by intro u hu;simp only[List.mem_cons,List.not_mem_nil,or_false]at hu;subst hu;rfl) dX byOmega ay ?_;intro v' w5 hown5 hg5 pK;obtain⟨y5,f5,rb,cap,cur,rfl,y6,h6,D6,t6,hfin⟩:=pJ.out v' w5 (by rw[hlen];exact hown5) hg5 pK;rw[Nat.mul_one]at D6 hfin;have HF:=au hfin;clear hfin)
        |fail)
    refine(DV _ g A n c l sk gc rb _ cur k h6 HI.out.e D6).mono ?_;intro e w7 hP;rcases HF.out e w7 hP.m with ⟨rfl,pO⟩|⟨rfl,hB⟩
    · go_wp2_with fail;go_roundw
      case rel=>exact⟨k+1,_,_,_,by go_num,pO⟩
      case measure=>simp[intOf];omega
    · go_wp2;exact⟨rfl,by rw[HR.out];exact hB.post hP.1⟩
  · have hd1:decide ((k:Int)<(N:Int))=false:=ay;go_wp2_with fail
    go_end0
    rw[HR.out];exact hI.done aO.mono byOmega hlt
theorem JO:yg 89 90 aF 4 nT:=by
 obtain⟨i0,hi0,hz0,hz1,hz2⟩:=info_parts Kz;intro w g A n c l s gc b t cs i h hs D;have fx:=h.fix D;have hib:i<cs.size:=(Array.getElem?_eq_some_iff.1 (D.has 0 _ rfl)).1;have c0:=cl (h.blk.cell 0);have c1:=cl (h.blk.cell 1);have z0:w.cell? ⟨b,i,none⟩=some (.slice none 0 0):=D.at0 rfl;have hL:=xZ g A n c l s w.drew (h.below (aC).drew).rd;have hC:=fun q=>xY g A n c l s (bI l s:Int) (w.drewN q) (h.below (bD q)).rd
 have hkn:=wW l s (bI l s:Int) 3;have hsm:=h.rd.small;have hlf:bI l s<=n:=by rw[<-h.rd.len];unfold bI;split<;>omega
 have HR:=au (show dn nT l s=iG nT l (aX l s (bI l s:Int) 3).1.toNat (aX l s (bI l s:Int) 3).2 from rfl);have HH:=au h;generalize dn nT l s=res at*;generalize aX l s (bI l s:Int) 3=x at*;obtain⟨xn,s1⟩:=x;obtain⟨N,rfl⟩:∃N:Nat,xn=(N:Int):=⟨xn.toNat,by have:=hkn.2.1;omega⟩;have hN:N<=n:=by have:=hkn.2.2 byOmega;simp only at this;omega
 clear hkn hlf;go_enter Tryz.func89,Tryz.ntmps89;go_wp2_with fail
 go_region_held3 (fun w'=>w'.cell? ⟨gc,1,none⟩=some (.pointer (some ⟨g,0,none⟩)))
  (first|exact c1|exact c1')
  (first
    |((with_reducible refine hL.mono ?_);rintro e w1 ⟨rfl,q,rfl⟩)
    |((with_reducible refine(hC _).mono ?_);rintro e w2 ⟨rfl,hrd,hg⟩;have c1':w2.cell? ⟨gc,1,none⟩=some (.pointer (some ⟨g,0,none⟩)):=((h.below (bD _)).blk.grown hg (by intro e;exact h.ne (by injection e))).cell 1))
 have hg2:w.grownBy w2 (some g):=(below_grown (bD _) _).trans hg;have h2:CR w2 g A n c l s1 gc:=HH.out.read hrd hg2;have k2:aj w2 b t cs:=D.blk.grown hg2 (by intro e;exact D.ng (by injection e));have t2:aW w w2 g b:=aW.left hg2 b;clear hg hg2 hrd hL hC c1' c1 h c0 z0;go_wp2_with fail;refine(sN w2 g A n c l s1 gc h2).mono ?_;rintro e w3 ⟨⟨q3,rfl⟩,⟨he,rfl⟩|⟨he,rfl⟩⟩
 rotate_left
 · have hQ:Below w2.heap.size w2 (w2.drewN q3):=bD _;go_wp2;exact⟨rfl,dW.bad (s':=s1) (by rw[HR.out];exact congrArg Prod.snd (sJ _ _ _ _ he)) he (h2.below hQ) (t2.trans (aW.eU g b hQ)) rfl (k2.below hQ k2.lt)⟩
 have hQ:Below w2.heap.size w2 (w2.drewN q3):=bD _;have k3:=k2.below hQ k2.lt;have h3:=h2.below hQ;have t3:=t2.trans (aW.eU g b hQ);have z3:(w2.drewN q3).cell? ⟨b,i,none⟩=some (.slice none 0 0):=(k3.cell i).trans (D.has 0 _ rfl);have f3:=k3.frozen i;have hgs:=jJ (w2.drewN q3) b i (.slice none 0 0);have h4:=h3.laid hgs fx.ng fx.nc fx.ap;have t4:=t3.trans (aW.right hgs g);have k4:aj _ b t (put cs i [.slice none 0 0]):=k3.fB i (.slice none 0 0);have hst:=qj.start (R:=aF) (E:=61) (size:=4) (f:=nT) (N:=N) h4 he k4 t4;clear k3 h3 t3 hgs h4 t4 k4 k2 h2 t2 hQ D;go_wp2_with fail
 go_loopw [39] (fun iv wr=>yj aF 61 4 nT w g A n c l gc b t cs i N s1 iv wr) (fun iv _=>N-(intOf iv).toNat)
 case atStart=>exact⟨0,_,_,_,rfl,hst⟩
 case round=>
  clear hst z3 f3;obtain⟨k,L,sk,v,rfl,hI⟩:=hrel;by_cases hlt:k<N
  · have hd1:decide ((k:Int)<(N:Int))=true:=ay;have hk0:(0:Int)<=(k:Int):=byOmega;have hk1:(k:Int)<((k+1:Nat):Int):=byOmega;have d0:=cl (hI.cr.blk.cell 0);have y0:wr.cell? ⟨b,i,none⟩=some v:=(hI.blk.cell i).trans (ug [v] cs i 0 v rfl ay);have yF:=hI.blk.lt;have hlen:=hI.len;have hzz:=hI.two.size;obtain⟨Av,qv,rfl,ni,wV⟩:=Single.form hI.row;rw[hlen]at ni y0 hI;have HI:=au hI;have hX:Below wr.heap.size wr (((wr.alloc (.cells #[.string ⟨#[]⟩,.int .i64 0,.float .f64 0,.string ⟨#[]⟩] 61)).alloc (.cells #[.string ⟨#[]⟩,.int .i64 0,.float .f64 0,.string ⟨#[]⟩] 61)).drew):=(((aC).alloc (Nat.le_refl _) _).alloc aA _).drew;obtain⟨xs,hown0,hrd⟩:=hI.round aF.kept aF.mono fx hlt hib (z:=[.string ⟨#[]⟩,.int .i64 0,.float .f64 0,.string ⟨#[]⟩]) rfl hX;have pJ:=au hrd;have dF:=nK (wr.alloc (.cells #[.string ⟨#[]⟩,.int .i64 0,.float .f64 0,.string ⟨#[]⟩] 61)) 61 [.string ⟨#[]⟩,.int .i64 0,.float .f64 0,.string ⟨#[]⟩] 4 rfl;replace dF:=dF.drew;clear hrd hI;rw[hlen]at hown0;go_wp2
    go_region_law (refine wG _ rfl (.tmp 50) (.tmp 52) _ rfl w.heap.size 61 i0 _ 4 48 Tryz.underlying29 hi0 hz0 hz1 hz2 rfl byOmega (.slice Av k qv) _ xs (by simp[Act.eval]) hown0 _ (some ⟨(wr.alloc (.cells #[.string ⟨#[]⟩,.int .i64 0,.float .f64 0,.string ⟨#[]⟩] 61)).heap.size,0,none⟩) 1 1 [.string ⟨#[]⟩,.int .i64 0,.float .f64 0,.string ⟨#[]⟩] (by simp[Act.eval]) dF (by intro u hu;simp only[List.mem_cons,List.not_mem_nil,or_false]at hu;rcases hu with rfl|rfl|rfl|rfl<;>rfl) dX byOmega ay ?_;intro v' w5 hown5 hg5 pK;obtain⟨y5,f5,rb,cap,cur,rfl,y6,h6,D6,t6,hfin⟩:=pJ.out v' w5 (by rw[hlen];exact hown5) hg5 pK;have HF:=au hfin;clear hfin)
    all_goals
        go_wp2_with fail;refine(aaP _ g A n c l sk gc rb _ cur (k*4) h6 HI.out.e D6).mono ?_;intro e w7 hP;rcases HF.out e w7 hP.m with ⟨rfl,pO⟩|⟨rfl,hB⟩
        · go_wp2_with fail;go_roundw
          case rel=>exact⟨k+1,_,_,_,by go_num,pO⟩
          case measure=>simp[intOf];omega
        · go_wp2;exact⟨rfl,by rw[HR.out];exact hB.post hP.1⟩
  · have hd1:decide ((k:Int)<(N:Int))=false:=ay;go_wp2_with fail
    go_end0
    rw[HR.out];exact hI.done aF.mono byOmega hlt
theorem agG:yg 200 201 aF 4 nT:=by
 obtain⟨i0,hi0,hz0,hz1,hz2⟩:=info_parts aaK;intro w g A n c l s gc b t cs i h hs D;have fx:=h.fix D;have hib:i<cs.size:=(Array.getElem?_eq_some_iff.1 (D.has 0 _ rfl)).1;have c0:=cl (h.blk.cell 0);have c1:=cl (h.blk.cell 1);have z0:w.cell? ⟨b,i,none⟩=some (.slice none 0 0):=D.at0 rfl;have hL:=xZ g A n c l s w.drew (h.below (aC).drew).rd;have hC:=fun q=>xY g A n c l s (bI l s:Int) (w.drewN q) (h.below (bD q)).rd
 have hkn:=wW l s (bI l s:Int) 3;have hsm:=h.rd.small;have hlf:bI l s<=n:=by rw[<-h.rd.len];unfold bI;split<;>omega
 have HR:=au (show dn nT l s=iG nT l (aX l s (bI l s:Int) 3).1.toNat (aX l s (bI l s:Int) 3).2 from rfl);have HH:=au h;generalize dn nT l s=res at*;generalize aX l s (bI l s:Int) 3=x at*;obtain⟨xn,s1⟩:=x;obtain⟨N,rfl⟩:∃N:Nat,xn=(N:Int):=⟨xn.toNat,by have:=hkn.2.1;omega⟩;have hN:N<=n:=by have:=hkn.2.2 byOmega;simp only at this;omega
 clear hkn hlf;go_enter Tryz.func200,Tryz.ntmps200;go_wp2_with fail
 go_region_held3 (fun w'=>w'.cell? ⟨gc,1,none⟩=some (.pointer (some ⟨g,0,none⟩)))
  (first|exact c1|exact c1')
  (first
    |((with_reducible refine hL.mono ?_);rintro e w1 ⟨rfl,q,rfl⟩)
    |((with_reducible refine(hC _).mono ?_);rintro e w2 ⟨rfl,hrd,hg⟩;have c1':w2.cell? ⟨gc,1,none⟩=some (.pointer (some ⟨g,0,none⟩)):=((h.below (bD _)).blk.grown hg (by intro e;exact h.ne (by injection e))).cell 1))
 have hg2:w.grownBy w2 (some g):=(below_grown (bD _) _).trans hg;have h2:CR w2 g A n c l s1 gc:=HH.out.read hrd hg2;have k2:aj w2 b t cs:=D.blk.grown hg2 (by intro e;exact D.ng (by injection e));have t2:aW w w2 g b:=aW.left hg2 b;clear hg hg2 hrd hL hC c1' c1 h c0 z0;go_wp2_with fail;refine(sN w2 g A n c l s1 gc h2).mono ?_;rintro e w3 ⟨⟨q3,rfl⟩,⟨he,rfl⟩|⟨he,rfl⟩⟩
 rotate_left
 · have hQ:Below w2.heap.size w2 (w2.drewN q3):=bD _;go_wp2;exact⟨rfl,dW.bad (s':=s1) (by rw[HR.out];exact congrArg Prod.snd (sJ _ _ _ _ he)) he (h2.below hQ) (t2.trans (aW.eU g b hQ)) rfl (k2.below hQ k2.lt)⟩
 have hQ:Below w2.heap.size w2 (w2.drewN q3):=bD _;have k3:=k2.below hQ k2.lt;have h3:=h2.below hQ;have t3:=t2.trans (aW.eU g b hQ);have z3:(w2.drewN q3).cell? ⟨b,i,none⟩=some (.slice none 0 0):=(k3.cell i).trans (D.has 0 _ rfl);have f3:=k3.frozen i;have hgs:=jJ (w2.drewN q3) b i (.slice none 0 0);have h4:=h3.laid hgs fx.ng fx.nc fx.ap;have t4:=t3.trans (aW.right hgs g);have k4:aj _ b t (put cs i [.slice none 0 0]):=k3.fB i (.slice none 0 0);have hst:=qj.start (R:=aF) (E:=105) (size:=4) (f:=nT) (N:=N) h4 he k4 t4;clear k3 h3 t3 hgs h4 t4 k4 k2 h2 t2 hQ D;go_wp2_with fail
 go_loopw [39] (fun iv wr=>yj aF 105 4 nT w g A n c l gc b t cs i N s1 iv wr) (fun iv _=>N-(intOf iv).toNat)
 case atStart=>exact⟨0,_,_,_,rfl,hst⟩
 case round=>
  clear hst z3 f3;obtain⟨k,L,sk,v,rfl,hI⟩:=hrel;by_cases hlt:k<N
  · have hd1:decide ((k:Int)<(N:Int))=true:=ay;have hk0:(0:Int)<=(k:Int):=byOmega;have hk1:(k:Int)<((k+1:Nat):Int):=byOmega;have d0:=cl (hI.cr.blk.cell 0);have y0:wr.cell? ⟨b,i,none⟩=some v:=(hI.blk.cell i).trans (ug [v] cs i 0 v rfl ay);have yF:=hI.blk.lt;have hlen:=hI.len;have hzz:=hI.two.size;obtain⟨Av,qv,rfl,ni,wV⟩:=Single.form hI.row;rw[hlen]at ni y0 hI;have HI:=au hI;have hX:Below wr.heap.size wr (((wr.alloc (.cells #[.string ⟨#[]⟩,.int .i64 0,.float .f64 0,.string ⟨#[]⟩] 105)).alloc (.cells #[.string ⟨#[]⟩,.int .i64 0,.float .f64 0,.string ⟨#[]⟩] 105)).drew):=(((aC).alloc (Nat.le_refl _) _).alloc aA _).drew;obtain⟨xs,hown0,hrd⟩:=hI.round aF.kept aF.mono fx hlt hib (z:=[.string ⟨#[]⟩,.int .i64 0,.float .f64 0,.string ⟨#[]⟩]) rfl hX;have pJ:=au hrd;have dF:=nK (wr.alloc (.cells #[.string ⟨#[]⟩,.int .i64 0,.float .f64 0,.string ⟨#[]⟩] 105)) 105 [.string ⟨#[]⟩,.int .i64 0,.float .f64 0,.string ⟨#[]⟩] 4 rfl;replace dF:=dF.drew;clear hrd hI;rw[hlen]at hown0;go_wp2
    go_region_law (refine wG _ rfl (.tmp 50) (.tmp 52) _ rfl w.heap.size 105 i0 _ 4 48 Tryz.underlying67 hi0 hz0 hz1 hz2 rfl byOmega (.slice Av k qv) _ xs (by simp[Act.eval]) hown0 _ (some ⟨(wr.alloc (.cells #[.string ⟨#[]⟩,.int .i64 0,.float .f64 0,.string ⟨#[]⟩] 105)).heap.size,0,none⟩) 1 1 [.string ⟨#[]⟩,.int .i64 0,.float .f64 0,.string ⟨#[]⟩] (by simp[Act.eval]) dF (by intro u hu;simp only[List.mem_cons,List.not_mem_nil,or_false]at hu;rcases hu with rfl|rfl|rfl|rfl<;>rfl) dX byOmega ay ?_;intro v' w5 hown5 hg5 pK;obtain⟨y5,f5,rb,cap,cur,rfl,y6,h6,D6,t6,hfin⟩:=pJ.out v' w5 (by rw[hlen];exact hown5) hg5 pK;have HF:=au hfin;clear hfin)
    all_goals
        go_wp2_with fail;refine(aaQ _ g A n c l sk gc rb _ cur (k*4) h6 HI.out.e D6).mono ?_;intro e w7 hP;rcases HF.out e w7 hP.m with ⟨rfl,pO⟩|⟨rfl,hB⟩
        · go_wp2_with fail;go_roundw
          case rel=>exact⟨k+1,_,_,_,by go_num,pO⟩
          case measure=>simp[intOf];omega
        · go_wp2;exact⟨rfl,by rw[HR.out];exact hB.post hP.1⟩
  · have hd1:decide ((k:Int)<(N:Int))=false:=ay;go_wp2_with fail
    go_end0
    rw[HR.out];exact hI.done aF.mono byOmega hlt
theorem agH:yg 192 193 fC 6 wU:=by
 obtain⟨i0,hi0,hz0,hz1,hz2⟩:=info_parts KF;intro w g A n c l s gc b t cs i h hs D;have fx:=h.fix D;have hib:i<cs.size:=(Array.getElem?_eq_some_iff.1 (D.has 0 _ rfl)).1;have c0:=cl (h.blk.cell 0);have c1:=cl (h.blk.cell 1);have z0:w.cell? ⟨b,i,none⟩=some (.slice none 0 0):=D.at0 rfl;have hL:=xZ g A n c l s w.drew (h.below (aC).drew).rd;have hC:=fun q=>xY g A n c l s (bI l s:Int) (w.drewN q) (h.below (bD q)).rd
 have hkn:=wW l s (bI l s:Int) 3;have hsm:=h.rd.small;have hlf:bI l s<=n:=by rw[<-h.rd.len];unfold bI;split<;>omega
 have HR:=au (show dn wU l s=iG wU l (aX l s (bI l s:Int) 3).1.toNat (aX l s (bI l s:Int) 3).2 from rfl);have HH:=au h;generalize dn wU l s=res at*;generalize aX l s (bI l s:Int) 3=x at*;obtain⟨xn,s1⟩:=x;obtain⟨N,rfl⟩:∃N:Nat,xn=(N:Int):=⟨xn.toNat,by have:=hkn.2.1;omega⟩;have hN:N<=n:=by have:=hkn.2.2 byOmega;simp only at this;omega
 clear hkn hlf;go_enter Tryz.func192,Tryz.ntmps192;go_wp2_with fail
 go_region_held3 (fun w'=>w'.cell? ⟨gc,1,none⟩=some (.pointer (some ⟨g,0,none⟩)))
  (first|exact c1|exact c1')
  (first
    |((with_reducible refine hL.mono ?_);rintro e w1 ⟨rfl,q,rfl⟩)
    |((with_reducible refine(hC _).mono ?_);rintro e w2 ⟨rfl,hrd,hg⟩;have c1':w2.cell? ⟨gc,1,none⟩=some (.pointer (some ⟨g,0,none⟩)):=((h.below (bD _)).blk.grown hg (by intro e;exact h.ne (by injection e))).cell 1))
 have hg2:w.grownBy w2 (some g):=(below_grown (bD _) _).trans hg;have h2:CR w2 g A n c l s1 gc:=HH.out.read hrd hg2;have k2:aj w2 b t cs:=D.blk.grown hg2 (by intro e;exact D.ng (by injection e));have t2:aW w w2 g b:=aW.left hg2 b;clear hg hg2 hrd hL hC c1' c1 h c0 z0;go_wp2_with fail;refine(sN w2 g A n c l s1 gc h2).mono ?_;rintro e w3 ⟨⟨q3,rfl⟩,⟨he,rfl⟩|⟨he,rfl⟩⟩
 rotate_left
 · have hQ:Below w2.heap.size w2 (w2.drewN q3):=bD _;go_wp2;exact⟨rfl,dW.bad (s':=s1) (by rw[HR.out];exact congrArg Prod.snd (sJ _ _ _ _ he)) he (h2.below hQ) (t2.trans (aW.eU g b hQ)) rfl (k2.below hQ k2.lt)⟩
 have hQ:Below w2.heap.size w2 (w2.drewN q3):=bD _;have k3:=k2.below hQ k2.lt;have h3:=h2.below hQ;have t3:=t2.trans (aW.eU g b hQ);have z3:(w2.drewN q3).cell? ⟨b,i,none⟩=some (.slice none 0 0):=(k3.cell i).trans (D.has 0 _ rfl);have f3:=k3.frozen i;have hgs:=jJ (w2.drewN q3) b i (.slice none 0 0);have h4:=h3.laid hgs fx.ng fx.nc fx.ap;have t4:=t3.trans (aW.right hgs g);have k4:aj _ b t (put cs i [.slice none 0 0]):=k3.fB i (.slice none 0 0);have hst:=qj.start (R:=fC) (E:=160) (size:=6) (f:=wU) (N:=N) h4 he k4 t4;clear k3 h3 t3 hgs h4 t4 k4 k2 h2 t2 hQ D;go_wp2_with fail
 go_loopw [39] (fun iv wr=>yj fC 160 6 wU w g A n c l gc b t cs i N s1 iv wr) (fun iv _=>N-(intOf iv).toNat)
 case atStart=>exact⟨0,_,_,_,rfl,hst⟩
 case round=>
  clear hst z3 f3;obtain⟨k,L,sk,v,rfl,hI⟩:=hrel;by_cases hlt:k<N
  · have hd1:decide ((k:Int)<(N:Int))=true:=ay;have hk0:(0:Int)<=(k:Int):=byOmega;have hk1:(k:Int)<((k+1:Nat):Int):=byOmega;have d0:=cl (hI.cr.blk.cell 0);have y0:wr.cell? ⟨b,i,none⟩=some v:=(hI.blk.cell i).trans (ug [v] cs i 0 v rfl ay);have yF:=hI.blk.lt;have hlen:=hI.len;have hzz:=hI.two.size;obtain⟨Av,qv,rfl,ni,wV⟩:=Single.form hI.row;rw[hlen]at ni y0 hI;have HI:=au hI;have hX:Below wr.heap.size wr (((wr.alloc (.cells #[.int .i64 0,.int .i64 0,.int .i64 0,.int .i64 0,.float .f64 0,.string ⟨#[]⟩] 160)).alloc (.cells #[.int .i64 0,.int .i64 0,.int .i64 0,.int .i64 0,.float .f64 0,.string ⟨#[]⟩] 160)).drew):=(((aC).alloc (Nat.le_refl _) _).alloc aA _).drew;obtain⟨xs,hown0,hrd⟩:=hI.round fC.kept fC.mono fx hlt hib (z:=[.int .i64 0,.int .i64 0,.int .i64 0,.int .i64 0,.float .f64 0,.string ⟨#[]⟩]) rfl hX;have pJ:=au hrd;have dF:=nK (wr.alloc (.cells #[.int .i64 0,.int .i64 0,.int .i64 0,.int .i64 0,.float .f64 0,.string ⟨#[]⟩] 160)) 160 [.int .i64 0,.int .i64 0,.int .i64 0,.int .i64 0,.float .f64 0,.string ⟨#[]⟩] 6 rfl;replace dF:=dF.drew;clear hrd hI;rw[hlen]at hown0;go_wp2
    go_region_law (refine wG _ rfl (.tmp 50) (.tmp 52) _ rfl w.heap.size 160 i0 _ 6 56 Tryz.underlying156 hi0 hz0 hz1 hz2 rfl byOmega (.slice Av k qv) _ xs (by simp[Act.eval]) hown0 _ (some ⟨(wr.alloc (.cells #[.int .i64 0,.int .i64 0,.int .i64 0,.int .i64 0,.float .f64 0,.string ⟨#[]⟩] 160)).heap.size,0,none⟩) 1 1 [.int .i64 0,.int .i64 0,.int .i64 0,.int .i64 0,.float .f64 0,.string ⟨#[]⟩] (by simp[Act.eval]) dF (by intro u hu;simp only[List.mem_cons,List.not_mem_nil,or_false]at hu;rcases hu with rfl|rfl|rfl|rfl|rfl|rfl<;>rfl) dX byOmega ay ?_;intro v' w5 hown5 hg5 pK;obtain⟨y5,f5,rb,cap,cur,rfl,y6,h6,D6,t6,hfin⟩:=pJ.out v' w5 (by rw[hlen];exact hown5) hg5 pK;have HF:=au hfin;clear hfin)
    all_goals
        go_wp2_with fail;refine(aaR _ g A n c l sk gc rb _ cur (k*6) h6 HI.out.e D6).mono ?_;intro e w7 hP;rcases HF.out e w7 hP.m with ⟨rfl,pO⟩|⟨rfl,hB⟩
        · go_wp2_with fail;go_roundw
          case rel=>exact⟨k+1,_,_,_,by go_num,pO⟩
          case measure=>simp[intOf];omega
        · go_wp2;exact⟨rfl,by rw[HR.out];exact hB.post hP.1⟩
  · have hd1:decide ((k:Int)<(N:Int))=false:=ay;go_wp2_with fail
    go_end0
    rw[HR.out];exact hI.done fC.mono byOmega hlt
