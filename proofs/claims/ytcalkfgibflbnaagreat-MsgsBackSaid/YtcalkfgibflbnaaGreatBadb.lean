/- The walks of a coder that reads: histories, pending ones, states. -/
import Derived.Test.YtcalkfgibflbnaaGreatBada
namespace Go.Proofs.YtcalkfgibflbnaaGreat
set_option maxHeartbeats 6000000
set_option maxRecDepth 100000
set_option linter.unusedVariables false
open Go.RowKit Fl
attribute [local go_sem] dJ
theorem agI:rJ 143 aQ 2 ([.string ⟨#[]⟩]++([.slice none 0 0])) sH:=by
 intro w g A n c l s gc b t cs i h hs D;have gl:=h.rd.blk.lt;have bl:=D.blk.lt;go_enter Tryz.func143,Tryz.ntmps143;go_wp2_with fail;refine(DV w g A n c l s gc b t cs i h hs D.fst).mono ?_;rintro e w1 ⟨h1,t1,⟨e1,rfl,v1,l1,k1,n1⟩|⟨e1,rfl,cs1,l1,k1⟩⟩
 rotate_left
 · go_wp2;exact⟨rfl,dW.bad (s':=(iF l s).2) ((jv _) l _ e1) e1 h1 t1 l1 k1⟩
 have D1:=D.oG k1 l1 rfl (i+1) rfl;clear k1;go_wp2_with fail;refine(agH w1 g A n c l (iF l s).2 gc b t _ (i+1) h1 e1 D1).mono ?_;rintro e w2 ⟨h2,t2,⟨e2,rfl,v2,l2,k2,n2⟩|⟨e2,rfl,cs2,l2,k2⟩⟩
 rotate_left
 · go_wp2;exact⟨rfl,dW.bad (s':=(dn wU l (iF l s).2).2) rfl e2 h2 (t1.trans t2) (l2.trans (fV _ _ _)) k2⟩
 go_wp2
 go_end0
 refine⟨h2,(t1.trans t2),.inl ⟨e2,rfl,v1++(v2),by simp only[aK,l1,l2],?_,?_⟩⟩
 · rw[nV,l1];exact k2
 · obtain⟨rfl,o1⟩:=n1;obtain⟨u2,rfl,o2⟩:=n2.on (jl.kept fC.kept) (jl.mono fC.mono) (aW.refl _ g b) (by have:=t1.size;have:=t2.size;omega) (by have:=t1.size;have:=t2.size;omega) (lo:=w.heap.size) (hi:=w2.heap.size) (by have:=t1.size;have:=t2.size;omega) (by have:=t1.size;have:=t2.size;omega);exact⟨u2,rfl,o1,o2⟩
theorem agJ:yg 142 143 aQ 2 sH:=by
 obtain⟨i0,hi0,hz0,hz1,hz2⟩:=info_parts ZF;intro w g A n c l s gc b t cs i h hs D;have fx:=h.fix D;have hib:i<cs.size:=(Array.getElem?_eq_some_iff.1 (D.has 0 _ rfl)).1;have c0:=cl (h.blk.cell 0);have c1:=cl (h.blk.cell 1);have z0:w.cell? ⟨b,i,none⟩=some (.slice none 0 0):=D.at0 rfl;have hL:=xZ g A n c l s w.drew (h.below (aC).drew).rd;have hC:=fun q=>xY g A n c l s (bI l s:Int) (w.drewN q) (h.below (bD q)).rd
 have hkn:=wW l s (bI l s:Int) 3;have hsm:=h.rd.small;have hlf:bI l s<=n:=by rw[<-h.rd.len];unfold bI;split<;>omega
 have HR:=au (show dn sH l s=iG sH l (aX l s (bI l s:Int) 3).1.toNat (aX l s (bI l s:Int) 3).2 from rfl);have HH:=au h;generalize dn sH l s=res at*;generalize aX l s (bI l s:Int) 3=x at*;obtain⟨xn,s1⟩:=x;obtain⟨N,rfl⟩:∃N:Nat,xn=(N:Int):=⟨xn.toNat,by have:=hkn.2.1;omega⟩;have hN:N<=n:=by have:=hkn.2.2 byOmega;simp only at this;omega
 clear hkn hlf;go_enter Tryz.func142,Tryz.ntmps142;go_wp2_with fail
 go_region_held3 (fun w'=>w'.cell? ⟨gc,1,none⟩=some (.pointer (some ⟨g,0,none⟩)))
  (first|exact c1|exact c1')
  (first
    |((with_reducible refine hL.mono ?_);rintro e w1 ⟨rfl,q,rfl⟩)
    |((with_reducible refine(hC _).mono ?_);rintro e w2 ⟨rfl,hrd,hg⟩;have c1':w2.cell? ⟨gc,1,none⟩=some (.pointer (some ⟨g,0,none⟩)):=((h.below (bD _)).blk.grown hg (by intro e;exact h.ne (by injection e))).cell 1))
 have hg2:w.grownBy w2 (some g):=(below_grown (bD _) _).trans hg;have h2:CR w2 g A n c l s1 gc:=HH.out.read hrd hg2;have k2:aj w2 b t cs:=D.blk.grown hg2 (by intro e;exact D.ng (by injection e));have t2:aW w w2 g b:=aW.left hg2 b;clear hg hg2 hrd hL hC c1' c1 h c0 z0;go_wp2_with fail;refine(sN w2 g A n c l s1 gc h2).mono ?_;rintro e w3 ⟨⟨q3,rfl⟩,⟨he,rfl⟩|⟨he,rfl⟩⟩
 rotate_left
 · have hQ:Below w2.heap.size w2 (w2.drewN q3):=bD _;go_wp2;exact⟨rfl,dW.bad (s':=s1) (by rw[HR.out];exact congrArg Prod.snd (sJ _ _ _ _ he)) he (h2.below hQ) (t2.trans (aW.eU g b hQ)) rfl (k2.below hQ k2.lt)⟩
 have hQ:Below w2.heap.size w2 (w2.drewN q3):=bD _;have k3:=k2.below hQ k2.lt;have h3:=h2.below hQ;have t3:=t2.trans (aW.eU g b hQ);have z3:(w2.drewN q3).cell? ⟨b,i,none⟩=some (.slice none 0 0):=(k3.cell i).trans (D.has 0 _ rfl);have f3:=k3.frozen i;have hgs:=jJ (w2.drewN q3) b i (.slice none 0 0);have h4:=h3.laid hgs fx.ng fx.nc fx.ap;have t4:=t3.trans (aW.right hgs g);have k4:aj _ b t (put cs i [.slice none 0 0]):=k3.fB i (.slice none 0 0);have hst:=qj.start (R:=aQ) (E:=158) (size:=2) (f:=sH) (N:=N) h4 he k4 t4;clear k3 h3 t3 hgs h4 t4 k4 k2 h2 t2 hQ D;go_wp2_with fail
 go_loopw [39] (fun iv wr=>yj aQ 158 2 sH w g A n c l gc b t cs i N s1 iv wr) (fun iv _=>N-(intOf iv).toNat)
 case atStart=>exact⟨0,_,_,_,rfl,hst⟩
 case round=>
  clear hst z3 f3;obtain⟨k,L,sk,v,rfl,hI⟩:=hrel;by_cases hlt:k<N
  · have hd1:decide ((k:Int)<(N:Int))=true:=ay;have hk0:(0:Int)<=(k:Int):=byOmega;have hk1:(k:Int)<((k+1:Nat):Int):=byOmega;have d0:=cl (hI.cr.blk.cell 0);have y0:wr.cell? ⟨b,i,none⟩=some v:=(hI.blk.cell i).trans (ug [v] cs i 0 v rfl ay);have yF:=hI.blk.lt;have hlen:=hI.len;have hzz:=hI.two.size;obtain⟨Av,qv,rfl,ni,wV⟩:=Single.form hI.row;rw[hlen]at ni y0 hI;have HI:=au hI;have hX:Below wr.heap.size wr (((wr.alloc (.cells #[.string ⟨#[]⟩,.slice none 0 0] 158)).alloc (.cells #[.string ⟨#[]⟩,.slice none 0 0] 158)).drew):=(((aC).alloc (Nat.le_refl _) _).alloc aA _).drew;obtain⟨xs,hown0,hrd⟩:=hI.round aQ.kept aQ.mono fx hlt hib (z:=[.string ⟨#[]⟩,.slice none 0 0]) rfl hX;have pJ:=au hrd;have dF:=nK (wr.alloc (.cells #[.string ⟨#[]⟩,.slice none 0 0] 158)) 158 [.string ⟨#[]⟩,.slice none 0 0] 2 rfl;replace dF:=dF.drew;clear hrd hI;rw[hlen]at hown0;go_wp2
    go_region_law (refine wG _ rfl (.tmp 50) (.tmp 52) _ rfl w.heap.size 158 i0 _ 2 40 Tryz.underlying36 hi0 hz0 hz1 hz2 rfl byOmega (.slice Av k qv) _ xs (by simp[Act.eval]) hown0 _ (some ⟨(wr.alloc (.cells #[.string ⟨#[]⟩,.slice none 0 0] 158)).heap.size,0,none⟩) 1 1 [.string ⟨#[]⟩,.slice none 0 0] (by simp[Act.eval]) dF (by intro u hu;simp only[List.mem_cons,List.not_mem_nil,or_false]at hu;rcases hu with rfl|rfl<;>rfl) dX byOmega ay ?_;intro v' w5 hown5 hg5 pK;obtain⟨y5,f5,rb,cap,cur,rfl,y6,h6,D6,t6,hfin⟩:=pJ.out v' w5 (by rw[hlen];exact hown5) hg5 pK;have HF:=au hfin;clear hfin)
    all_goals
        go_wp2_with fail;refine(agI _ g A n c l sk gc rb _ cur (k*2) h6 HI.out.e D6).mono ?_;intro e w7 hP;rcases HF.out e w7 hP.m with ⟨rfl,pO⟩|⟨rfl,hB⟩
        · go_wp2_with fail;go_roundw
          case rel=>exact⟨k+1,_,_,_,by go_num,pO⟩
          case measure=>simp[intOf];omega
        · go_wp2;exact⟨rfl,by rw[HR.out];exact hB.post hP.1⟩
  · have hd1:decide ((k:Int)<(N:Int))=false:=ay;go_wp2_with fail
    go_end0
    rw[HR.out];exact hI.done aQ.mono byOmega hlt
theorem Wl:rJ 145 aP 8 ([.int .i64 0,.int .i64 0,.int .i64 0]++([.int .i64 0,.int .i64 0,.int .i64 0]++([.slice none 0 0]++([.slice none 0 0])))) pq:=by
 intro w g A n c l s gc b t cs i h hs D;have gl:=h.rd.blk.lt;have bl:=D.blk.lt;go_enter Tryz.func145,Tryz.ntmps145;go_wp2_with fail;refine(BJ w g A n c l s gc b t cs i h hs D.fst).mono ?_;rintro e w1 ⟨h1,t1,⟨e1,rfl,v1,l1,k1,n1⟩|⟨e1,rfl,cs1,l1,k1⟩⟩
 rotate_left
 · go_wp2;exact⟨rfl,dW.bad (s':=(oD l s).2) ((kX (mk:=fun _ _=>()) (kX (mk:=fun _ _=>()) qH (jv _)) (jv _)) l _ e1) e1 h1 t1 l1 k1⟩
 have D1:=D.oG k1 l1 rfl (i+3) rfl;clear k1;go_wp2_with fail;refine(nX w1 g A n c l (oD l s).2 gc b t _ (i+3) h1 e1 D1.fst).mono ?_;rintro e w2 ⟨h2,t2,⟨e2,rfl,v2,l2,k2,n2⟩|⟨e2,rfl,cs2,l2,k2⟩⟩
 rotate_left
 · go_wp2;exact⟨rfl,dW.bad (s':=(dY l (oD l s).2).2) ((kX (mk:=fun _ _=>()) (jv _) (jv _)) l _ e2) e2 h2 (t1.trans t2) (l2.trans (fV _ _ _)) k2⟩
 have D2:=D1.oG k2 l2 rfl (i+6) byOmega;clear k2;go_wp2_with fail;refine(Wj w2 g A n c l (dY l (oD l s).2).2 gc b t _ (i+6) h2 e2 D2.fst).mono ?_;rintro e w3 ⟨h3,t3,⟨e3,rfl,v3,l3,k3,n3⟩|⟨e3,rfl,FH,l3,k3⟩⟩
 rotate_left
 · go_wp2;exact⟨rfl,dW.bad (s':=(dn iF l (dY l (oD l s).2).2).2) ((jv _) l _ e3) e3 h3 ((t1.trans t2).trans t3) (l3.trans ((fV _ _ _).trans (fV _ _ _))) k3⟩
 have D3:=D2.oG k3 l3 rfl (i+7) byOmega;clear k3;go_wp2_with fail;refine(JO w3 g A n c l (dn iF l (dY l (oD l s).2).2).2 gc b t _ (i+7) h3 e3 D3).mono ?_;rintro e w4 ⟨h4,t4,⟨e4,rfl,v4,l4,k4,n4⟩|⟨e4,rfl,RN,l4,k4⟩⟩
 rotate_left
 · go_wp2;exact⟨rfl,dW.bad (s':=(dn nT l (dn iF l (dY l (oD l s).2).2).2).2) rfl e4 h4 (((t1.trans t2).trans t3).trans t4) (l4.trans ((fV _ _ _).trans ((fV _ _ _).trans (fV _ _ _)))) k4⟩
 go_wp2
 go_end0
 refine⟨h4,(((t1.trans t2).trans t3).trans t4),.inl ⟨e4,rfl,v1++(v2++(v3++(v4))),by simp only[aK,l1,l2,l3,l4],?_,?_⟩⟩
 · rw[nV,l1,nV,l2,nV,l3];exact k4
 · obtain⟨rfl,o1⟩:=n1;obtain⟨rfl,o2⟩:=n2;obtain⟨u3,rfl,o3⟩:=n3.on (jl.kept aO.kept) (jl.mono aO.mono) t4 (by have:=t1.size;have:=t2.size;have:=t3.size;have:=t4.size;omega) (by have:=t1.size;have:=t2.size;have:=t3.size;have:=t4.size;omega) (lo:=w.heap.size) (hi:=w4.heap.size) (by have:=t1.size;have:=t2.size;have:=t3.size;have:=t4.size;omega) (by have:=t1.size;have:=t2.size;have:=t3.size;have:=t4.size;omega);obtain⟨u4,rfl,o4⟩:=n4.on (jl.kept aF.kept) (jl.mono aF.mono) (aW.refl _ g b) (by have:=t1.size;have:=t2.size;have:=t3.size;have:=t4.size;omega) (by have:=t1.size;have:=t2.size;have:=t3.size;have:=t4.size;omega) (lo:=w.heap.size) (hi:=w4.heap.size) (by have:=t1.size;have:=t2.size;have:=t3.size;have:=t4.size;omega) (by have:=t1.size;have:=t2.size;have:=t3.size;have:=t4.size;omega);exact⟨u3,u4,rfl,o1,o2,o3,o4⟩
theorem agK:yg 144 145 aP 8 pq:=by
 obtain⟨i0,hi0,hz0,hz1,hz2⟩:=info_parts QC;intro w g A n c l s gc b t cs i h hs D;have fx:=h.fix D;have hib:i<cs.size:=(Array.getElem?_eq_some_iff.1 (D.has 0 _ rfl)).1;have c0:=cl (h.blk.cell 0);have c1:=cl (h.blk.cell 1);have z0:w.cell? ⟨b,i,none⟩=some (.slice none 0 0):=D.at0 rfl;have hL:=xZ g A n c l s w.drew (h.below (aC).drew).rd;have hC:=fun q=>xY g A n c l s (bI l s:Int) (w.drewN q) (h.below (bD q)).rd
 have hkn:=wW l s (bI l s:Int) 3;have hsm:=h.rd.small;have hlf:bI l s<=n:=by rw[<-h.rd.len];unfold bI;split<;>omega
 have HR:=au (show dn pq l s=iG pq l (aX l s (bI l s:Int) 3).1.toNat (aX l s (bI l s:Int) 3).2 from rfl);have HH:=au h;generalize dn pq l s=res at*;generalize aX l s (bI l s:Int) 3=x at*;obtain⟨xn,s1⟩:=x;obtain⟨N,rfl⟩:∃N:Nat,xn=(N:Int):=⟨xn.toNat,by have:=hkn.2.1;omega⟩;have hN:N<=n:=by have:=hkn.2.2 byOmega;simp only at this;omega
 clear hkn hlf;go_enter Tryz.func144,Tryz.ntmps144;go_wp2_with fail
 go_region_held3 (fun w'=>w'.cell? ⟨gc,1,none⟩=some (.pointer (some ⟨g,0,none⟩)))
  (first|exact c1|exact c1')
  (first
    |((with_reducible refine hL.mono ?_);rintro e w1 ⟨rfl,q,rfl⟩)
    |((with_reducible refine(hC _).mono ?_);rintro e w2 ⟨rfl,hrd,hg⟩;have c1':w2.cell? ⟨gc,1,none⟩=some (.pointer (some ⟨g,0,none⟩)):=((h.below (bD _)).blk.grown hg (by intro e;exact h.ne (by injection e))).cell 1))
 have hg2:w.grownBy w2 (some g):=(below_grown (bD _) _).trans hg;have h2:CR w2 g A n c l s1 gc:=HH.out.read hrd hg2;have k2:aj w2 b t cs:=D.blk.grown hg2 (by intro e;exact D.ng (by injection e));have t2:aW w w2 g b:=aW.left hg2 b;clear hg hg2 hrd hL hC c1' c1 h c0 z0;go_wp2_with fail;refine(sN w2 g A n c l s1 gc h2).mono ?_;rintro e w3 ⟨⟨q3,rfl⟩,⟨he,rfl⟩|⟨he,rfl⟩⟩
 rotate_left
 · have hQ:Below w2.heap.size w2 (w2.drewN q3):=bD _;go_wp2;exact⟨rfl,dW.bad (s':=s1) (by rw[HR.out];exact congrArg Prod.snd (sJ _ _ _ _ he)) he (h2.below hQ) (t2.trans (aW.eU g b hQ)) rfl (k2.below hQ k2.lt)⟩
 have hQ:Below w2.heap.size w2 (w2.drewN q3):=bD _;have k3:=k2.below hQ k2.lt;have h3:=h2.below hQ;have t3:=t2.trans (aW.eU g b hQ);have z3:(w2.drewN q3).cell? ⟨b,i,none⟩=some (.slice none 0 0):=(k3.cell i).trans (D.has 0 _ rfl);have f3:=k3.frozen i;have hgs:=jJ (w2.drewN q3) b i (.slice none 0 0);have h4:=h3.laid hgs fx.ng fx.nc fx.ap;have t4:=t3.trans (aW.right hgs g);have k4:aj _ b t (put cs i [.slice none 0 0]):=k3.fB i (.slice none 0 0);have hst:=qj.start (R:=aP) (E:=162) (size:=8) (f:=pq) (N:=N) h4 he k4 t4;clear k3 h3 t3 hgs h4 t4 k4 k2 h2 t2 hQ D;go_wp2_with fail
 go_loopw [39] (fun iv wr=>yj aP 162 8 pq w g A n c l gc b t cs i N s1 iv wr) (fun iv _=>N-(intOf iv).toNat)
 case atStart=>exact⟨0,_,_,_,rfl,hst⟩
 case round=>
  clear hst z3 f3;obtain⟨k,L,sk,v,rfl,hI⟩:=hrel;by_cases hlt:k<N
  · have hd1:decide ((k:Int)<(N:Int))=true:=ay;have hk0:(0:Int)<=(k:Int):=byOmega;have hk1:(k:Int)<((k+1:Nat):Int):=byOmega;have d0:=cl (hI.cr.blk.cell 0);have y0:wr.cell? ⟨b,i,none⟩=some v:=(hI.blk.cell i).trans (ug [v] cs i 0 v rfl ay);have yF:=hI.blk.lt;have hlen:=hI.len;have hzz:=hI.two.size;obtain⟨Av,qv,rfl,ni,wV⟩:=Single.form hI.row;rw[hlen]at ni y0 hI;have HI:=au hI;have hX:Below wr.heap.size wr (((wr.alloc (.cells #[.int .i64 0,.int .i64 0,.int .i64 0,.int .i64 0,.int .i64 0,.int .i64 0,.slice none 0 0,.slice none 0 0] 162)).alloc (.cells #[.int .i64 0,.int .i64 0,.int .i64 0,.int .i64 0,.int .i64 0,.int .i64 0,.slice none 0 0,.slice none 0 0] 162)).drew):=(((aC).alloc (Nat.le_refl _) _).alloc aA _).drew;obtain⟨xs,hown0,hrd⟩:=hI.round aP.kept aP.mono fx hlt hib (z:=[.int .i64 0,.int .i64 0,.int .i64 0,.int .i64 0,.int .i64 0,.int .i64 0,.slice none 0 0,.slice none 0 0]) rfl hX;have pJ:=au hrd;have dF:=nK (wr.alloc (.cells #[.int .i64 0,.int .i64 0,.int .i64 0,.int .i64 0,.int .i64 0,.int .i64 0,.slice none 0 0,.slice none 0 0] 162)) 162 [.int .i64 0,.int .i64 0,.int .i64 0,.int .i64 0,.int .i64 0,.int .i64 0,.slice none 0 0,.slice none 0 0] 8 rfl;replace dF:=dF.drew;clear hrd hI;rw[hlen]at hown0;go_wp2
    go_region_law (refine wG _ rfl (.tmp 50) (.tmp 52) _ rfl w.heap.size 162 i0 _ 8 96 Tryz.underlying37 hi0 hz0 hz1 hz2 rfl byOmega (.slice Av k qv) _ xs (by simp[Act.eval]) hown0 _ (some ⟨(wr.alloc (.cells #[.int .i64 0,.int .i64 0,.int .i64 0,.int .i64 0,.int .i64 0,.int .i64 0,.slice none 0 0,.slice none 0 0] 162)).heap.size,0,none⟩) 1 1 [.int .i64 0,.int .i64 0,.int .i64 0,.int .i64 0,.int .i64 0,.int .i64 0,.slice none 0 0,.slice none 0 0] (by simp[Act.eval]) dF (by intro u hu;simp only[List.mem_cons,List.not_mem_nil,or_false]at hu;rcases hu with rfl|rfl|rfl|rfl|rfl|rfl|rfl|rfl<;>rfl) dX byOmega ay ?_;intro v' w5 hown5 hg5 pK;obtain⟨y5,f5,rb,cap,cur,rfl,y6,h6,D6,t6,hfin⟩:=pJ.out v' w5 (by rw[hlen];exact hown5) hg5 pK;have HF:=au hfin;clear hfin)
    all_goals
        go_wp2_with fail;refine(Wl _ g A n c l sk gc rb _ cur (k*8) h6 HI.out.e D6).mono ?_;intro e w7 hP;rcases HF.out e w7 hP.m with ⟨rfl,pO⟩|⟨rfl,hB⟩
        · go_wp2_with fail;go_roundw
          case rel=>exact⟨k+1,_,_,_,by go_num,pO⟩
          case measure=>simp[intOf];omega
        · go_wp2;exact⟨rfl,by rw[HR.out];exact hB.post hP.1⟩
  · have hd1:decide ((k:Int)<(N:Int))=false:=ay;go_wp2_with fail
    go_end0
    rw[HR.out];exact hI.done aP.mono byOmega hlt
theorem Wn:rJ 88 zO 12 ([.int .i64 0,.int .i64 0,.float .f64 0,.float .f64 0]++([.int .i64 0,.int .i64 0,.int .i64 0]++([.int .i64 0,.int .i64 0,.int .i64 0]++([.slice none 0 0]++([.slice none 0 0]))))) xW:=by
 intro w g A n c l s gc b t cs i h hs D;have gl:=h.rd.blk.lt;have bl:=D.blk.lt;go_enter Tryz.func88,Tryz.ntmps88;go_wp2_with fail;refine(RJ w g A n c l s gc b t cs i h hs D.fst).mono ?_;rintro e w1 ⟨h1,t1,⟨e1,rfl,v1,l1,k1,n1⟩|⟨e1,rfl,cs1,l1,k1⟩⟩
 rotate_left
 · go_wp2;exact⟨rfl,dW.bad (s':=(kF l s).2) ((kX (mk:=fun _ _=>()) (kX (mk:=fun _ _=>()) (kX (mk:=fun _ _=>()) qH qH) (jv _)) (jv _)) l _ e1) e1 h1 t1 l1 k1⟩
 have D1:=D.oG k1 l1 rfl (i+4) rfl;clear k1;go_wp2_with fail;refine(nX w1 g A n c l (kF l s).2 gc b t _ (i+4) h1 e1 D1.fst).mono ?_;rintro e w2 ⟨h2,t2,⟨e2,rfl,v2,l2,k2,n2⟩|⟨e2,rfl,cs2,l2,k2⟩⟩
 rotate_left
 · go_wp2;exact⟨rfl,dW.bad (s':=(dY l (kF l s).2).2) ((kX (mk:=fun _ _=>()) (kX (mk:=fun _ _=>()) qH (jv _)) (jv _)) l _ e2) e2 h2 (t1.trans t2) (l2.trans (fV _ _ _)) k2⟩
 have D2:=D1.oG k2 l2 rfl (i+7) byOmega;clear k2;go_wp2_with fail;refine(nX w2 g A n c l (dY l (kF l s).2).2 gc b t _ (i+7) h2 e2 D2.fst).mono ?_;rintro e w3 ⟨h3,t3,⟨e3,rfl,v3,l3,k3,n3⟩|⟨e3,rfl,FH,l3,k3⟩⟩
 rotate_left
 · go_wp2;exact⟨rfl,dW.bad (s':=(dY l (dY l (kF l s).2).2).2) ((kX (mk:=fun _ _=>()) (jv _) (jv _)) l _ e3) e3 h3 ((t1.trans t2).trans t3) (l3.trans ((fV _ _ _).trans (fV _ _ _))) k3⟩
 have D3:=D2.oG k3 l3 rfl (i+10) byOmega;clear k3;go_wp2_with fail;refine(agJ w3 g A n c l (dY l (dY l (kF l s).2).2).2 gc b t _ (i+10) h3 e3 D3.fst).mono ?_;rintro e w4 ⟨h4,t4,⟨e4,rfl,v4,l4,k4,n4⟩|⟨e4,rfl,RN,l4,k4⟩⟩
 rotate_left
 · go_wp2;exact⟨rfl,dW.bad (s':=(dn sH l (dY l (dY l (kF l s).2).2).2).2) ((jv _) l _ e4) e4 h4 (((t1.trans t2).trans t3).trans t4) (l4.trans ((fV _ _ _).trans ((fV _ _ _).trans (fV _ _ _)))) k4⟩
 have D4:=D3.oG k4 l4 rfl (i+11) byOmega;clear k4;go_wp2_with fail;refine(agK w4 g A n c l (dn sH l (dY l (dY l (kF l s).2).2).2).2 gc b t _ (i+11) h4 e4 D4).mono ?_;rintro e w5 ⟨h5,t5,⟨e5,rfl,v5,l5,k5,n5⟩|⟨e5,rfl,cs5,l5,k5⟩⟩
 rotate_left
 · go_wp2;exact⟨rfl,dW.bad (s':=(dn pq l (dn sH l (dY l (dY l (kF l s).2).2).2).2).2) rfl e5 h5 ((((t1.trans t2).trans t3).trans t4).trans t5) (l5.trans ((fV _ _ _).trans ((fV _ _ _).trans ((fV _ _ _).trans (fV _ _ _))))) k5⟩
 go_wp2
 go_end0
 refine⟨h5,((((t1.trans t2).trans t3).trans t4).trans t5),.inl ⟨e5,rfl,v1++(v2++(v3++(v4++(v5)))),by simp only[aK,l1,l2,l3,l4,l5],?_,?_⟩⟩
 · rw[nV,l1,nV,l2,nV,l3,nV,l4];exact k5
 · obtain⟨rfl,o1⟩:=n1;obtain⟨rfl,o2⟩:=n2;obtain⟨rfl,o3⟩:=n3;obtain⟨u4,rfl,o4⟩:=n4.on (jl.kept aQ.kept) (jl.mono aQ.mono) t5 (by have:=t1.size;have:=t2.size;have:=t3.size;have:=t4.size;have:=t5.size;omega) (by have:=t1.size;have:=t2.size;have:=t3.size;have:=t4.size;have:=t5.size;omega) (lo:=w.heap.size) (hi:=w5.heap.size) (by have:=t1.size;have:=t2.size;have:=t3.size;have:=t4.size;have:=t5.size;omega) (by have:=t1.size;have:=t2.size;have:=t3.size;have:=t4.size;have:=t5.size;omega);obtain⟨u5,rfl,o5⟩:=n5.on (jl.kept aP.kept) (jl.mono aP.mono) (aW.refl _ g b) (by have:=t1.size;have:=t2.size;have:=t3.size;have:=t4.size;have:=t5.size;omega) (by have:=t1.size;have:=t2.size;have:=t3.size;have:=t4.size;have:=t5.size;omega) (lo:=w.heap.size) (hi:=w5.heap.size) (by have:=t1.size;have:=t2.size;have:=t3.size;have:=t4.size;have:=t5.size;omega) (by have:=t1.size;have:=t2.size;have:=t3.size;have:=t4.size;have:=t5.size;omega);exact⟨u4,u5,rfl,o1,o2,o3,o4,o5⟩
