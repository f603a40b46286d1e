/- The walks of a coder that reads: lists. -/
import Derived.Test.YtcalkfgibflbnaaGreatDaci
namespace Go.Proofs.YtcalkfgibflbnaaGreat
set_option maxHeartbeats 4000000
set_option maxRecDepth 100000
set_option linter.unusedVariables false
open Go.RowKit Fl
attribute [local go_sem] run_store_float
theorem rlInt:ListR 137 81 NmRel 1 rInt:=by
 obtain⟨i0,hi0,hz0,hz1,hz2⟩:=info_parts nmR_info
 intro w g A n c l s gc b t cs i h hs D
 have fx:=h.fix D
 have hib:i<cs.size:=(Array.getElem?_eq_some_iff.1 (D.has 0 _ rfl)).1
 have c0:=cl (h.blk.cell 0)
 have c1:=cl (h.blk.cell 1)
 have z0:w.cell? ⟨b,i,none⟩=some (.slice none 0 0):=D.at0 rfl
 have hL:=wRLeft g A n c l s w.drew (h.below (Below.refl _ _).drew).rd
 have hC:=fun q=>wRCount g A n c l s (rLeft l s:Int) (w.drewN q) (h.below (belowN q)).rd
 have hkn:=rCount_ok l s (rLeft l s:Int) 3
 have hsm:=h.rd.small
 have hlf:rLeft l s≤n:=by rw[←h.rd.len];unfold rLeft;split<;>omega
 have HR:=Lib.hid (show rLs rInt l s=rLoop rInt l (rCount l s (rLeft l s:Int) 3).1.toNat (rCount l s (rLeft l s:Int) 3).2 from rfl)
 have HH:=Lib.hid h
 generalize rLs rInt l s=res at*
 generalize rCount l s (rLeft l s:Int) 3=x at*
 obtain⟨xn,s1⟩:=x
 obtain⟨N,rfl⟩:∃N:Nat,xn=(N:Int):=⟨xn.toNat,by have:=hkn.2.1;omega⟩
 have hN:N≤n:=by have:=hkn.2.2 (by omega);simp only at this;omega
 clear hkn hlf
 go_enter Tryz.func137,Tryz.ntmps137
 go_wp2_with fail
 go_region_held3 (fun w'=>w'.cell? ⟨gc,1,none⟩=some (.pointer (some ⟨g,0,none⟩)))
  (first|exact c1|exact c1')
  (first
    |((with_reducible refine hL.mono ?_);rintro e w1 ⟨rfl,q,rfl⟩)
    |((with_reducible refine(hC _).mono ?_);rintro e w2 ⟨rfl,hrd,hg⟩;have c1':w2.cell? ⟨gc,1,none⟩=some (.pointer (some ⟨g,0,none⟩)):=((h.below (belowN _)).blk.grown hg (by intro e;exact h.ne (by injection e))).cell 1))
 have hg2:w.grownBy w2 (some g):=(below_grown (belowN _) _).trans hg
 have h2:CR w2 g A n c l s1 gc:=HH.out.read hrd hg2
 have k2:Blk w2 b t cs:=D.blk.grown hg2 (by intro e;exact D.ng (by injection e))
 have t2:Two2 w w2 g b:=Two2.left hg2 b
 clear hg hg2 hrd hL hC c1' c1 h c0 z0
 go_wp2_with fail
 refine(look_any w2 g A n c l s1 gc h2).mono ?_
 rintro e w3 ⟨⟨q3,rfl⟩,⟨he,rfl⟩|⟨he,rfl⟩⟩
 rotate_left
 · have hQ:Below w2.heap.size w2 (w2.drewN q3):=belowN _
   go_wp2
   exact⟨rfl,RPost.bad (s':=s1) (by rw[HR.out];exact congrArg Prod.snd (rLoop_stk _ _ _ _ he)) he (h2.below hQ) (t2.trans (Two2.ofBelow g b hQ)) rfl (k2.below hQ k2.lt)⟩
 have hQ:Below w2.heap.size w2 (w2.drewN q3):=belowN _
 have k3:=k2.below hQ k2.lt
 have h3:=h2.below hQ
 have t3:=t2.trans (Two2.ofBelow g b hQ)
 have z3:(w2.drewN q3).cell? ⟨b,i,none⟩=some (.slice none 0 0):=(k3.cell i).trans (D.has 0 _ rfl)
 have f3:=k3.frozen i
 have hgs:=grown_set (w2.drewN q3) b i (.slice none 0 0)
 have h4:=h3.laid hgs fx.ng fx.nc fx.ap
 have t4:=t3.trans (Two2.right hgs g)
 have k4:Blk _ b t (put cs i [.slice none 0 0]):=k3.set_ i (.slice none 0 0)
 have hst:=LInv.start (R:=NmRel) (E:=3) (size:=1) (f:=rInt) (N:=N) h4 he k4 t4
 clear k3 h3 t3 hgs h4 t4 k4 k2 h2 t2 hQ D
 go_wp2_with fail
 go_loopw [39] (fun iv wr=>LHead NmRel 3 1 rInt w g A n c l gc b t cs i N s1 iv wr) (fun iv _=>N-(intOf iv).toNat)
 case atStart=>exact⟨0,_,_,_,rfl,hst⟩
 case round=>
  clear hst z3 f3
  obtain⟨k,L,sk,v,rfl,hI⟩:=hrel
  by_cases hlt:k<N
  · have hd1:decide ((k:Int)<(N:Int))=true:=by simp;omega
    have hk0:(0:Int)≤(k:Int):=by omega
    have hk1:(k:Int)<((k+1:Nat):Int):=by omega
    have d0:=cl (hI.cr.blk.cell 0)
    have y0:wr.cell? ⟨b,i,none⟩=some v:=(hI.blk.cell i).trans (put_in [v] cs i 0 v rfl (by simp;omega))
    have bl2:=hI.blk.lt
    have hlen:=hI.len
    have hzz:=hI.two.size
    obtain⟨Av,qv,rfl,hqv,hqvm⟩:=Single.form hI.row
    rw[hlen]at hqv y0 hI
    have HI:=Lib.hid hI
    have hX:Below wr.heap.size wr (wr.alloc (.cells #[.int .i64 0] 3)):=(Below.refl _ _).alloc (Nat.le_refl _) _
    obtain⟨xs,hown0,hrd⟩:=hI.round NmRel.kept NmRel.mono fx hlt hib (z:=[.int .i64 0]) rfl hX
    have HRD:=Lib.hid hrd
    have hrd0:=reads_new' wr 3 [.int .i64 0] 1 rfl
    clear hrd hI
    rw[hlen]at hown0
    go_wp2_with (first
        |(at_builtin
          refine wpList_append_any _ rfl (.tmp 50) (.tmp 52) _ rfl w.heap.size 3 i0 _ 1 8 Tryz.underlying30 hi0 hz0 hz1 hz2 rfl (by omega) (.slice Av k qv) _ xs (by rfl) hown0 _ (some ⟨wr.heap.size,0,none⟩) 1 1 [.int .i64 0] (by rfl) hrd0 (nm_one 0) (by unfold maxLen;omega) (by omega) (by simp;omega) ?_
          intro v' w5 hown5 hg5 hat5
          obtain⟨y5,f5,rb,cap,cur,rfl,y6,h6,D6,t6,hfin⟩:=HRD.out v' w5 (by rw[hlen];exact hown5) hg5 hat5
          rw[Nat.mul_one]at D6 hfin
          have HF:=Lib.hid hfin
          clear hfin)
        |fail)
    refine(rcInt _ g A n c l sk gc rb _ cur k h6 HI.out.e D6).mono ?_
    intro e w7 hP
    rcases HF.out e w7 hP.m with ⟨rfl,hI7⟩|⟨rfl,hB⟩
    · go_wp2_with fail
      go_roundw
      case rel=>exact⟨k+1,_,_,_,by go_num,hI7⟩
      case measure=>simp[intOf];omega
    · go_wp2
      exact⟨rfl,by rw[HR.out];exact hB.post hP.1⟩
  · have hd1:decide ((k:Int)<(N:Int))=false:=by simp;omega
    go_wp2_with fail
    go_end0
    rw[HR.out]
    exact hI.done NmRel.mono (by omega) hlt
theorem rlText:ListR 131 132 KyRel 1 rKey:=by
 obtain⟨i0,hi0,hz0,hz1,hz2⟩:=info_parts ky_info
 intro w g A n c l s gc b t cs i h hs D
 have fx:=h.fix D
 have hib:i<cs.size:=(Array.getElem?_eq_some_iff.1 (D.has 0 _ rfl)).1
 have c0:=cl (h.blk.cell 0)
 have c1:=cl (h.blk.cell 1)
 have z0:w.cell? ⟨b,i,none⟩=some (.slice none 0 0):=D.at0 rfl
 have hL:=wRLeft g A n c l s w.drew (h.below (Below.refl _ _).drew).rd
 have hC:=fun q=>wRCount g A n c l s (rLeft l s:Int) (w.drewN q) (h.below (belowN q)).rd
 have hkn:=rCount_ok l s (rLeft l s:Int) 3
 have hsm:=h.rd.small
 have hlf:rLeft l s≤n:=by rw[←h.rd.len];unfold rLeft;split<;>omega
 have HR:=Lib.hid (show rLs rKey l s=rLoop rKey l (rCount l s (rLeft l s:Int) 3).1.toNat (rCount l s (rLeft l s:Int) 3).2 from rfl)
 have HH:=Lib.hid h
 generalize rLs rKey l s=res at*
 generalize rCount l s (rLeft l s:Int) 3=x at*
 obtain⟨xn,s1⟩:=x
 obtain⟨N,rfl⟩:∃N:Nat,xn=(N:Int):=⟨xn.toNat,by have:=hkn.2.1;omega⟩
 have hN:N≤n:=by have:=hkn.2.2 (by omega);simp only at this;omega
 clear hkn hlf
 go_enter Tryz.func131,Tryz.ntmps131
 go_wp2_with fail
 go_region_held3 (fun w'=>w'.cell? ⟨gc,1,none⟩=some (.pointer (some ⟨g,0,none⟩)))
  (first|exact c1|exact c1')
  (first
    |((with_reducible refine hL.mono ?_);rintro e w1 ⟨rfl,q,rfl⟩)
    |((with_reducible refine(hC _).mono ?_);rintro e w2 ⟨rfl,hrd,hg⟩;have c1':w2.cell? ⟨gc,1,none⟩=some (.pointer (some ⟨g,0,none⟩)):=((h.below (belowN _)).blk.grown hg (by intro e;exact h.ne (by injection e))).cell 1))
 have hg2:w.grownBy w2 (some g):=(below_grown (belowN _) _).trans hg
 have h2:CR w2 g A n c l s1 gc:=HH.out.read hrd hg2
 have k2:Blk w2 b t cs:=D.blk.grown hg2 (by intro e;exact D.ng (by injection e))
 have t2:Two2 w w2 g b:=Two2.left hg2 b
 clear hg hg2 hrd hL hC c1' c1 h c0 z0
 go_wp2_with fail
 refine(look_any w2 g A n c l s1 gc h2).mono ?_
 rintro e w3 ⟨⟨q3,rfl⟩,⟨he,rfl⟩|⟨he,rfl⟩⟩
 rotate_left
 · have hQ:Below w2.heap.size w2 (w2.drewN q3):=belowN _
   go_wp2
   exact⟨rfl,RPost.bad (s':=s1) (by rw[HR.out];exact congrArg Prod.snd (rLoop_stk _ _ _ _ he)) he (h2.below hQ) (t2.trans (Two2.ofBelow g b hQ)) rfl (k2.below hQ k2.lt)⟩
 have hQ:Below w2.heap.size w2 (w2.drewN q3):=belowN _
 have k3:=k2.below hQ k2.lt
 have h3:=h2.below hQ
 have t3:=t2.trans (Two2.ofBelow g b hQ)
 have z3:(w2.drewN q3).cell? ⟨b,i,none⟩=some (.slice none 0 0):=(k3.cell i).trans (D.has 0 _ rfl)
 have f3:=k3.frozen i
 have hgs:=grown_set (w2.drewN q3) b i (.slice none 0 0)
 have h4:=h3.laid hgs fx.ng fx.nc fx.ap
 have t4:=t3.trans (Two2.right hgs g)
 have k4:Blk _ b t (put cs i [.slice none 0 0]):=k3.set_ i (.slice none 0 0)
 have hst:=LInv.start (R:=KyRel) (E:=9) (size:=1) (f:=rKey) (N:=N) h4 he k4 t4
 clear k3 h3 t3 hgs h4 t4 k4 k2 h2 t2 hQ D
 go_wp2_with fail
 go_loopw [39] (fun iv wr=>LHead KyRel 9 1 rKey w g A n c l gc b t cs i N s1 iv wr) (fun iv _=>N-(intOf iv).toNat)
 case atStart=>exact⟨0,_,_,_,rfl,hst⟩
 case round=>
  clear hst z3 f3
  obtain⟨k,L,sk,v,rfl,hI⟩:=hrel
  by_cases hlt:k<N
  · have hd1:decide ((k:Int)<(N:Int))=true:=by simp;omega
    have hk0:(0:Int)≤(k:Int):=by omega
    have hk1:(k:Int)<((k+1:Nat):Int):=by omega
    have d0:=cl (hI.cr.blk.cell 0)
    have y0:wr.cell? ⟨b,i,none⟩=some v:=(hI.blk.cell i).trans (put_in [v] cs i 0 v rfl (by simp;omega))
    have bl2:=hI.blk.lt
    have hlen:=hI.len
    have hzz:=hI.two.size
    obtain⟨Av,qv,rfl,hqv,hqvm⟩:=Single.form hI.row
    rw[hlen]at hqv y0 hI
    have HI:=Lib.hid hI
    have hX:Below wr.heap.size wr (wr.alloc (.cells #[.string ⟨#[]⟩] 9)):=(Below.refl _ _).alloc (Nat.le_refl _) _
    obtain⟨xs,hown0,hrd⟩:=hI.round KyRel.kept KyRel.mono fx hlt hib (z:=[.string ⟨#[]⟩]) rfl hX
    have HRD:=Lib.hid hrd
    have hrd0:=reads_new' wr 9 [.string ⟨#[]⟩] 1 rfl
    clear hrd hI
    rw[hlen]at hown0
    go_wp2_with (first
        |(at_builtin
          refine wpList_append_any _ rfl (.tmp 50) (.tmp 52) _ rfl w.heap.size 9 i0 _ 1 16 Tryz.underlying27 hi0 hz0 hz1 hz2 rfl (by omega) (.slice Av k qv) _ xs (by rfl) hown0 _ (some ⟨wr.heap.size,0,none⟩) 1 1 [.string ⟨#[]⟩] (by rfl) hrd0 (by intro u hu;simp only[List.mem_cons,List.not_mem_nil,or_false]at hu;subst hu;rfl) (by unfold maxLen;omega) (by omega) (by simp;omega) ?_
          intro v' w5 hown5 hg5 hat5
          obtain⟨y5,f5,rb,cap,cur,rfl,y6,h6,D6,t6,hfin⟩:=HRD.out v' w5 (by rw[hlen];exact hown5) hg5 hat5
          rw[Nat.mul_one]at D6 hfin
          have HF:=Lib.hid hfin
          clear hfin)
        |fail)
    refine(rcText _ g A n c l sk gc rb _ cur k h6 HI.out.e D6).mono ?_
    intro e w7 hP
    rcases HF.out e w7 hP.m with ⟨rfl,hI7⟩|⟨rfl,hB⟩
    · go_wp2_with fail
      go_roundw
      case rel=>exact⟨k+1,_,_,_,by go_num,hI7⟩
      case measure=>simp[intOf];omega
    · go_wp2
      exact⟨rfl,by rw[HR.out];exact hB.post hP.1⟩
  · have hd1:decide ((k:Int)<(N:Int))=false:=by simp;omega
    go_wp2_with fail
    go_end0
    rw[HR.out]
    exact hI.done KyRel.mono (by omega) hlt
theorem rlWrite:ListR 89 90 WtRel 4 rWt:=by
 obtain⟨i0,hi0,hz0,hz1,hz2⟩:=info_parts wt_info
 intro w g A n c l s gc b t cs i h hs D
 have fx:=h.fix D
 have hib:i<cs.size:=(Array.getElem?_eq_some_iff.1 (D.has 0 _ rfl)).1
 have c0:=cl (h.blk.cell 0)
 have c1:=cl (h.blk.cell 1)
 have z0:w.cell? ⟨b,i,none⟩=some (.slice none 0 0):=D.at0 rfl
 have hL:=wRLeft g A n c l s w.drew (h.below (Below.refl _ _).drew).rd
 have hC:=fun q=>wRCount g A n c l s (rLeft l s:Int) (w.drewN q) (h.below (belowN q)).rd
 have hkn:=rCount_ok l s (rLeft l s:Int) 3
 have hsm:=h.rd.small
 have hlf:rLeft l s≤n:=by rw[←h.rd.len];unfold rLeft;split<;>omega
 have HR:=Lib.hid (show rLs rWt l s=rLoop rWt l (rCount l s (rLeft l s:Int) 3).1.toNat (rCount l s (rLeft l s:Int) 3).2 from rfl)
 have HH:=Lib.hid h
 generalize rLs rWt l s=res at*
 generalize rCount l s (rLeft l s:Int) 3=x at*
 obtain⟨xn,s1⟩:=x
 obtain⟨N,rfl⟩:∃N:Nat,xn=(N:Int):=⟨xn.toNat,by have:=hkn.2.1;omega⟩
 have hN:N≤n:=by have:=hkn.2.2 (by omega);simp only at this;omega
 clear hkn hlf
 go_enter Tryz.func89,Tryz.ntmps89
 go_wp2_with fail
 go_region_held3 (fun w'=>w'.cell? ⟨gc,1,none⟩=some (.pointer (some ⟨g,0,none⟩)))
  (first|exact c1|exact c1')
  (first
    |((with_reducible refine hL.mono ?_);rintro e w1 ⟨rfl,q,rfl⟩)
    |((with_reducible refine(hC _).mono ?_);rintro e w2 ⟨rfl,hrd,hg⟩;have c1':w2.cell? ⟨gc,1,none⟩=some (.pointer (some ⟨g,0,none⟩)):=((h.below (belowN _)).blk.grown hg (by intro e;exact h.ne (by injection e))).cell 1))
 have hg2:w.grownBy w2 (some g):=(below_grown (belowN _) _).trans hg
 have h2:CR w2 g A n c l s1 gc:=HH.out.read hrd hg2
 have k2:Blk w2 b t cs:=D.blk.grown hg2 (by intro e;exact D.ng (by injection e))
 have t2:Two2 w w2 g b:=Two2.left hg2 b
 clear hg hg2 hrd hL hC c1' c1 h c0 z0
 go_wp2_with fail
 refine(look_any w2 g A n c l s1 gc h2).mono ?_
 rintro e w3 ⟨⟨q3,rfl⟩,⟨he,rfl⟩|⟨he,rfl⟩⟩
 rotate_left
 · have hQ:Below w2.heap.size w2 (w2.drewN q3):=belowN _
   go_wp2
   exact⟨rfl,RPost.bad (s':=s1) (by rw[HR.out];exact congrArg Prod.snd (rLoop_stk _ _ _ _ he)) he (h2.below hQ) (t2.trans (Two2.ofBelow g b hQ)) rfl (k2.below hQ k2.lt)⟩
 have hQ:Below w2.heap.size w2 (w2.drewN q3):=belowN _
 have k3:=k2.below hQ k2.lt
 have h3:=h2.below hQ
 have t3:=t2.trans (Two2.ofBelow g b hQ)
 have z3:(w2.drewN q3).cell? ⟨b,i,none⟩=some (.slice none 0 0):=(k3.cell i).trans (D.has 0 _ rfl)
 have f3:=k3.frozen i
 have hgs:=grown_set (w2.drewN q3) b i (.slice none 0 0)
 have h4:=h3.laid hgs fx.ng fx.nc fx.ap
 have t4:=t3.trans (Two2.right hgs g)
 have k4:Blk _ b t (put cs i [.slice none 0 0]):=k3.set_ i (.slice none 0 0)
 have hst:=LInv.start (R:=WtRel) (E:=61) (size:=4) (f:=rWt) (N:=N) h4 he k4 t4
 clear k3 h3 t3 hgs h4 t4 k4 k2 h2 t2 hQ D
 go_wp2_with fail
 go_loopw [39] (fun iv wr=>LHead WtRel 61 4 rWt w g A n c l gc b t cs i N s1 iv wr) (fun iv _=>N-(intOf iv).toNat)
 case atStart=>exact⟨0,_,_,_,rfl,hst⟩
 case round=>
  clear hst z3 f3
  obtain⟨k,L,sk,v,rfl,hI⟩:=hrel
  by_cases hlt:k<N
  · have hd1:decide ((k:Int)<(N:Int))=true:=by simp;omega
    have hk0:(0:Int)≤(k:Int):=by omega
    have hk1:(k:Int)<((k+1:Nat):Int):=by omega
    have d0:=cl (hI.cr.blk.cell 0)
    have y0:wr.cell? ⟨b,i,none⟩=some v:=(hI.blk.cell i).trans (put_in [v] cs i 0 v rfl (by simp;omega))
    have bl2:=hI.blk.lt
    have hlen:=hI.len
    have hzz:=hI.two.size
    obtain⟨Av,qv,rfl,hqv,hqvm⟩:=Single.form hI.row
    rw[hlen]at hqv y0 hI
    have HI:=Lib.hid hI
    have hX:Below wr.heap.size wr (((wr.alloc (.cells #[.string ⟨#[]⟩,.int .i64 0,.float .f64 0,.string ⟨#[]⟩] 61)).alloc (.cells #[.string ⟨#[]⟩,.int .i64 0,.float .f64 0,.string ⟨#[]⟩] 61)).drew):=(((Below.refl _ _).alloc (Nat.le_refl _) _).alloc (by simp) _).drew
    obtain⟨xs,hown0,hrd⟩:=hI.round WtRel.kept WtRel.mono fx hlt hib (z:=[.string ⟨#[]⟩,.int .i64 0,.float .f64 0,.string ⟨#[]⟩]) rfl hX
    have HRD:=Lib.hid hrd
    have hrd0:=reads_new' (wr.alloc (.cells #[.string ⟨#[]⟩,.int .i64 0,.float .f64 0,.string ⟨#[]⟩] 61)) 61 [.string ⟨#[]⟩,.int .i64 0,.float .f64 0,.string ⟨#[]⟩] 4 rfl
    replace hrd0:=hrd0.drew
    clear hrd hI
    rw[hlen]at hown0
    go_wp2
    go_region_law (refine step_append_any _ rfl (.tmp 50) (.tmp 52) _ rfl w.heap.size 61 i0 _ 4 48 Tryz.underlying29 hi0 hz0 hz1 hz2 rfl (by omega) (.slice Av k qv) _ xs (by simp[Act.eval]) hown0 _ (some ⟨(wr.alloc (.cells #[.string ⟨#[]⟩,.int .i64 0,.float .f64 0,.string ⟨#[]⟩] 61)).heap.size,0,none⟩) 1 1 [.string ⟨#[]⟩,.int .i64 0,.float .f64 0,.string ⟨#[]⟩] (by simp[Act.eval]) hrd0 (by intro u hu;simp only[List.mem_cons,List.not_mem_nil,or_false]at hu;rcases hu with rfl|rfl|rfl|rfl<;>rfl) (by unfold maxLen;omega) (by omega) (by simp;omega) ?_;intro v' w5 hown5 hg5 hat5;obtain⟨y5,f5,rb,cap,cur,rfl,y6,h6,D6,t6,hfin⟩:=HRD.out v' w5 (by rw[hlen];exact hown5) hg5 hat5;have HF:=Lib.hid hfin;clear hfin)
    all_goals
        go_wp2_with fail
        refine(rcWrite _ g A n c l sk gc rb _ cur (k*4) h6 HI.out.e D6).mono ?_
        intro e w7 hP
        rcases HF.out e w7 hP.m with ⟨rfl,hI7⟩|⟨rfl,hB⟩
        · go_wp2_with fail
          go_roundw
          case rel=>exact⟨k+1,_,_,_,by go_num,hI7⟩
          case measure=>simp[intOf];omega
        · go_wp2
          exact⟨rfl,by rw[HR.out];exact hB.post hP.1⟩
  · have hd1:decide ((k:Int)<(N:Int))=false:=by simp;omega
    go_wp2_with fail
    go_end0
    rw[HR.out]
    exact hI.done WtRel.mono (by omega) hlt
theorem rlPair:ListR 200 201 WtRel 4 rWt:=by
 obtain⟨i0,hi0,hz0,hz1,hz2⟩:=info_parts prR_info
 intro w g A n c l s gc b t cs i h hs D
 have fx:=h.fix D
 have hib:i<cs.size:=(Array.getElem?_eq_some_iff.1 (D.has 0 _ rfl)).1
 have c0:=cl (h.blk.cell 0)
 have c1:=cl (h.blk.cell 1)
 have z0:w.cell? ⟨b,i,none⟩=some (.slice none 0 0):=D.at0 rfl
 have hL:=wRLeft g A n c l s w.drew (h.below (Below.refl _ _).drew).rd
 have hC:=fun q=>wRCount g A n c l s (rLeft l s:Int) (w.drewN q) (h.below (belowN q)).rd
 have hkn:=rCount_ok l s (rLeft l s:Int) 3
 have hsm:=h.rd.small
 have hlf:rLeft l s≤n:=by rw[←h.rd.len];unfold rLeft;split<;>omega
 have HR:=Lib.hid (show rLs rWt l s=rLoop rWt l (rCount l s (rLeft l s:Int) 3).1.toNat (rCount l s (rLeft l s:Int) 3).2 from rfl)
 have HH:=Lib.hid h
 generalize rLs rWt l s=res at*
 generalize rCount l s (rLeft l s:Int) 3=x at*
 obtain⟨xn,s1⟩:=x
 obtain⟨N,rfl⟩:∃N:Nat,xn=(N:Int):=⟨xn.toNat,by have:=hkn.2.1;omega⟩
 have hN:N≤n:=by have:=hkn.2.2 (by omega);simp only at this;omega
 clear hkn hlf
 go_enter Tryz.func200,Tryz.ntmps200
 go_wp2_with fail
 go_region_held3 (fun w'=>w'.cell? ⟨gc,1,none⟩=some (.pointer (some ⟨g,0,none⟩)))
  (first|exact c1|exact c1')
  (first
    |((with_reducible refine hL.mono ?_);rintro e w1 ⟨rfl,q,rfl⟩)
    |((with_reducible refine(hC _).mono ?_);rintro e w2 ⟨rfl,hrd,hg⟩;have c1':w2.cell? ⟨gc,1,none⟩=some (.pointer (some ⟨g,0,none⟩)):=((h.below (belowN _)).blk.grown hg (by intro e;exact h.ne (by injection e))).cell 1))
 have hg2:w.grownBy w2 (some g):=(below_grown (belowN _) _).trans hg
 have h2:CR w2 g A n c l s1 gc:=HH.out.read hrd hg2
 have k2:Blk w2 b t cs:=D.blk.grown hg2 (by intro e;exact D.ng (by injection e))
 have t2:Two2 w w2 g b:=Two2.left hg2 b
 clear hg hg2 hrd hL hC c1' c1 h c0 z0
 go_wp2_with fail
 refine(look_any w2 g A n c l s1 gc h2).mono ?_
 rintro e w3 ⟨⟨q3,rfl⟩,⟨he,rfl⟩|⟨he,rfl⟩⟩
 rotate_left
 · have hQ:Below w2.heap.size w2 (w2.drewN q3):=belowN _
   go_wp2
   exact⟨rfl,RPost.bad (s':=s1) (by rw[HR.out];exact congrArg Prod.snd (rLoop_stk _ _ _ _ he)) he (h2.below hQ) (t2.trans (Two2.ofBelow g b hQ)) rfl (k2.below hQ k2.lt)⟩
 have hQ:Below w2.heap.size w2 (w2.drewN q3):=belowN _
 have k3:=k2.below hQ k2.lt
 have h3:=h2.below hQ
 have t3:=t2.trans (Two2.ofBelow g b hQ)
 have z3:(w2.drewN q3).cell? ⟨b,i,none⟩=some (.slice none 0 0):=(k3.cell i).trans (D.has 0 _ rfl)
 have f3:=k3.frozen i
 have hgs:=grown_set (w2.drewN q3) b i (.slice none 0 0)
 have h4:=h3.laid hgs fx.ng fx.nc fx.ap
 have t4:=t3.trans (Two2.right hgs g)
 have k4:Blk _ b t (put cs i [.slice none 0 0]):=k3.set_ i (.slice none 0 0)
 have hst:=LInv.start (R:=WtRel) (E:=105) (size:=4) (f:=rWt) (N:=N) h4 he k4 t4
 clear k3 h3 t3 hgs h4 t4 k4 k2 h2 t2 hQ D
 go_wp2_with fail
 go_loopw [39] (fun iv wr=>LHead WtRel 105 4 rWt w g A n c l gc b t cs i N s1 iv wr) (fun iv _=>N-(intOf iv).toNat)
 case atStart=>exact⟨0,_,_,_,rfl,hst⟩
 case round=>
  clear hst z3 f3
  obtain⟨k,L,sk,v,rfl,hI⟩:=hrel
  by_cases hlt:k<N
  · have hd1:decide ((k:Int)<(N:Int))=true:=by simp;omega
    have hk0:(0:Int)≤(k:Int):=by omega
    have hk1:(k:Int)<((k+1:Nat):Int):=by omega
    have d0:=cl (hI.cr.blk.cell 0)
    have y0:wr.cell? ⟨b,i,none⟩=some v:=(hI.blk.cell i).trans (put_in [v] cs i 0 v rfl (by simp;omega))
    have bl2:=hI.blk.lt
    have hlen:=hI.len
    have hzz:=hI.two.size
    obtain⟨Av,qv,rfl,hqv,hqvm⟩:=Single.form hI.row
    rw[hlen]at hqv y0 hI
    have HI:=Lib.hid hI
    have hX:Below wr.heap.size wr (((wr.alloc (.cells #[.string ⟨#[]⟩,.int .i64 0,.float .f64 0,.string ⟨#[]⟩] 105)).alloc (.cells #[.string ⟨#[]⟩,.int .i64 0,.float .f64 0,.string ⟨#[]⟩] 105)).drew):=(((Below.refl _ _).alloc (Nat.le_refl _) _).alloc (by simp) _).drew
    obtain⟨xs,hown0,hrd⟩:=hI.round WtRel.kept WtRel.mono fx hlt hib (z:=[.string ⟨#[]⟩,.int .i64 0,.float .f64 0,.string ⟨#[]⟩]) rfl hX
    have HRD:=Lib.hid hrd
    have hrd0:=reads_new' (wr.alloc (.cells #[.string ⟨#[]⟩,.int .i64 0,.float .f64 0,.string ⟨#[]⟩] 105)) 105 [.string ⟨#[]⟩,.int .i64 0,.float .f64 0,.string ⟨#[]⟩] 4 rfl
    replace hrd0:=hrd0.drew
    clear hrd hI
    rw[hlen]at hown0
    go_wp2
    go_region_law (refine step_append_any _ rfl (.tmp 50) (.tmp 52) _ rfl w.heap.size 105 i0 _ 4 48 Tryz.underlying67 hi0 hz0 hz1 hz2 rfl (by omega) (.slice Av k qv) _ xs (by simp[Act.eval]) hown0 _ (some ⟨(wr.alloc (.cells #[.string ⟨#[]⟩,.int .i64 0,.float .f64 0,.string ⟨#[]⟩] 105)).heap.size,0,none⟩) 1 1 [.string ⟨#[]⟩,.int .i64 0,.float .f64 0,.string ⟨#[]⟩] (by simp[Act.eval]) hrd0 (by intro u hu;simp only[List.mem_cons,List.not_mem_nil,or_false]at hu;rcases hu with rfl|rfl|rfl|rfl<;>rfl) (by unfold maxLen;omega) (by omega) (by simp;omega) ?_;intro v' w5 hown5 hg5 hat5;obtain⟨y5,f5,rb,cap,cur,rfl,y6,h6,D6,t6,hfin⟩:=HRD.out v' w5 (by rw[hlen];exact hown5) hg5 hat5;have HF:=Lib.hid hfin;clear hfin)
    all_goals
        go_wp2_with fail
        refine(rcPair _ g A n c l sk gc rb _ cur (k*4) h6 HI.out.e D6).mono ?_
        intro e w7 hP
        rcases HF.out e w7 hP.m with ⟨rfl,hI7⟩|⟨rfl,hB⟩
        · go_wp2_with fail
          go_roundw
          case rel=>exact⟨k+1,_,_,_,by go_num,hI7⟩
          case measure=>simp[intOf];omega
        · go_wp2
          exact⟨rfl,by rw[HR.out];exact hB.post hP.1⟩
  · have hd1:decide ((k:Int)<(N:Int))=false:=by simp;omega
    go_wp2_with fail
    go_end0
    rw[HR.out]
    exact hI.done WtRel.mono (by omega) hlt
theorem rlVersion:ListR 192 193 VnRel 6 rVn:=by
 obtain⟨i0,hi0,hz0,hz1,hz2⟩:=info_parts vn_info
 intro w g A n c l s gc b t cs i h hs D
 have fx:=h.fix D
 have hib:i<cs.size:=(Array.getElem?_eq_some_iff.1 (D.has 0 _ rfl)).1
 have c0:=cl (h.blk.cell 0)
 have c1:=cl (h.blk.cell 1)
 have z0:w.cell? ⟨b,i,none⟩=some (.slice none 0 0):=D.at0 rfl
 have hL:=wRLeft g A n c l s w.drew (h.below (Below.refl _ _).drew).rd
 have hC:=fun q=>wRCount g A n c l s (rLeft l s:Int) (w.drewN q) (h.below (belowN q)).rd
 have hkn:=rCount_ok l s (rLeft l s:Int) 3
 have hsm:=h.rd.small
 have hlf:rLeft l s≤n:=by rw[←h.rd.len];unfold rLeft;split<;>omega
 have HR:=Lib.hid (show rLs rVn l s=rLoop rVn l (rCount l s (rLeft l s:Int) 3).1.toNat (rCount l s (rLeft l s:Int) 3).2 from rfl)
 have HH:=Lib.hid h
 generalize rLs rVn l s=res at*
 generalize rCount l s (rLeft l s:Int) 3=x at*
 obtain⟨xn,s1⟩:=x
 obtain⟨N,rfl⟩:∃N:Nat,xn=(N:Int):=⟨xn.toNat,by have:=hkn.2.1;omega⟩
 have hN:N≤n:=by have:=hkn.2.2 (by omega);simp only at this;omega
 clear hkn hlf
 go_enter Tryz.func192,Tryz.ntmps192
 go_wp2_with fail
 go_region_held3 (fun w'=>w'.cell? ⟨gc,1,none⟩=some (.pointer (some ⟨g,0,none⟩)))
  (first|exact c1|exact c1')
  (first
    |((with_reducible refine hL.mono ?_);rintro e w1 ⟨rfl,q,rfl⟩)
    |((with_reducible refine(hC _).mono ?_);rintro e w2 ⟨rfl,hrd,hg⟩;have c1':w2.cell? ⟨gc,1,none⟩=some (.pointer (some ⟨g,0,none⟩)):=((h.below (belowN _)).blk.grown hg (by intro e;exact h.ne (by injection e))).cell 1))
 have hg2:w.grownBy w2 (some g):=(below_grown (belowN _) _).trans hg
 have h2:CR w2 g A n c l s1 gc:=HH.out.read hrd hg2
 have k2:Blk w2 b t cs:=D.blk.grown hg2 (by intro e;exact D.ng (by injection e))
 have t2:Two2 w w2 g b:=Two2.left hg2 b
 clear hg hg2 hrd hL hC c1' c1 h c0 z0
 go_wp2_with fail
 refine(look_any w2 g A n c l s1 gc h2).mono ?_
 rintro e w3 ⟨⟨q3,rfl⟩,⟨he,rfl⟩|⟨he,rfl⟩⟩
 rotate_left
 · have hQ:Below w2.heap.size w2 (w2.drewN q3):=belowN _
   go_wp2
   exact⟨rfl,RPost.bad (s':=s1) (by rw[HR.out];exact congrArg Prod.snd (rLoop_stk _ _ _ _ he)) he (h2.below hQ) (t2.trans (Two2.ofBelow g b hQ)) rfl (k2.below hQ k2.lt)⟩
 have hQ:Below w2.heap.size w2 (w2.drewN q3):=belowN _
 have k3:=k2.below hQ k2.lt
 have h3:=h2.below hQ
 have t3:=t2.trans (Two2.ofBelow g b hQ)
 have z3:(w2.drewN q3).cell? ⟨b,i,none⟩=some (.slice none 0 0):=(k3.cell i).trans (D.has 0 _ rfl)
 have f3:=k3.frozen i
 have hgs:=grown_set (w2.drewN q3) b i (.slice none 0 0)
 have h4:=h3.laid hgs fx.ng fx.nc fx.ap
 have t4:=t3.trans (Two2.right hgs g)
 have k4:Blk _ b t (put cs i [.slice none 0 0]):=k3.set_ i (.slice none 0 0)
 have hst:=LInv.start (R:=VnRel) (E:=160) (size:=6) (f:=rVn) (N:=N) h4 he k4 t4
 clear k3 h3 t3 hgs h4 t4 k4 k2 h2 t2 hQ D
 go_wp2_with fail
 go_loopw [39] (fun iv wr=>LHead VnRel 160 6 rVn w g A n c l gc b t cs i N s1 iv wr) (fun iv _=>N-(intOf iv).toNat)
 case atStart=>exact⟨0,_,_,_,rfl,hst⟩
 case round=>
  clear hst z3 f3
  obtain⟨k,L,sk,v,rfl,hI⟩:=hrel
  by_cases hlt:k<N
  · have hd1:decide ((k:Int)<(N:Int))=true:=by simp;omega
    have hk0:(0:Int)≤(k:Int):=by omega
    have hk1:(k:Int)<((k+1:Nat):Int):=by omega
    have d0:=cl (hI.cr.blk.cell 0)
    have y0:wr.cell? ⟨b,i,none⟩=some v:=(hI.blk.cell i).trans (put_in [v] cs i 0 v rfl (by simp;omega))
    have bl2:=hI.blk.lt
    have hlen:=hI.len
    have hzz:=hI.two.size
    obtain⟨Av,qv,rfl,hqv,hqvm⟩:=Single.form hI.row
    rw[hlen]at hqv y0 hI
    have HI:=Lib.hid hI
    have hX:Below wr.heap.size wr (((wr.alloc (.cells #[.int .i64 0,.int .i64 0,.int .i64 0,.int .i64 0,.float .f64 0,.string ⟨#[]⟩] 160)).alloc (.cells #[.int .i64 0,.int .i64 0,.int .i64 0,.int .i64 0,.float .f64 0,.string ⟨#[]⟩] 160)).drew):=(((Below.refl _ _).alloc (Nat.le_refl _) _).alloc (by simp) _).drew
    obtain⟨xs,hown0,hrd⟩:=hI.round VnRel.kept VnRel.mono fx hlt hib (z:=[.int .i64 0,.int .i64 0,.int .i64 0,.int .i64 0,.float .f64 0,.string ⟨#[]⟩]) rfl hX
    have HRD:=Lib.hid hrd
    have hrd0:=reads_new' (wr.alloc (.cells #[.int .i64 0,.int .i64 0,.int .i64 0,.int .i64 0,.float .f64 0,.string ⟨#[]⟩] 160)) 160 [.int .i64 0,.int .i64 0,.int .i64 0,.int .i64 0,.float .f64 0,.string ⟨#[]⟩] 6 rfl
    replace hrd0:=hrd0.drew
    clear hrd hI
    rw[hlen]at hown0
    go_wp2
    go_region_law (refine step_append_any _ rfl (.tmp 50) (.tmp 52) _ rfl w.heap.size 160 i0 _ 6 56 Tryz.underlying156 hi0 hz0 hz1 hz2 rfl (by omega) (.slice Av k qv) _ xs (by simp[Act.eval]) hown0 _ (some ⟨(wr.alloc (.cells #[.int .i64 0,.int .i64 0,.int .i64 0,.int .i64 0,.float .f64 0,.string ⟨#[]⟩] 160)).heap.size,0,none⟩) 1 1 [.int .i64 0,.int .i64 0,.int .i64 0,.int .i64 0,.float .f64 0,.string ⟨#[]⟩] (by simp[Act.eval]) hrd0 (by intro u hu;simp only[List.mem_cons,List.not_mem_nil,or_false]at hu;rcases hu with rfl|rfl|rfl|rfl|rfl|rfl<;>rfl) (by unfold maxLen;omega) (by omega) (by simp;omega) ?_;intro v' w5 hown5 hg5 hat5;obtain⟨y5,f5,rb,cap,cur,rfl,y6,h6,D6,t6,hfin⟩:=HRD.out v' w5 (by rw[hlen];exact hown5) hg5 hat5;have HF:=Lib.hid hfin;clear hfin)
    all_goals
        go_wp2_with fail
        refine(rcVersion _ g A n c l sk gc rb _ cur (k*6) h6 HI.out.e D6).mono ?_
        intro e w7 hP
        rcases HF.out e w7 hP.m with ⟨rfl,hI7⟩|⟨rfl,hB⟩
        · go_wp2_with fail
          go_roundw
          case rel=>exact⟨k+1,_,_,_,by go_num,hI7⟩
          case measure=>simp[intOf];omega
        · go_wp2
          exact⟨rfl,by rw[HR.out];exact hB.post hP.1⟩
  · have hd1:decide ((k:Int)<(N:Int))=false:=by simp;omega
    go_wp2_with fail
    go_end0
    rw[HR.out]
    exact hI.done VnRel.mono (by omega) hlt
end Go.Proofs.YtcalkfgibflbnaaGreat
