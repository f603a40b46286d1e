/- The document's Decode of a record. -/
import Derived.Test.YthdmanadhbpogaaGreatFabj
import Derived.Test.YthdmanadhbpogaaGreatFade
import Derived.Test.YthdmanadhbpogaaGreatFaec
namespace Go.Proofs.YthdmanadhbpogaaGreat
set_option linter.unusedVariables false
open Go.RowKit Fl
attribute [local go_sem] run_store_float
theorem xEnd_ok {l:List UInt8} {s:RS}:(xEnd l s).1=0↔s.e=0∧(rEnd l s).1=0:=by
 unfold xEnd rEnd
 by_cases h1:s.e=0
 · by_cases h2:s.at_<l.length<;>simp[h1,h2]
 · simp[h1]
set_option maxRecDepth 100000 in
set_option maxHeartbeats 8000000 in
theorem xDecode_any (A:Option Addr) (n c:Nat) (l:List UInt8) (w:World) (h:Reads w w.heap.size 1 A n (bytesV l)) (hsm:n≤262144) (hnc:n≤c) (hcm:c≤maxLen):
 Calls Tryz.prog 24 #[.slice A n c] w (RecE w (decR l) (decE l)):=by
 have hll:l.length=n:=by have:=h.1;simpa using this
 have HE:=Lib.hid (show decE l=if 262144<l.length then 4 else if (rRc l ⟨0,0,0⟩).2.e≠0 then 4 else if (rEnd l (rRc l ⟨0,0,0⟩).2).1≠0 then 4 else if encE (rRc l ⟨0,0,0⟩).1≠0 then 4 else if encOut (rRc l ⟨0,0,0⟩).1≠l then 4 else 0 from rfl)
 have HR:=Lib.hid (show decR l=if decE l=0 then (rRc l ⟨0,0,0⟩).1 else zRc from rfl)
 have hcnt:=rRc_cnt l ⟨0,0,0⟩
 have henc:=rRc_enc l ⟨0,0,0⟩ (Nat.zero_le _)
 have hRc:rRc l ⟨0,0,0⟩=rBody (rInt l ⟨0,0,0⟩).1 l (rInt l ⟨0,0,0⟩).2:=rfl
 rw[hRc]at hcnt henc
 rw[hRc]at HE HR
 clear hRc
 generalize decE l=dE at*
 generalize decR l=dR at*
 have hX:Below w.heap.size w ((w.alloc (.cells zRec 38)).alloc (.cells #[.slice A n c,.int .i64 0,.int .i64 0,.int .i64 0] 117)):=by go_grown
 have B0:Blk ((w.alloc (.cells zRec 38)).alloc (.cells #[.slice A n c,.int .i64 0,.int .i64 0,.int .i64 0] 117)) w.heap.size 38 zRec:=(Blk.new _ _ _).alloc _
 have hal:∀ad,A=some ad→0<n→ad.block<w.heap.size:=fun a ha hn=>by
  obtain⟨ad,e,hlt,_⟩:=h.2 hn
  rw[ha]at e
  obtain rfl:=Option.some.inj e
  exact hlt
 have R0:Rd 117 ((w.alloc (.cells zRec 38)).alloc (.cells #[.slice A n c,.int .i64 0,.int .i64 0,.int .i64 0] 117)) (w.heap.size+1) A n c l ⟨0,0,0⟩:=
  ⟨Blk.new' _ _ (by simp),(h.below hX).more hX.size,hll,by omega,fun ad ha hn=>by have:=hal ad ha hn;omega,Nat.zero_le _,hnc,hcm⟩
 have okk:=rInt_ok l ⟨0,0,0⟩
 have hXs:w.heap.size+1<((w.alloc (.cells zRec 38)).alloc (.cells #[.slice A n c,.int .i64 0,.int .i64 0,.int .i64 0] 117)).heap.size:=by simp
 go_enter Tryz.func24,Tryz.ntmps24
 go_wp2_with fail
 refine(xRInt (w.heap.size+1) A n c l ⟨0,0,0⟩ _ R0).mono ?_
 rintro e w1 ⟨rfl,h1,hg1⟩
 have B1:=B0.grown hg1 (by intro e;injection e with e;omega)
 have hb1:Below w.heap.size _ w1:=⟨hg1.os,hg1.tape,hg1.output,hg1.size,fun k hk=>hg1.block k (Nat.lt_of_lt_of_le hk hX.size) (by intro e;injection e;omega)⟩
 have hX1:=hX.trans hb1
 have hz1:=hg1.size
 generalize rInt l ⟨0,0,0⟩=k0 at*
 clear B0 R0 hb1 hg1 hX
 go_wp2_with fail
 refine(xFields k0.1 okk (w.heap.size+1) A n c l k0.2 w1 h1).mono ?_
 rintro e w2 ⟨hd,rfl,rok,rcp,rlo,h2,hg2⟩
 have B2:=B1.grown hg2 (by intro e;injection e with e;omega)
 have hb2:Below w.heap.size w1 w2:=⟨hg2.os,hg2.tape,hg2.output,hg2.size,fun k hk=>hg2.block k (Nat.lt_of_lt_of_le hk hX1.size) (by intro e;injection e;omega)⟩
 have hX2:=hX1.trans hb2
 generalize rBody k0.1 l k0.2=x at*
 obtain⟨r,s1⟩:=x
 simp only at henc hcnt rok rlo h2 ⊢
 have hX3:Below w2.heap.size w2 (w2.alloc (.cells (r.vals hd) 38)):=by go_grown
 have B3:=B2.below hX3 B2.lt
 have C3:=Blk.new w2 38 (r.vals hd)
 have h3:=h2.below hX3
 have rin:=rlo.in.below hX3
 have hX4:=hX2.trans (hX3.mono hX2.size)
 have rsm:RcSm r hd:=hcnt.sm (by omega) rin.rd.1 rin.wr.1 rin.ps.1 rin.pr.1
 have RLo0:=Lib.hid rlo
 have z3:=Lib.hid hX3.size
 have hX3':=Lib.hid hX3
 clear B1 h1 hg2 hb2 hX1 hX2 B2 h2 rlo hcnt hX3
 go_wp2_with (first
  |(guard_target=~ wpList _ _ _ _ _ _;refine wpList_store_at rfl 38 _ _ rfl w2.heap.size (r.vals hd) (by kernel_rfl) (by kernel_rfl) rfl _ _ (by kernel_rfl) (by kernel_rfl) (by kernel_rfl) ?_)
  |fail)
 refine(xREnd (w.heap.size+1) A n c l s1 _ h3).mono ?_
 rintro e w4 ⟨rfl,q,rfl⟩
 have hQ:Below (w2.alloc (.cells (r.vals hd) 38)).heap.size (w2.alloc (.cells (r.vals hd) 38)) ((w2.alloc (.cells (r.vals hd) 38)).drewN q):=belowN _
 have B4:=B3.below hQ B3.lt
 have C4:=C3.below hQ C3.lt
 have rin4:=rin.below hQ
 have hX5:=hX4.trans (hQ.mono hX4.size)
 clear B3 C3 rin hX4 hQ h3
 have hB4:Below w2.heap.size w2 ((w2.alloc (.cells (r.vals hd) 38)).drewN q):=hX3'.out.trans ((belowN q).mono hX3'.out.size)
 clear hX3' z3
 generalize (w2.alloc (.cells (r.vals hd) 38)).drewN q=W4 at*
 have HB4:=Lib.hid hB4
 clear hB4
 by_cases he1:(xEnd l s1).1=0
 · have hb1:((xEnd l s1).1==0)=true:=by simp[he1]
   obtain⟨e0,e1⟩:=xEnd_ok.1 he1
   have rlen:(encRc r).length≤n:=by
    have h2:=congrArg List.length (henc e0).2
    rw[List.take_zero,List.nil_append,List.length_take]at h2
    omega
   have HE':=Lib.hid (show dE=if encE r≠0 then 4 else if encOut r≠l then 4 else 0 by rw[HE.out,if_neg (by omega),if_neg (by simp;exact e0),if_neg (by simp;exact e1)])
   clear HE henc he1 e1
   go_wp2_with (first
    |(guard_target=~ wpList _ _ _ _ _ _;refine wpList_load_row rfl 38 _ rfl w2.heap.size (by kernel_rfl) _ _ (0,0) _ C4 rfl rfl (by kernel_rfl) ?_)
    |fail)
   refine(xEncode r hd W4 rok rin4 rsm (by omega)).mono ?_
   rintro e w5 ⟨A5,c5,rfl,hq5,hm5,hown5,hb5⟩
   have B5:=B4.below hb5 B4.lt
   have C5:=C4.below hb5 C4.lt
   have hX6:=hX5.trans (hb5.mono hX5.size)
   have HB5:=Lib.hid (HB4.out.trans (hb5.mono HB4.out.size))
   have RLo:=RLo0
   have rin5:=rin4.below hb5
   have hc1:=run_conv_reads (P:=Tryz.prog) w5 48 9 5 Tryz.underlying48 Tryz.underlying5 Tryz.underlying9 (c:=c5) (Reads.of_own hown5)
   have hc2:=run_conv_reads (P:=Tryz.prog) w5 48 9 5 Tryz.underlying48 Tryz.underlying5 Tryz.underlying9 (c:=c) ((h.below hX6).more hX6.size)
   by_cases he2:encE r=0
   · have hb2:(encE r==0)=true:=by simp[he2]
     have HC5:=Lib.hid C5
     clear C5 C4 B4 hown5
     by_cases he3:encOut r=l
     · have hE0:dE=0:=by rw[HE'.out,if_neg (by omega),if_neg (by simp[he3])]
       have hR0:dR=r:=by rw[HR.out,if_pos hE0]
       subst hE0 hR0
       subst he3
       replace hll:=Lib.hid hll
       have HZ:=Lib.hid B5
       clear B5
       go_wp2_with (first
        |(guard_target=~ wpList _ _ _ _ _ _;refine wpList_load_row rfl 38 (.tmp 5) rfl w2.heap.size (by kernel_rfl) _ _ (0,0) _ HC5.out rfl rfl (by kernel_rfl) ?_)
        |(guard_target=~ wpList _ _ _ _ _ _;refine wpList_store_row rfl 38 _ _ rfl w.heap.size (dR.vals hd) (by kernel_rfl) (by kernel_rfl) _ _ HZ.out (by kernel_rfl) (by kernel_rfl) (by kernel_rfl) ?_
          obtain⟨WZ,hWZ⟩:∃WZ:World,WZ=w5.setRow w.heap.size (dR.vals hd):=⟨_,rfl⟩
          rw[←hWZ]
          have HBZ:=Lib.hid (show Blk WZ w.heap.size 38 (dR.vals hd) by rw[hWZ];exact HZ.out.setRow _)
          have hXZ:Below w.heap.size w WZ:=by rw[hWZ];exact below_setRow hX6 (Nat.le_refl _) _
          have hS:∀k,k≠w.heap.size→WZ.heap[k]?=w5.heap[k]?:=fun k hk=>by rw[hWZ];exact setRow_other _ _ _ _ (by omega)
          have hZz:WZ.heap.size=w5.heap.size:=by rw[hWZ,setRow_size]
          clear hWZ)
        |fail)
       have rinZ:RcIn WZ dR hd:=RLo.out.stay (fun k hk=>by
        rw[rng_iff]at hk
        have h1:=hz1
        simp at h1
        exact(hS k (by omega)).trans (HB5.out.block k (by omega))) (by have:=HB5.out.size;omega)
       exact post_cell_tmp (by rfl) (by rfl) HBZ.out Tryz.underlying38 (by rfl) (by kernel_rfl) ⟨hd,rfl,rok,rcp,rinZ,hXZ⟩
     · have hb3:(encOut r==l)=false:=by simp[he3]
       have hE4:dE=4:=by rw[HE'.out,if_neg (by omega),if_pos he3]
       have hR4:dR=zRc:=by rw[HR.out,if_neg (by omega)]
       subst hE4 hR4
       have HZ:=Lib.hid B5
       clear B5
       go_wp2_with (first
        |(guard_target=~ wpList _ _ _ _ _ _;refine wpList_store_row rfl 38 _ _ rfl w.heap.size zRec (by kernel_rfl) (by kernel_rfl) _ _ HZ.out (by kernel_rfl) (by kernel_rfl) (by kernel_rfl) ?_
          obtain⟨WZ,hWZ⟩:∃WZ:World,WZ=w5.setRow w.heap.size zRec:=⟨_,rfl⟩
          rw[←hWZ]
          have HBZ:=Lib.hid (show Blk WZ w.heap.size 38 zRec by rw[hWZ];exact HZ.out.setRow _)
          have hXZ:Below w.heap.size w WZ:=by rw[hWZ];exact below_setRow hX6 (Nat.le_refl _) _
          clear hWZ)
        |fail)
       exact post_cell_tmp (by rfl) (by rfl) HBZ.out Tryz.underlying38 (by rfl) (by kernel_rfl) (RecE.zero 4 rfl hXZ)
   · have hb2:(encE r==0)=false:=by simp[he2]
     have hE4:dE=4:=by rw[HE'.out,if_pos he2]
     have hR4:dR=zRc:=by rw[HR.out,if_neg (by omega)]
     subst hE4 hR4
     clear C5 C4 B4 hown5
     have HZ:=Lib.hid B5
     clear B5
     go_wp2_with (first
        |(guard_target=~ wpList _ _ _ _ _ _;refine wpList_store_row rfl 38 _ _ rfl w.heap.size zRec (by kernel_rfl) (by kernel_rfl) _ _ HZ.out (by kernel_rfl) (by kernel_rfl) (by kernel_rfl) ?_
          obtain⟨WZ,hWZ⟩:∃WZ:World,WZ=w5.setRow w.heap.size zRec:=⟨_,rfl⟩
          rw[←hWZ]
          have HBZ:=Lib.hid (show Blk WZ w.heap.size 38 zRec by rw[hWZ];exact HZ.out.setRow _)
          have hXZ:Below w.heap.size w WZ:=by rw[hWZ];exact below_setRow hX6 (Nat.le_refl _) _
          clear hWZ)
        |fail)
     exact post_cell_tmp (by rfl) (by rfl) HBZ.out Tryz.underlying38 (by rfl) (by kernel_rfl) (RecE.zero 4 rfl hXZ)
 · have hb1:((xEnd l s1).1==0)=false:=by simp[he1]
   have hE4:dE=4:=by
    rw[HE.out,if_neg (by omega)]
    by_cases e0:s1.e=0
    · rw[if_neg (by simp;exact e0),if_pos (fun h=>he1 (xEnd_ok.2 ⟨e0,h⟩))]
    · rw[if_pos e0]
   have hR4:dR=zRc:=by rw[HR.out,if_neg (by omega)]
   subst hE4 hR4
   clear C4
   have HZ:=Lib.hid B4
   clear B4
   go_wp2_with (first
    |(guard_target=~ wpList _ _ _ _ _ _;refine wpList_store_row rfl 38 _ _ rfl w.heap.size zRec (by kernel_rfl) (by kernel_rfl) _ _ HZ.out (by kernel_rfl) (by kernel_rfl) (by kernel_rfl) ?_
      obtain⟨WZ,hWZ⟩:∃WZ:World,WZ=W4.setRow w.heap.size zRec:=⟨_,rfl⟩
      rw[←hWZ]
      have HBZ:=Lib.hid (show Blk WZ w.heap.size 38 zRec by rw[hWZ];exact HZ.out.setRow _)
      have hXZ:Below w.heap.size w WZ:=by rw[hWZ];exact below_setRow hX5 (Nat.le_refl _) _
      clear hWZ)
    |fail)
   exact post_cell_tmp (by rfl) (by rfl) HBZ.out Tryz.underlying38 (by rfl) (by kernel_rfl) (RecE.zero 4 rfl hXZ)
end Go.Proofs.YthdmanadhbpogaaGreat
