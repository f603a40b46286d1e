/- The walk of the document's bytes of a state. -/
import Derived.Test.YtcalkfgibflbnaaGreatKaab
import Derived.Test.YtcalkfgibflbnaaGreatKace
namespace Go.Proofs.YtcalkfgibflbnaaGreat
set_option linter.unusedVariables false
open Go.RowKit Fl
attribute [local go_sem] run_store_float
theorem Blk.push {w w':World} {g:Nat} {t:TypeId} {cs:Array Value} {base n:Nat} {v:Value} {xs:List Value} (hb:Blk w g t cs) (ht:t≠5) (hown:w.ownsRow base 5 1 v n xs) (hg:w.grownBy w' v.ownBlock):Blk w' g t cs:=
 hb.grown hg fun e=>by
  obtain⟨c,fz,hc⟩:=Go.Lib.ownsRow_kind hown g e.symm
  unfold Blk at hb
  rw[hc]at hb
  injection hb with h1
  injection h1 with h2 h3
  exact ht h3.symm
set_option maxRecDepth 100000 in
set_option maxHeartbeats 8000000 in
theorem xState (s:Stt) (A1 A2:Option Addr) (n1 n2 c1 c2:Nat) (w:World) (hr:s.r.ok) (hf:s.f.ok) (hc:s.c.ok) (h1:Sl HsRel 2 w w.heap.size A1 n1 s.h) (h2:Sl PnRel 8 w w.heap.size A2 n2 s.p) (hn1:n1≤maxLen) (hn2:n2≤maxLen) (hlen:(encSt s).length≤1000000000000):
 Calls Tryz.prog 94 #[.agg (s.arr (.slice A1 n1 c1) (.slice A2 n2 c2))] w (RowPost w (encSt s)):=by
 have hl1:s.h.length=n1:=h1.1
 have hl2:s.p.length=n2:=h2.1
 unfold maxLen at hn1 hn2
 have hlt:(encSt s).length=(encRg s.r).length+((encSp s.f).length+((encSp s.c).length+(((encI (n1:Int)).length+(s.h.flatMap encHs).length)+((encI (n2:Int)).length+(s.p.flatMap encPn).length)))):=by unfold encSt encLs;simp only[List.length_append,hl1,hl2]
 have hbd:(encRg s.r).length+((encSp s.f).length+((encSp s.c).length+(((encI (n1:Int)).length+(s.h.flatMap encHs).length)+((encI (n2:Int)).length+(s.p.flatMap encPn).length))))≤1000000000000:=by omega
 have HB0:=Lib.hid hbd
 have HL1:=Lib.hid hl1
 have HL2:=Lib.hid hl2
 have hg1:s.h.length≤n1:=by omega
 have hg2:s.p.length≤n2:=by omega
 clear hlt hbd hlen hl1 hl2
 obtain⟨i0,hi0,hz0,hz1,hz2⟩:=info_partsW u8_info
 have HX:Below w.heap.size w (w.alloc (.cells #[.int .i64 s.r.id,.int .i64 s.r.ep,.float .f64 s.r.lo,.float .f64 s.r.hi,.int .i64 s.f.w,.int .i64 s.f.l,.int .i64 s.f.n,.int .i64 s.c.w,.int .i64 s.c.l,.int .i64 s.c.n,.slice A1 n1 c1,.slice A2 n2 c2] 39)):=by go_grown
 have HB:w.heap.size<((w.alloc (.cells #[.int .i64 s.r.id,.int .i64 s.r.ep,.float .f64 s.r.lo,.float .f64 s.r.hi,.int .i64 s.f.w,.int .i64 s.f.l,.int .i64 s.f.n,.int .i64 s.c.w,.int .i64 s.c.l,.int .i64 s.c.n,.slice A1 n1 c1,.slice A2 n2 c2] 39))).heap.size:=by simp
 have C0:=cn HX 0
 have C1:=cn HX 1
 have C2:=cn HX 2
 have C3:=cn HX 3
 have C4:=cn HX 4
 have C5:=cn HX 5
 have C6:=cn HX 6
 have C7:=cn HX 7
 have C8:=cn HX 8
 have C9:=cn HX 9
 have C10:=cn HX 10
 have C11:=cn HX 11
 go_enter Tryz.func94,Tryz.ntmps94
 go_wp2_with fail
 refine(xRange s.r _ hr).mono ?_
 rintro e wa1 ⟨Aa1,qa1,rfl,hqa1,hma1,howna1,hba1⟩
 have hrowa1:RowRel (w.alloc (.cells #[.int .i64 s.r.id,.int .i64 s.r.ep,.float .f64 s.r.lo,.float .f64 s.r.hi,.int .i64 s.f.w,.int .i64 s.f.l,.int .i64 s.f.n,.int .i64 s.c.w,.int .i64 s.c.l,.int .i64 s.c.n,.slice A1 n1 c1,.slice A2 n2 c2] 39)) (encRg s.r) (.slice Aa1 (encRg s.r).length qa1) wa1:=⟨howna1,hba1⟩
 have ca1_0:=up C0 hrowa1.2 HB
 have ca1_1:=up C1 hrowa1.2 HB
 have ca1_2:=up C2 hrowa1.2 HB
 have ca1_3:=up C3 hrowa1.2 HB
 have ca1_4:=up C4 hrowa1.2 HB
 have ca1_5:=up C5 hrowa1.2 HB
 have ca1_6:=up C6 hrowa1.2 HB
 have ca1_7:=up C7 hrowa1.2 HB
 have ca1_8:=up C8 hrowa1.2 HB
 have ca1_9:=up C9 hrowa1.2 HB
 have ca1_10:=up C10 hrowa1.2 HB
 have ca1_11:=up C11 hrowa1.2 HB
 go_wp2_with fail
 refine(xStamp s.f _ hf).mono ?_
 rintro e wa2 ⟨Aa2,qa2,rfl,hqa2,hma2,howna2,hba2⟩
 have hrowa2:=hrowa1.below hba2
 have za2a:(encRg s.r).length+(encSp s.f).length≤maxLen:=by unfold maxLen;have:=HB0.out;omega
 have za2b:((encRg s.r).length+(encSp s.f).length)*1≤140737488355328:=by have:=HB0.out;omega
 go_wp2_with (at_builtin;refine wpList_append_any _ rfl _ _ _ rfl ((w.alloc (.cells #[.int .i64 s.r.id,.int .i64 s.r.ep,.float .f64 s.r.lo,.float .f64 s.r.hi,.int .i64 s.f.w,.int .i64 s.f.l,.int .i64 s.f.n,.int .i64 s.c.w,.int .i64 s.c.l,.int .i64 s.c.n,.slice A1 n1 c1,.slice A2 n2 c2] 39))).heap.size 5 i0 _ 1 1 Tryz.underlying49 hi0 hz0 hz1 hz2 rfl (by omega) (.slice Aa1 (encRg s.r).length qa1) _ (bytesV (encRg s.r)) (by rfl) hrowa2.1 wa2.heap.size Aa2 (encSp s.f).length qa2 (bytesV (encSp s.f)) (by rfl) (Reads.of_own howna2) (bytesV_one _) za2a za2b hrowa2.2.size ?_;intro va2' wa2' howna2' hga2' hata2';have hra2:=hrowa2.push (Below.refl _ _) howna2' hga2';obtain⟨Pa2,HPa2,LPa2⟩:=named (encRg s.r) (encSp s.f);rw[←HPa2.out]at hra2;obtain⟨Aa2',qa2',rfl,hqa2',hma2'⟩:=own_form hra2.1;have ca2_0:=up C0 hra2.2 HB;have ca2_1:=up C1 hra2.2 HB;have ca2_2:=up C2 hra2.2 HB;have ca2_3:=up C3 hra2.2 HB;have ca2_4:=up C4 hra2.2 HB;have ca2_5:=up C5 hra2.2 HB;have ca2_6:=up C6 hra2.2 HB;have ca2_7:=up C7 hra2.2 HB;have ca2_8:=up C8 hra2.2 HB;have ca2_9:=up C9 hra2.2 HB;have ca2_10:=up C10 hra2.2 HB;have ca2_11:=up C11 hra2.2 HB)
 clear za2a za2b howna2' hga2' hata2' hrowa2 howna2 hba2
 go_wp2_with fail
 refine(xStamp s.c _ hc).mono ?_
 rintro e wa3 ⟨Aa3,qa3,rfl,hqa3,hma3,howna3,hba3⟩
 have hrowa3:=hra2.below hba3
 have za3a:(Pa2).length+(encSp s.c).length≤maxLen:=by unfold maxLen;have:=HB0.out;have:=LPa2.out;omega
 have za3b:((Pa2).length+(encSp s.c).length)*1≤140737488355328:=by have:=HB0.out;have:=LPa2.out;omega
 go_wp2_with (at_builtin;refine wpList_append_any _ rfl _ _ _ rfl ((w.alloc (.cells #[.int .i64 s.r.id,.int .i64 s.r.ep,.float .f64 s.r.lo,.float .f64 s.r.hi,.int .i64 s.f.w,.int .i64 s.f.l,.int .i64 s.f.n,.int .i64 s.c.w,.int .i64 s.c.l,.int .i64 s.c.n,.slice A1 n1 c1,.slice A2 n2 c2] 39))).heap.size 5 i0 _ 1 1 Tryz.underlying49 hi0 hz0 hz1 hz2 rfl (by omega) (.slice Aa2' Pa2.length qa2') _ (bytesV (Pa2)) (by rfl) hrowa3.1 wa3.heap.size Aa3 (encSp s.c).length qa3 (bytesV (encSp s.c)) (by rfl) (Reads.of_own howna3) (bytesV_one _) za3a za3b hrowa3.2.size ?_;intro va3' wa3' howna3' hga3' hata3';have hra3:=hrowa3.push (Below.refl _ _) howna3' hga3';obtain⟨Pa3,HPa3,LPa3⟩:=named (Pa2) (encSp s.c);rw[←HPa3.out]at hra3;obtain⟨Aa3',qa3',rfl,hqa3',hma3'⟩:=own_form hra3.1;have ca3_0:=up C0 hra3.2 HB;have ca3_1:=up C1 hra3.2 HB;have ca3_2:=up C2 hra3.2 HB;have ca3_3:=up C3 hra3.2 HB;have ca3_4:=up C4 hra3.2 HB;have ca3_5:=up C5 hra3.2 HB;have ca3_6:=up C6 hra3.2 HB;have ca3_7:=up C7 hra3.2 HB;have ca3_8:=up C8 hra3.2 HB;have ca3_9:=up C9 hra3.2 HB;have ca3_10:=up C10 hra3.2 HB;have ca3_11:=up C11 hra3.2 HB)
 clear za3a za3b howna3' hga3' hata3' hrowa3 howna3 hba3
 go_wp2_with fail
 refine(xint (n1:Int) _ (by omega) (by omega)).mono ?_
 rintro e wa4 ⟨Aa4,qa4,rfl,hqa4,hma4,howna4,hba4⟩
 have hrowa4:=hra3.below hba4
 have za4a:(Pa3).length+(encI (n1:Int)).length≤maxLen:=by unfold maxLen;have:=HB0.out;have:=LPa2.out;have:=LPa3.out;omega
 have za4b:((Pa3).length+(encI (n1:Int)).length)*1≤140737488355328:=by have:=HB0.out;have:=LPa2.out;have:=LPa3.out;omega
 go_wp2_with (at_builtin;refine wpList_append_any _ rfl _ _ _ rfl ((w.alloc (.cells #[.int .i64 s.r.id,.int .i64 s.r.ep,.float .f64 s.r.lo,.float .f64 s.r.hi,.int .i64 s.f.w,.int .i64 s.f.l,.int .i64 s.f.n,.int .i64 s.c.w,.int .i64 s.c.l,.int .i64 s.c.n,.slice A1 n1 c1,.slice A2 n2 c2] 39))).heap.size 5 i0 _ 1 1 Tryz.underlying49 hi0 hz0 hz1 hz2 rfl (by omega) (.slice Aa3' Pa3.length qa3') _ (bytesV (Pa3)) (by rfl) hrowa4.1 wa4.heap.size Aa4 (encI (n1:Int)).length qa4 (bytesV (encI (n1:Int))) (by rfl) (Reads.of_own howna4) (bytesV_one _) za4a za4b hrowa4.2.size ?_;intro va4' wa4' howna4' hga4' hata4';have hra4:=hrowa4.push (Below.refl _ _) howna4' hga4';obtain⟨Pa4,HPa4,LPa4⟩:=named (Pa3) (encI (n1:Int));rw[←HPa4.out]at hra4;obtain⟨Aa4',qa4',rfl,hqa4',hma4'⟩:=own_form hra4.1;have ca4_0:=up C0 hra4.2 HB;have ca4_1:=up C1 hra4.2 HB;have ca4_2:=up C2 hra4.2 HB;have ca4_3:=up C3 hra4.2 HB;have ca4_4:=up C4 hra4.2 HB;have ca4_5:=up C5 hra4.2 HB;have ca4_6:=up C6 hra4.2 HB;have ca4_7:=up C7 hra4.2 HB;have ca4_8:=up C8 hra4.2 HB;have ca4_9:=up C9 hra4.2 HB;have ca4_10:=up C10 hra4.2 HB;have ca4_11:=up C11 hra4.2 HB)
 clear za4a za4b howna4' hga4' hata4' hrowa4 howna4 hba4
 have HA:RowKit.Hid (Pa4=encRg s.r++(encSp s.f++(encSp s.c++encI (n1:Int)))):=Lib.hid (by rw[HPa4.out,HPa3.out,HPa2.out];simp only[List.append_assoc])
 have LA:RowKit.Hid (Pa4.length+(s.h.flatMap encHs).length+(encI (n2:Int)).length+(s.p.flatMap encPn).length≤1000000000000):=Lib.hid (by have:=HB0.out;have:=LPa4.out;have:=LPa3.out;have:=LPa2.out;omega)
 clear hra2 hra3 HPa2 HPa3 HPa4 LPa2 LPa3 LPa4
 generalize Pa4=PA at*
 go_wp2_with fail
 go_loopw [3,4] (fun out i wr=>∃k:Nat,k≤n1∧i=.int .i64 (k:Int)∧RowRel (w.alloc (.cells #[.int .i64 s.r.id,.int .i64 s.r.ep,.float .f64 s.r.lo,.float .f64 s.r.hi,.int .i64 s.f.w,.int .i64 s.f.l,.int .i64 s.f.n,.int .i64 s.c.w,.int .i64 s.c.l,.int .i64 s.c.n,.slice A1 n1 c1,.slice A2 n2 c2] 39)) (PA++(s.h.take k).flatMap encHs) out wr) (fun _ i _=>n1-(intOf i).toNat)
 case atStart=>exact⟨0,by omega,rfl,by simpa using hra4⟩
 case round=>
  obtain⟨k,hk,rfl,hrow⟩:=hrel
  obtain⟨P0,HP0,LP0⟩:=named PA ((s.h.take k).flatMap encHs)
  rw[←HP0.out]at hrow
  obtain⟨A0,q0,rfl,hq0,hm0⟩:=own_form hrow.1
  have r0_10:=up C10 hrow.2 HB
  have r0_11:=up C11 hrow.2 HB
  have hwr:Below w.heap.size w wr:=HX.trans (hrow.2.mono HX.size)
  clear hra4 ca4_0 ca4_1 ca4_2 ca4_3 ca4_4 ca4_5 ca4_6 ca4_7 ca4_8 ca4_9 ca4_10 ca4_11
  by_cases hlt:k<n1
  · obtain⟨ad,a,A',n',c',rfl,hl,hbk,hks,D0,D1,hnc,hcm,hS⟩:=h1.hs hlt
    replace D0:=(hwr.cell hbk).trans D0
    replace D1:=(hwr.cell (p:=⟨_,_,none⟩) hbk).trans D1
    have hd1:decide ((k:Int)<(n1:Int))=true:=by simp;omega
    have hk0:(0:Int)≤(k:Int):=by omega
    have hk1:(k:Int)<(n1:Int):=by omega
    have HT:=Lib.hid (flat_snoc encHs hl)
    have hfl:((s.h.take k).flatMap encHs).length+(encHs a).length≤(s.h.flatMap encHs).length:=by
        have h1:=flat_take_le encHs s.h (k+1)
        rw[HT.out,List.length_append]at h1;exact h1
    have hln':a.vs.length=n':=hS.1
    have hle':(encHs a).length=(encKy a.key).length+((encI (n':Int)).length+(a.vs.flatMap encVn).length):=by unfold encHs encLs;simp only[List.length_append,hln']
    have hsz:a.key.size≤(encKy a.key).length:=by {have e:a.key.size=a.key.data.toList.length:=(Array.length_toList (xs:=a.key.data)).symm;unfold encKy encT;rw[List.length_append];omega}
    have LL:RowKit.Hid (P0.length+((encKy a.key).length+((encI (n':Int)).length+(a.vs.flatMap encVn).length))≤1000000000000):=Lib.hid (by have h1:=LP0.out;have h2:=LA.out;rw[hle']at hfl;omega)
    have HN':=Lib.hid hln'
    have hgn':a.vs.length≤n':=by omega
    unfold maxLen at hcm
    have hn'1:n'≤9223372036854775807:=by omega
    clear hl hfl hle' hln'
    have kH:Blk (wr.alloc (.cells #[.string a.key,.slice A' n' c'] 158)) wr.heap.size 158 #[.string a.key,.slice A' n' c']:=Blk.new _ _ _
    have hrowX:RowRel (w.alloc (.cells #[.int .i64 s.r.id,.int .i64 s.r.ep,.float .f64 s.r.lo,.float .f64 s.r.hi,.int .i64 s.f.w,.int .i64 s.f.l,.int .i64 s.f.n,.int .i64 s.c.w,.int .i64 s.c.l,.int .i64 s.c.n,.slice (some ad) n1 c1,.slice A2 n2 c2] 39)) P0 (.slice A0 P0.length q0) (wr.alloc (.cells #[.string a.key,.slice A' n' c'] 158)):=hrow.below ((Below.refl _ _).alloc (Nat.le_refl _) _)
    have hl0:wr.heap.size<wr.heap.size+1:=by omega
    go_wp2_with fail
    refine(xtext a.key _ (by have:=LL.out;omega)).mono ?_
    rintro e wc1 ⟨Ac1,qc1,rfl,hqc1,hmc1,hownc1,hbc1⟩
    have hrowc1:=hrowX.below hbc1
    replace kH:=kH.below hbc1 kH.lt
    have kHc1_0:=cl (kH.cell 0)
    have kHc1_1:=cl (kH.cell 1)
    have zc1a:(P0).length+(encKy a.key).length≤maxLen:=by unfold maxLen;have:=LL.out;omega
    have zc1b:((P0).length+(encKy a.key).length)*1≤140737488355328:=by have:=LL.out;omega
    go_wp2_with (at_builtin;refine wpList_append_any _ rfl _ _ _ rfl ((w.alloc (.cells #[.int .i64 s.r.id,.int .i64 s.r.ep,.float .f64 s.r.lo,.float .f64 s.r.hi,.int .i64 s.f.w,.int .i64 s.f.l,.int .i64 s.f.n,.int .i64 s.c.w,.int .i64 s.c.l,.int .i64 s.c.n,.slice (some ad) n1 c1,.slice A2 n2 c2] 39))).heap.size 5 i0 _ 1 1 Tryz.underlying49 hi0 hz0 hz1 hz2 rfl (by omega) (.slice A0 P0.length q0) _ (bytesV (P0)) (by rfl) hrowc1.1 wc1.heap.size Ac1 (encKy a.key).length qc1 (bytesV (encKy a.key)) (by rfl) (Reads.of_own hownc1) (bytesV_one _) zc1a zc1b hrowc1.2.size ?_;intro vc1' wc1' hownc1' hgc1' hatc1';have hrc1:=hrowc1.push (Below.refl _ _) hownc1' hgc1';obtain⟨Pc1,HPc1,LPc1⟩:=named (P0) (encKy a.key);rw[←HPc1.out]at hrc1;obtain⟨Ac1',qc1',rfl,hqc1',hmc1'⟩:=own_form hrc1.1;have cc1_10:=up C10 hrc1.2 HB;have cc1_11:=up C11 hrc1.2 HB;replace kH:=kH.push (by decide) hrowc1.1 hgc1';have kHc1'_0:=cl (kH.cell 0);have kHc1'_1:=cl (kH.cell 1))
    clear zc1a zc1b hownc1' hgc1' hatc1' hrowc1 hownc1 hbc1
    go_wp2_with fail
    refine(xint (n':Int) _ (by omega) (by omega)).mono ?_
    rintro e wc2 ⟨Ac2,qc2,rfl,hqc2,hmc2,hownc2,hbc2⟩
    have hrowc2:=hrc1.below hbc2
    replace kH:=kH.below hbc2 kH.lt
    have kHc2_0:=cl (kH.cell 0)
    have kHc2_1:=cl (kH.cell 1)
    have zc2a:(Pc1).length+(encI (n':Int)).length≤maxLen:=by unfold maxLen;have:=LL.out;have:=LPc1.out;omega
    have zc2b:((Pc1).length+(encI (n':Int)).length)*1≤140737488355328:=by have:=LL.out;have:=LPc1.out;omega
    go_wp2_with (at_builtin;refine wpList_append_any _ rfl _ _ _ rfl ((w.alloc (.cells #[.int .i64 s.r.id,.int .i64 s.r.ep,.float .f64 s.r.lo,.float .f64 s.r.hi,.int .i64 s.f.w,.int .i64 s.f.l,.int .i64 s.f.n,.int .i64 s.c.w,.int .i64 s.c.l,.int .i64 s.c.n,.slice (some ad) n1 c1,.slice A2 n2 c2] 39))).heap.size 5 i0 _ 1 1 Tryz.underlying49 hi0 hz0 hz1 hz2 rfl (by omega) (.slice Ac1' Pc1.length qc1') _ (bytesV (Pc1)) (by rfl) hrowc2.1 wc2.heap.size Ac2 (encI (n':Int)).length qc2 (bytesV (encI (n':Int))) (by rfl) (Reads.of_own hownc2) (bytesV_one _) zc2a zc2b hrowc2.2.size ?_;intro vc2' wc2' hownc2' hgc2' hatc2';have hrc2:=hrowc2.push (Below.refl _ _) hownc2' hgc2';obtain⟨Pc2,HPc2,LPc2⟩:=named (Pc1) (encI (n':Int));rw[←HPc2.out]at hrc2;obtain⟨Ac2',qc2',rfl,hqc2',hmc2'⟩:=own_form hrc2.1;have cc2_10:=up C10 hrc2.2 HB;have cc2_11:=up C11 hrc2.2 HB;replace kH:=kH.push (by decide) hrowc2.1 hgc2';have kHc2'_0:=cl (kH.cell 0);have kHc2'_1:=cl (kH.cell 1))
    clear zc2a zc2b hownc2' hgc2' hatc2' hrowc2 hownc2 hbc2
    have HC:RowKit.Hid (Pc2=P0++(encKy a.key++encI (n':Int))):=Lib.hid (by rw[HPc2.out,HPc1.out];simp only[List.append_assoc])
    have LC:RowKit.Hid (Pc2.length+(a.vs.flatMap encVn).length≤1000000000000):=Lib.hid (by have:=LL.out;have:=LPc2.out;have:=LPc1.out;omega)
    clear hrc1 HPc1 HPc2 LPc1 LPc2 hrowX LL
    generalize Pc2=PC at*
    obtain⟨wo,rfl⟩:∃wo:World,wo=wr:=⟨_,rfl⟩
    go_wp2_with fail
    go_loopw [3,6] (fun out i wr=>∃k2:Nat,k2≤n'∧i=.int .i64 (k2:Int)∧RowRel (w.alloc (.cells #[.int .i64 s.r.id,.int .i64 s.r.ep,.float .f64 s.r.lo,.float .f64 s.r.hi,.int .i64 s.f.w,.int .i64 s.f.l,.int .i64 s.f.n,.int .i64 s.c.w,.int .i64 s.c.l,.int .i64 s.c.n,.slice (some ad) n1 c1,.slice A2 n2 c2] 39)) (PC++(a.vs.take k2).flatMap encVn) out wr∧Blk wr wo.heap.size 158 #[.string a.key,.slice A' n' c']) (fun _ i _=>n'-(intOf i).toNat)
    case atStart=>exact⟨0,by omega,rfl,by simpa using hrc2,kH⟩
    case round=>
        obtain⟨k2,hk2,rfl,hrow2,kV⟩:=hrel
        obtain⟨P1,HP1,LP1⟩:=named PC ((a.vs.take k2).flatMap encVn)
        rw[←HP1.out]at hrow2
        obtain⟨B0,b0,rfl,hB0,hb0'⟩:=own_form hrow2.1
        clear hrc2 kH hrow
        have hwr2:Below w.heap.size w wr:=HX.trans (hrow2.2.mono HX.size)
        have kV0:=cl (kV.cell 0)
        have kV1:=cl (kV.cell 1)
        by_cases hlt2:k2<n'
        · obtain⟨ad',a',rfl,hl,hbk2,hok,C0',C1',C2',C3',C4',C5'⟩:=hS.vn hlt2
          have hd2:decide ((k2:Int)<(n':Int))=true:=by simp;omega
          have hk3:(0:Int)≤(k2:Int):=by omega
          have hk4:(k2:Int)<(n':Int):=by omega
          have HT2:=Lib.hid (flat_snoc encVn hl)
          have hfl:((a.vs.take k2).flatMap encVn).length+(encVn a').length≤(a.vs.flatMap encVn).length:=by
           have h1:=flat_take_le encVn a.vs (k2+1)
           rw[HT2.out,List.length_append]at h1;exact h1
          have LV:RowKit.Hid (P1.length+((encSp a'.s).length+(encVl a'.v).length)≤1000000000000):=Lib.hid (by have h1:=LP1.out;have h2:=LC.out;have h3:(encVn a').length=(encSp a'.s).length+(encVl a'.v).length:=List.length_append;omega)
          clear hl hfl
          have hbk3:(ad'.add (k2*6)).block<((w.alloc (.cells #[.int .i64 s.r.id,.int .i64 s.r.ep,.float .f64 s.r.lo,.float .f64 s.r.hi,.int .i64 s.f.w,.int .i64 s.f.l,.int .i64 s.f.n,.int .i64 s.c.w,.int .i64 s.c.l,.int .i64 s.c.n,.slice (some ad) n1 c1,.slice A2 n2 c2] 39))).heap.size:=Nat.lt_trans hbk2 HB
          have E0:=up C0' HX hbk2
          have x_0:=up C0' hwr2 hbk2
          have E1:=up C1' HX hbk2
          have x_1:=up C1' hwr2 hbk2
          have E2:=up C2' HX hbk2
          have x_2:=up C2' hwr2 hbk2
          have E3:=up C3' HX hbk2
          have x_3:=up C3' hwr2 hbk2
          have E4:=up C4' HX hbk2
          have x_4:=up C4' hwr2 hbk2
          have E5:=up C5' HX hbk2
          have x_5:=up C5' hwr2 hbk2
          go_wp2_with fail
          refine(xStamp a'.s _ hok.1).mono ?_
          rintro e wd1 ⟨Ad1,qd1,rfl,hqd1,hmd1,hownd1,hbd1⟩
          have hrowd1:=hrow2.below hbd1
          replace kV:=kV.below hbd1 kV.lt
          have kVd1_0:=cl (kV.cell 0)
          have kVd1_1:=cl (kV.cell 1)
          have zd1a:(P1).length+(encSp a'.s).length≤maxLen:=by unfold maxLen;have:=LV.out;omega
          have zd1b:((P1).length+(encSp a'.s).length)*1≤140737488355328:=by have:=LV.out;omega
          go_wp2_with (at_builtin;refine wpList_append_any _ rfl _ _ _ rfl ((w.alloc (.cells #[.int .i64 s.r.id,.int .i64 s.r.ep,.float .f64 s.r.lo,.float .f64 s.r.hi,.int .i64 s.f.w,.int .i64 s.f.l,.int .i64 s.f.n,.int .i64 s.c.w,.int .i64 s.c.l,.int .i64 s.c.n,.slice (some ad) n1 c1,.slice A2 n2 c2] 39))).heap.size 5 i0 _ 1 1 Tryz.underlying49 hi0 hz0 hz1 hz2 rfl (by omega) (.slice B0 P1.length b0) _ (bytesV (P1)) (by rfl) hrowd1.1 wd1.heap.size Ad1 (encSp a'.s).length qd1 (bytesV (encSp a'.s)) (by rfl) (Reads.of_own hownd1) (bytesV_one _) zd1a zd1b hrowd1.2.size ?_;intro vd1' wd1' hownd1' hgd1' hatd1';have hrd1:=hrowd1.push (Below.refl _ _) hownd1' hgd1';obtain⟨Pd1,HPd1,LPd1⟩:=named (P1) (encSp a'.s);rw[←HPd1.out]at hrd1;obtain⟨Ad1',qd1',rfl,hqd1',hmd1'⟩:=own_form hrd1.1;have cd1_0:=up E0 hrd1.2 hbk3;have cd1_1:=up E1 hrd1.2 hbk3;have cd1_2:=up E2 hrd1.2 hbk3;have cd1_3:=up E3 hrd1.2 hbk3;have cd1_4:=up E4 hrd1.2 hbk3;have cd1_5:=up E5 hrd1.2 hbk3;replace kV:=kV.push (by decide) hrowd1.1 hgd1';have kVd1'_0:=cl (kV.cell 0);have kVd1'_1:=cl (kV.cell 1))
          clear zd1a zd1b hownd1' hgd1' hatd1' hrowd1 hownd1 hbd1
          go_wp2_with fail
          refine(xPut a'.v _ hok.2 (by have:=LV.out;omega)).mono ?_
          rintro e wd2 ⟨Ad2,qd2,rfl,hqd2,hmd2,hownd2,hbd2⟩
          have hrowd2:=hrd1.below hbd2
          replace kV:=kV.below hbd2 kV.lt
          have kVd2_0:=cl (kV.cell 0)
          have kVd2_1:=cl (kV.cell 1)
          have zd2a:(Pd1).length+(encVl a'.v).length≤maxLen:=by unfold maxLen;have:=LV.out;have:=LPd1.out;omega
          have zd2b:((Pd1).length+(encVl a'.v).length)*1≤140737488355328:=by have:=LV.out;have:=LPd1.out;omega
          go_wp2_with (at_builtin;refine wpList_append_any _ rfl _ _ _ rfl ((w.alloc (.cells #[.int .i64 s.r.id,.int .i64 s.r.ep,.float .f64 s.r.lo,.float .f64 s.r.hi,.int .i64 s.f.w,.int .i64 s.f.l,.int .i64 s.f.n,.int .i64 s.c.w,.int .i64 s.c.l,.int .i64 s.c.n,.slice (some ad) n1 c1,.slice A2 n2 c2] 39))).heap.size 5 i0 _ 1 1 Tryz.underlying49 hi0 hz0 hz1 hz2 rfl (by omega) (.slice Ad1' Pd1.length qd1') _ (bytesV (Pd1)) (by rfl) hrowd2.1 wd2.heap.size Ad2 (encVl a'.v).length qd2 (bytesV (encVl a'.v)) (by rfl) (Reads.of_own hownd2) (bytesV_one _) zd2a zd2b hrowd2.2.size ?_;intro vd2' wd2' hownd2' hgd2' hatd2';have hrd2:=hrowd2.push (Below.refl _ _) hownd2' hgd2';obtain⟨Pd2,HPd2,LPd2⟩:=named (Pd1) (encVl a'.v);rw[←HPd2.out]at hrd2;obtain⟨Ad2',qd2',rfl,hqd2',hmd2'⟩:=own_form hrd2.1;have cd2_0:=up E0 hrd2.2 hbk3;have cd2_1:=up E1 hrd2.2 hbk3;have cd2_2:=up E2 hrd2.2 hbk3;have cd2_3:=up E3 hrd2.2 hbk3;have cd2_4:=up E4 hrd2.2 hbk3;have cd2_5:=up E5 hrd2.2 hbk3;replace kV:=kV.push (by decide) hrowd2.1 hgd2';have kVd2'_0:=cl (kV.cell 0);have kVd2'_1:=cl (kV.cell 1))
          clear zd2a zd2b hownd2' hgd2' hatd2' hrowd2 hownd2 hbd2
          go_roundw
          case rel=>
           refine⟨k2+1,by omega,by go_num,?_,kV⟩
           have HQ:PC++(a.vs.take (k2+1)).flatMap encVn=Pd2:=by rw[HT2.out,HPd2.out,HPd1.out,HP1.out];simp only[encVn,List.append_assoc]
           rw[HQ]
           exact hrd2
          case measure=>simp[intOf];omega
        · have hd2:decide ((k2:Int)<(n':Int))=false:=by simp;omega
          have HQ:PA++(s.h.take (k+1)).flatMap encHs=P1:=by rw[HT.out,HP1.out,flat_all encVn (by omega),HC.out,HP0.out];unfold encHs encLs;rw[HN'.out];simp only[List.append_assoc]
          have HQ':=Lib.hid HQ
          clear HQ
          go_wp2_with fail
          go_roundw
          case rel=>
           refine⟨k+1,by omega,by go_num,?_⟩
           rw[HQ'.out]
           exact hrow2
          case measure=>simp[intOf];omega
  · have hd1:decide ((k:Int)<(n1:Int))=false:=by simp;omega
    have LL:RowKit.Hid (P0.length+(encI (n2:Int)).length+(s.p.flatMap encPn).length≤1000000000000):=Lib.hid (by
        have h1:=LP0.out;have h2:=LA.out;rw[flat_all encHs (by omega)]at h1;omega)
    have HD:RowKit.Hid (P0=PA++s.h.flatMap encHs):=Lib.hid (by rw[HP0.out,flat_all encHs (by omega)])
    clear HP0 LP0
    go_wp2_with fail
    refine(xint (n2:Int) _ (by omega) (by omega)).mono ?_
    rintro e we1 ⟨Ae1,qe1,rfl,hqe1,hme1,howne1,hbe1⟩
    have hrowe1:=hrow.below hbe1
    have ze1a:(P0).length+(encI (n2:Int)).length≤maxLen:=by unfold maxLen;have:=LL.out;omega
    have ze1b:((P0).length+(encI (n2:Int)).length)*1≤140737488355328:=by have:=LL.out;omega
    go_wp2_with (at_builtin;refine wpList_append_any _ rfl _ _ _ rfl ((w.alloc (.cells #[.int .i64 s.r.id,.int .i64 s.r.ep,.float .f64 s.r.lo,.float .f64 s.r.hi,.int .i64 s.f.w,.int .i64 s.f.l,.int .i64 s.f.n,.int .i64 s.c.w,.int .i64 s.c.l,.int .i64 s.c.n,.slice A1 n1 c1,.slice A2 n2 c2] 39))).heap.size 5 i0 _ 1 1 Tryz.underlying49 hi0 hz0 hz1 hz2 rfl (by omega) (.slice A0 P0.length q0) _ (bytesV (P0)) (by rfl) hrowe1.1 we1.heap.size Ae1 (encI (n2:Int)).length qe1 (bytesV (encI (n2:Int))) (by rfl) (Reads.of_own howne1) (bytesV_one _) ze1a ze1b hrowe1.2.size ?_;intro ve1' we1' howne1' hge1' hate1';have hre1:=hrowe1.push (Below.refl _ _) howne1' hge1';obtain⟨Pe1,HPe1,LPe1⟩:=named (P0) (encI (n2:Int));rw[←HPe1.out]at hre1;obtain⟨Ae1',qe1',rfl,hqe1',hme1'⟩:=own_form hre1.1;have ce1_10:=up C10 hre1.2 HB;have ce1_11:=up C11 hre1.2 HB)
    clear ze1a ze1b howne1' hge1' hate1' hrowe1 howne1 hbe1
    have HE:RowKit.Hid (Pe1=P0++encI (n2:Int)):=Lib.hid HPe1.out
    have LE:RowKit.Hid (Pe1.length+(s.p.flatMap encPn).length≤1000000000000):=Lib.hid (by have:=LL.out;have:=LPe1.out;omega)
    clear HPe1 LPe1 LL hrow
    generalize Pe1=PE at*
    obtain⟨wo,rfl⟩:∃wo:World,wo=wr:=⟨_,rfl⟩
    go_wp2_with fail
    go_loopw [3,7] (fun out i wr=>∃k3:Nat,k3≤n2∧i=.int .i64 (k3:Int)∧RowRel (w.alloc (.cells #[.int .i64 s.r.id,.int .i64 s.r.ep,.float .f64 s.r.lo,.float .f64 s.r.hi,.int .i64 s.f.w,.int .i64 s.f.l,.int .i64 s.f.n,.int .i64 s.c.w,.int .i64 s.c.l,.int .i64 s.c.n,.slice A1 n1 c1,.slice A2 n2 c2] 39)) (PE++(s.p.take k3).flatMap encPn) out wr) (fun _ i _=>n2-(intOf i).toNat)
    case atStart=>exact⟨0,by omega,rfl,by simpa using hre1⟩
    case round=>
        obtain⟨k3,hk3,rfl,hrow⟩:=hrel
        obtain⟨P3,HP3,LP3⟩:=named PE ((s.p.take k3).flatMap encPn)
        rw[←HP3.out]at hrow
        obtain⟨B0,b0,rfl,hB0,hb0'⟩:=own_form hrow.1
        clear hre1
        have hwr:Below w.heap.size w wr:=HX.trans (hrow.2.mono HX.size)
        have y_11:=up C11 hrow.2 HB
        by_cases hlt3:k3<n2
        · obtain⟨ad,a,A3,n3,c3,A4,n4,c4,rfl,hl,hbk,hta,hsa,D0,D1,D2,D3,D4,D5,D6,D7,hq1,hq2,hS3,hq3,hq4,hS4⟩:=h2.pn hlt3
          replace D0:=(hwr.cell hbk).trans D0
          replace D1:=(hwr.cell (p:=⟨_,_,none⟩) hbk).trans D1
          replace D2:=(hwr.cell (p:=⟨_,_,none⟩) hbk).trans D2
          replace D3:=(hwr.cell (p:=⟨_,_,none⟩) hbk).trans D3
          replace D4:=(hwr.cell (p:=⟨_,_,none⟩) hbk).trans D4
          replace D5:=(hwr.cell (p:=⟨_,_,none⟩) hbk).trans D5
          replace D6:=(hwr.cell (p:=⟨_,_,none⟩) hbk).trans D6
          replace D7:=(hwr.cell (p:=⟨_,_,none⟩) hbk).trans D7
          have hd1:decide ((k3:Int)<(n2:Int))=true:=by simp;omega
          have hk0:(0:Int)≤(k3:Int):=by omega
          have hk1:(k3:Int)<(n2:Int):=by omega
          have HT:=Lib.hid (flat_snoc encPn hl)
          have hfl:((s.p.take k3).flatMap encPn).length+(encPn a).length≤(s.p.flatMap encPn).length:=by
           have h1:=flat_take_le encPn s.p (k3+1)
           rw[HT.out,List.length_append]at h1;exact h1
          have hle':(encPn a).length=(encTx a.t).length+((encSp a.s).length+((encLs encKy a.r).length+(encLs encWt a.w).length)):=by unfold encPn;simp only[List.length_append]
          have LF:RowKit.Hid (P3.length+((encTx a.t).length+((encSp a.s).length+((encLs encKy a.r).length+(encLs encWt a.w).length)))≤1000000000000):=Lib.hid (by have h1:=LP3.out;have h2:=LE.out;omega)
          clear hl hfl hle'
          have kP:Blk (wr.alloc (.cells #[.int .i64 a.t.c,.int .i64 a.t.l,.int .i64 a.t.s,.int .i64 a.s.w,.int .i64 a.s.l,.int .i64 a.s.n,.slice A3 n3 c3,.slice A4 n4 c4] 162)) wr.heap.size 162 #[.int .i64 a.t.c,.int .i64 a.t.l,.int .i64 a.t.s,.int .i64 a.s.w,.int .i64 a.s.l,.int .i64 a.s.n,.slice A3 n3 c3,.slice A4 n4 c4]:=Blk.new _ _ _
          have hrowX:RowRel (w.alloc (.cells #[.int .i64 s.r.id,.int .i64 s.r.ep,.float .f64 s.r.lo,.float .f64 s.r.hi,.int .i64 s.f.w,.int .i64 s.f.l,.int .i64 s.f.n,.int .i64 s.c.w,.int .i64 s.c.l,.int .i64 s.c.n,.slice A1 n1 c1,.slice (some ad) n2 c2] 39)) P3 (.slice B0 P3.length b0) (wr.alloc (.cells #[.int .i64 a.t.c,.int .i64 a.t.l,.int .i64 a.t.s,.int .i64 a.s.w,.int .i64 a.s.l,.int .i64 a.s.n,.slice A3 n3 c3,.slice A4 n4 c4] 162)):=hrow.below ((Below.refl _ _).alloc (Nat.le_refl _) _)
          have hl0:wr.heap.size<wr.heap.size+1:=by omega
          have hSL:=fun w' (hb:Below ((w.alloc (.cells #[.int .i64 s.r.id,.int .i64 s.r.ep,.float .f64 s.r.lo,.float .f64 s.r.hi,.int .i64 s.f.w,.int .i64 s.f.l,.int .i64 s.f.n,.int .i64 s.c.w,.int .i64 s.c.l,.int .i64 s.c.n,.slice A1 n1 c1,.slice (some ad) n2 c2] 39))).heap.size ((w.alloc (.cells #[.int .i64 s.r.id,.int .i64 s.r.ep,.float .f64 s.r.lo,.float .f64 s.r.hi,.int .i64 s.f.w,.int .i64 s.f.l,.int .i64 s.f.n,.int .i64 s.c.w,.int .i64 s.c.l,.int .i64 s.c.n,.slice A1 n1 c1,.slice (some ad) n2 c2] 39))) w')=>((hS3.below KyRel.kept (HX.trans (hb.mono HX.size))).more KyRel.kept (HX.trans (hb.mono HX.size)).size)
          have hSM:=fun w' (hb:Below ((w.alloc (.cells #[.int .i64 s.r.id,.int .i64 s.r.ep,.float .f64 s.r.lo,.float .f64 s.r.hi,.int .i64 s.f.w,.int .i64 s.f.l,.int .i64 s.f.n,.int .i64 s.c.w,.int .i64 s.c.l,.int .i64 s.c.n,.slice A1 n1 c1,.slice (some ad) n2 c2] 39))).heap.size ((w.alloc (.cells #[.int .i64 s.r.id,.int .i64 s.r.ep,.float .f64 s.r.lo,.float .f64 s.r.hi,.int .i64 s.f.w,.int .i64 s.f.l,.int .i64 s.f.n,.int .i64 s.c.w,.int .i64 s.c.l,.int .i64 s.c.n,.slice A1 n1 c1,.slice (some ad) n2 c2] 39))) w')=>((hS4.below WtRel.kept (HX.trans (hb.mono HX.size))).more WtRel.kept (HX.trans (hb.mono HX.size)).size)
          go_wp2_with fail
          refine(xTxn a.t _ hta).mono ?_
          rintro e wf1 ⟨Af1,qf1,rfl,hqf1,hmf1,hownf1,hbf1⟩
          have hrowf1:=hrowX.below hbf1
          replace kP:=kP.below hbf1 kP.lt
          have kPf1_0:=cl (kP.cell 0)
          have kPf1_1:=cl (kP.cell 1)
          have kPf1_2:=cl (kP.cell 2)
          have kPf1_3:=cl (kP.cell 3)
          have kPf1_4:=cl (kP.cell 4)
          have kPf1_5:=cl (kP.cell 5)
          have kPf1_6:=cl (kP.cell 6)
          have kPf1_7:=cl (kP.cell 7)
          have zf1a:(P3).length+(encTx a.t).length≤maxLen:=by unfold maxLen;have:=LF.out;omega
          have zf1b:((P3).length+(encTx a.t).length)*1≤140737488355328:=by have:=LF.out;omega
          go_wp2_with (at_builtin;refine wpList_append_any _ rfl _ _ _ rfl ((w.alloc (.cells #[.int .i64 s.r.id,.int .i64 s.r.ep,.float .f64 s.r.lo,.float .f64 s.r.hi,.int .i64 s.f.w,.int .i64 s.f.l,.int .i64 s.f.n,.int .i64 s.c.w,.int .i64 s.c.l,.int .i64 s.c.n,.slice A1 n1 c1,.slice (some ad) n2 c2] 39))).heap.size 5 i0 _ 1 1 Tryz.underlying49 hi0 hz0 hz1 hz2 rfl (by omega) (.slice B0 P3.length b0) _ (bytesV (P3)) (by rfl) hrowf1.1 wf1.heap.size Af1 (encTx a.t).length qf1 (bytesV (encTx a.t)) (by rfl) (Reads.of_own hownf1) (bytesV_one _) zf1a zf1b hrowf1.2.size ?_;intro vf1' wf1' hownf1' hgf1' hatf1';have hrf1:=hrowf1.push (Below.refl _ _) hownf1' hgf1';obtain⟨Pf1,HPf1,LPf1⟩:=named (P3) (encTx a.t);rw[←HPf1.out]at hrf1;obtain⟨Af1',qf1',rfl,hqf1',hmf1'⟩:=own_form hrf1.1;have cf1_11:=up C11 hrf1.2 HB;replace kP:=kP.push (by decide) hrowf1.1 hgf1';have kPf1'_0:=cl (kP.cell 0);have kPf1'_1:=cl (kP.cell 1);have kPf1'_2:=cl (kP.cell 2);have kPf1'_3:=cl (kP.cell 3);have kPf1'_4:=cl (kP.cell 4);have kPf1'_5:=cl (kP.cell 5);have kPf1'_6:=cl (kP.cell 6);have kPf1'_7:=cl (kP.cell 7))
          clear zf1a zf1b hownf1' hgf1' hatf1' hrowf1 hownf1 hbf1
          go_wp2_with fail
          refine(xStamp a.s _ hsa).mono ?_
          rintro e wf2 ⟨Af2,qf2,rfl,hqf2,hmf2,hownf2,hbf2⟩
          have hrowf2:=hrf1.below hbf2
          replace kP:=kP.below hbf2 kP.lt
          have kPf2_0:=cl (kP.cell 0)
          have kPf2_1:=cl (kP.cell 1)
          have kPf2_2:=cl (kP.cell 2)
          have kPf2_3:=cl (kP.cell 3)
          have kPf2_4:=cl (kP.cell 4)
          have kPf2_5:=cl (kP.cell 5)
          have kPf2_6:=cl (kP.cell 6)
          have kPf2_7:=cl (kP.cell 7)
          have zf2a:(Pf1).length+(encSp a.s).length≤maxLen:=by unfold maxLen;have:=LF.out;have:=LPf1.out;omega
          have zf2b:((Pf1).length+(encSp a.s).length)*1≤140737488355328:=by have:=LF.out;have:=LPf1.out;omega
          go_wp2_with (at_builtin;refine wpList_append_any _ rfl _ _ _ rfl ((w.alloc (.cells #[.int .i64 s.r.id,.int .i64 s.r.ep,.float .f64 s.r.lo,.float .f64 s.r.hi,.int .i64 s.f.w,.int .i64 s.f.l,.int .i64 s.f.n,.int .i64 s.c.w,.int .i64 s.c.l,.int .i64 s.c.n,.slice A1 n1 c1,.slice (some ad) n2 c2] 39))).heap.size 5 i0 _ 1 1 Tryz.underlying49 hi0 hz0 hz1 hz2 rfl (by omega) (.slice Af1' Pf1.length qf1') _ (bytesV (Pf1)) (by rfl) hrowf2.1 wf2.heap.size Af2 (encSp a.s).length qf2 (bytesV (encSp a.s)) (by rfl) (Reads.of_own hownf2) (bytesV_one _) zf2a zf2b hrowf2.2.size ?_;intro vf2' wf2' hownf2' hgf2' hatf2';have hrf2:=hrowf2.push (Below.refl _ _) hownf2' hgf2';obtain⟨Pf2,HPf2,LPf2⟩:=named (Pf1) (encSp a.s);rw[←HPf2.out]at hrf2;obtain⟨Af2',qf2',rfl,hqf2',hmf2'⟩:=own_form hrf2.1;have cf2_11:=up C11 hrf2.2 HB;replace kP:=kP.push (by decide) hrowf2.1 hgf2';have kPf2'_0:=cl (kP.cell 0);have kPf2'_1:=cl (kP.cell 1);have kPf2'_2:=cl (kP.cell 2);have kPf2'_3:=cl (kP.cell 3);have kPf2'_4:=cl (kP.cell 4);have kPf2'_5:=cl (kP.cell 5);have kPf2'_6:=cl (kP.cell 6);have kPf2'_7:=cl (kP.cell 7))
          clear zf2a zf2b hownf2' hgf2' hatf2' hrowf2 hownf2 hbf2
          go_wp2_with fail
          refine(xTexts A3 n3 c3 a.r _ (hSL _ hrf2.2) (Nat.le_trans hq1 hq2) (by have:=LF.out;omega)).mono ?_
          rintro e wf3 ⟨Af3,qf3,rfl,hqf3,hmf3,hownf3,hbf3⟩
          have hrowf3:=hrf2.below hbf3
          replace kP:=kP.below hbf3 kP.lt
          have kPf3_0:=cl (kP.cell 0)
          have kPf3_1:=cl (kP.cell 1)
          have kPf3_2:=cl (kP.cell 2)
          have kPf3_3:=cl (kP.cell 3)
          have kPf3_4:=cl (kP.cell 4)
          have kPf3_5:=cl (kP.cell 5)
          have kPf3_6:=cl (kP.cell 6)
          have kPf3_7:=cl (kP.cell 7)
          have zf3a:(Pf2).length+(encLs encKy a.r).length≤maxLen:=by unfold maxLen;have:=LF.out;have:=LPf1.out;have:=LPf2.out;omega
          have zf3b:((Pf2).length+(encLs encKy a.r).length)*1≤140737488355328:=by have:=LF.out;have:=LPf1.out;have:=LPf2.out;omega
          go_wp2_with (at_builtin;refine wpList_append_any _ rfl _ _ _ rfl ((w.alloc (.cells #[.int .i64 s.r.id,.int .i64 s.r.ep,.float .f64 s.r.lo,.float .f64 s.r.hi,.int .i64 s.f.w,.int .i64 s.f.l,.int .i64 s.f.n,.int .i64 s.c.w,.int .i64 s.c.l,.int .i64 s.c.n,.slice A1 n1 c1,.slice (some ad) n2 c2] 39))).heap.size 5 i0 _ 1 1 Tryz.underlying49 hi0 hz0 hz1 hz2 rfl (by omega) (.slice Af2' Pf2.length qf2') _ (bytesV (Pf2)) (by rfl) hrowf3.1 wf3.heap.size Af3 (encLs encKy a.r).length qf3 (bytesV (encLs encKy a.r)) (by rfl) (Reads.of_own hownf3) (bytesV_one _) zf3a zf3b hrowf3.2.size ?_;intro vf3' wf3' hownf3' hgf3' hatf3';have hrf3:=hrowf3.push (Below.refl _ _) hownf3' hgf3';obtain⟨Pf3,HPf3,LPf3⟩:=named (Pf2) (encLs encKy a.r);rw[←HPf3.out]at hrf3;obtain⟨Af3',qf3',rfl,hqf3',hmf3'⟩:=own_form hrf3.1;have cf3_11:=up C11 hrf3.2 HB;replace kP:=kP.push (by decide) hrowf3.1 hgf3';have kPf3'_0:=cl (kP.cell 0);have kPf3'_1:=cl (kP.cell 1);have kPf3'_2:=cl (kP.cell 2);have kPf3'_3:=cl (kP.cell 3);have kPf3'_4:=cl (kP.cell 4);have kPf3'_5:=cl (kP.cell 5);have kPf3'_6:=cl (kP.cell 6);have kPf3'_7:=cl (kP.cell 7))
          clear zf3a zf3b hownf3' hgf3' hatf3' hrowf3 hownf3 hbf3
          go_wp2_with fail
          refine(xWrites A4 n4 c4 a.w _ (hSM _ hrf3.2) (Nat.le_trans hq3 hq4) (by have:=LF.out;omega)).mono ?_
          rintro e wf4 ⟨Af4,qf4,rfl,hqf4,hmf4,hownf4,hbf4⟩
          have hrowf4:=hrf3.below hbf4
          replace kP:=kP.below hbf4 kP.lt
          have kPf4_0:=cl (kP.cell 0)
          have kPf4_1:=cl (kP.cell 1)
          have kPf4_2:=cl (kP.cell 2)
          have kPf4_3:=cl (kP.cell 3)
          have kPf4_4:=cl (kP.cell 4)
          have kPf4_5:=cl (kP.cell 5)
          have kPf4_6:=cl (kP.cell 6)
          have kPf4_7:=cl (kP.cell 7)
          have zf4a:(Pf3).length+(encLs encWt a.w).length≤maxLen:=by unfold maxLen;have:=LF.out;have:=LPf1.out;have:=LPf2.out;have:=LPf3.out;omega
          have zf4b:((Pf3).length+(encLs encWt a.w).length)*1≤140737488355328:=by have:=LF.out;have:=LPf1.out;have:=LPf2.out;have:=LPf3.out;omega
          go_wp2_with (at_builtin;refine wpList_append_any _ rfl _ _ _ rfl ((w.alloc (.cells #[.int .i64 s.r.id,.int .i64 s.r.ep,.float .f64 s.r.lo,.float .f64 s.r.hi,.int .i64 s.f.w,.int .i64 s.f.l,.int .i64 s.f.n,.int .i64 s.c.w,.int .i64 s.c.l,.int .i64 s.c.n,.slice A1 n1 c1,.slice (some ad) n2 c2] 39))).heap.size 5 i0 _ 1 1 Tryz.underlying49 hi0 hz0 hz1 hz2 rfl (by omega) (.slice Af3' Pf3.length qf3') _ (bytesV (Pf3)) (by rfl) hrowf4.1 wf4.heap.size Af4 (encLs encWt a.w).length qf4 (bytesV (encLs encWt a.w)) (by rfl) (Reads.of_own hownf4) (bytesV_one _) zf4a zf4b hrowf4.2.size ?_;intro vf4' wf4' hownf4' hgf4' hatf4';have hrf4:=hrowf4.push (Below.refl _ _) hownf4' hgf4';obtain⟨Pf4,HPf4,LPf4⟩:=named (Pf3) (encLs encWt a.w);rw[←HPf4.out]at hrf4;obtain⟨Af4',qf4',rfl,hqf4',hmf4'⟩:=own_form hrf4.1;have cf4_11:=up C11 hrf4.2 HB;replace kP:=kP.push (by decide) hrowf4.1 hgf4';have kPf4'_0:=cl (kP.cell 0);have kPf4'_1:=cl (kP.cell 1);have kPf4'_2:=cl (kP.cell 2);have kPf4'_3:=cl (kP.cell 3);have kPf4'_4:=cl (kP.cell 4);have kPf4'_5:=cl (kP.cell 5);have kPf4'_6:=cl (kP.cell 6);have kPf4'_7:=cl (kP.cell 7))
          clear zf4a zf4b hownf4' hgf4' hatf4' hrowf4 hownf4 hbf4
          go_roundw
          case rel=>
           refine⟨k3+1,by omega,by go_num,?_⟩
           have HQ:PE++(s.p.take (k3+1)).flatMap encPn=Pf4:=by rw[HT.out,HPf4.out,HPf3.out,HPf2.out,HPf1.out,HP3.out];simp only[encPn,List.append_assoc]
           rw[HQ]
           exact hrf4
          case measure=>simp[intOf];omega
        · have hd1:decide ((k3:Int)<(n2:Int))=false:=by simp;omega
          have HQ:encSt s=P3:=by rw[HP3.out,flat_all encPn (by omega),HE.out,HD.out,HA.out];unfold encSt encLs;rw[HL1.out,HL2.out];simp only[List.append_assoc]
          have HP:=RowPost.down HX hrow.post
          go_wp2_with fail
          go_ret
          rw[HQ]
          exact HP
end Go.Proofs.YtcalkfgibflbnaaGreat
