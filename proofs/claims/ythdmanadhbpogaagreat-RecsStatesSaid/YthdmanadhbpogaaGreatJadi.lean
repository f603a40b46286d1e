/- The walk of RecsStates. -/
import Derived.Test.YthdmanadhbpogaaGreatJaab
import Derived.Test.YthdmanadhbpogaaGreatJaai
import Derived.Test.YthdmanadhbpogaaGreatJaca
import Derived.Test.YthdmanadhbpogaaGreatJach
import Derived.Test.YthdmanadhbpogaaGreatJadf
import Derived.Test.YthdmanadhbpogaaGreatJadg
import Derived.Test.YthdmanadhbpogaaGreatJadh
namespace Go.Proofs.YthdmanadhbpogaaGreat
set_option linter.unusedVariables false
open Go.RowKit Fl
attribute [local go_sem] run_store_float
set_option maxRecDepth 100000 in
set_option maxHeartbeats 4000000 in
theorem states_any (s:Stt) (A1 A2:Option Addr) (n1 n2 c1 c2:Nat) (A:Option Addr) (n c:Nat) (l:List UInt8) (w:World) (o1:s.r.ok) (o2:s.f.ok) (o3:s.c.ok) (h1:Sl HsRel 2 w w.heap.size A1 n1 s.h) (h2:Sl PnRel 8 w w.heap.size A2 n2 s.p)
 (q1:n1≤c1) (q2:c1≤maxLen) (q3:n2≤c2) (q4:c2≤maxLen) (h:Reads w w.heap.size 1 A n (bytesV l)) (hnc:n≤c) (hcm:c≤maxLen):
 Calls Tryz.prog 8 #[.agg (s.arr (.slice A1 n1 c1) (.slice A2 n2 c2)),.slice A n c] w fun e w'=>e=.returned (.bool true)∧Below w.heap.size w w':=by
 have hll:l.length=n:=by have:=h.1;simpa using this
 have m1:n1≤maxLen:=Nat.le_trans q1 q2
 have m2:n2≤maxLen:=Nat.le_trans q3 q4
 have hrel:SttRel w w.heap.size (s.arr (.slice A1 n1 c1) (.slice A2 n2 c2)).toList s:=⟨_,_,rfl,o1,o2,o3,⟨A1,n1,c1,rfl,q1,q2,h1⟩,⟨A2,n2,c2,rfl,q3,q4,h2⟩⟩
 have hX:Below w.heap.size w (w.alloc (.cells (s.arr (.slice A1 n1 c1) (.slice A2 n2 c2)) 36)):=by go_grown
 have B0:Blk (w.alloc (.cells (s.arr (.slice A1 n1 c1) (.slice A2 n2 c2)) 36)) w.heap.size 36 (s.arr (.slice A1 n1 c1) (.slice A2 n2 c2)):=Blk.new _ _ _
 have hH:=fun W (hb:Below w.heap.size w W)=>(h1.below HsRel.kept hb).more HsRel.kept hb.size
 have hP:=fun W (hb:Below w.heap.size w W)=>(h2.below PnRel.kept hb).more PnRel.kept hb.size
 have hR:=fun W (hb:Below w.heap.size w W)=>(h.below hb).more hb.size
 go_enter Tryz.func8,Tryz.ntmps8
 go_wp2_with fail
 refine(first2_any _).mono ?_
 rintro e w1 ⟨rfl,hb1⟩
 have B1:=B0.below hb1 B0.lt
 have hX1:=hX.trans (hb1.mono hX.size)
 clear B0 hb1 hX
 have hsmall:=fun (hq:weighS 20000 s≤20000)=>lenSt o1 o2 o3 h1 h2 hq
 have hgain:=fun (hq:weighS 20000 s≤20000)=>weighS_gain (by omega) s hq
 have hW:=weighS_any s A1 A2 n1 n2 c1 c2 20000 w1 (hH _ hX1) (hP _ hX1) m1 m2 (by omega) (by omega)
 generalize weighS 20000 s=z at*
 go_wp2_with (guard_target=~ wpList _ _ _ _ _ _;refine wpList_load_row rfl 36 _ rfl w.heap.size (by kernel_rfl) _ _ (0,0) _ B1 rfl rfl (by kernel_rfl) ?_)
 refine hW.mono ?_
 rintro e w2 ⟨rfl,hb2⟩
 have B2:=B1.below hb2 B1.lt
 have hX2:=hX1.trans (hb2.mono hX1.size)
 clear B1 hb2 hX1 hW
 by_cases hw:20000<z
 · have hd:decide (20000<z)=true:=decide_eq_true hw
   go_wp2_with fail
   refine(first2_any _).mono ?_
   rintro e w3 ⟨rfl,hb3⟩
   go_wp2
   go_ret
   exact⟨rfl,hX2.trans (hb3.mono hX2.size)⟩
 have hd:decide (20000<z)=false:=decide_eq_false hw
 by_cases hn:20000<n
 · have hd1:decide (20000<(n:Int))=true:=by simp;omega
   go_wp2_with fail
   refine(first2_any _).mono ?_
   rintro e w3 ⟨rfl,hb3⟩
   go_wp2
   go_ret
   exact⟨rfl,hX2.trans (hb3.mono hX2.size)⟩
 have hd1:decide (20000<(n:Int))=false:=by simp;omega
 obtain⟨k1,kH,kP⟩:=hsmall (by omega)
 have k2:=hgain (by omega)
 have hlen:(encSt s).length≤1700000:=by omega
 have hsok:=sttOk_of o1 o2 o3 kH kP h1 h2
 clear k1 k2 hsmall hgain hw
 go_wp2_with fail
 refine(wnew _).mono ?_
 rintro e w3 ⟨rfl,rfl⟩
 have B3:=B2.alloc (.cells #[.slice none 0 0] 123)
 have hX3:Below w.heap.size w (w2.alloc (.cells #[.slice none 0 0] 123)):=hX2.alloc hX2.size _
 have hPut:=putState_any s (.slice A1 n1 c1) (.slice A2 n2 c2) _ w2.heap.size w2.heap.size (.slice none 0 0) (Wr.new w2) (by simp) ((hrel.below hX3).more hX2.size) (by omega)
 have hl2:=B2.lt
 clear B2
 go_wp2_with (guard_target=~ wpList _ _ _ _ _ _;refine wpList_load_row rfl 36 _ rfl w.heap.size (by kernel_rfl) _ _ (0,0) _ B3 rfl rfl (by kernel_rfl) ?_)
 refine hPut.mono ?_
 rintro e w4 ⟨rfl,v4,hw4,hb4⟩
 have B4:=B3.below hb4 hl2
 have hX4:=hX2.trans ((((Below.refl w2.heap.size w2).alloc (Nat.le_refl _) _).trans hb4).mono hX2.size)
 clear B3 hX3 hb4 hPut
 have hM:=rstateMay_any s A1 A2 n1 n2 c1 c2 w4 o1 (hH _ hX4) (hP _ hX4) kH kP
 go_wp2_with (guard_target=~ wpList _ _ _ _ _ _;refine wpList_load_row rfl 36 _ rfl w.heap.size (by kernel_rfl) _ _ (0,0) _ B4 rfl rfl (by kernel_rfl) ?_)
 refine hM.mono ?_
 rintro e w5 ⟨rfl,hb5⟩
 have B5:=B4.below hb5 B4.lt
 have hX5:=hX4.trans (hb5.mono hX4.size)
 have hw5:=hw4.below hb5
 have HM:=Lib.hid (fun hq:mayS s=true=>gSt_back hq hsok)
 clear B4 hX4 hw4 hb5 hM hsok
 generalize mayS s=may at*
 cases may
 case' false=>
  go_wp2_with fail
  refine wp_region_held_drew (S:=fun W'=>Below w5.heap.size w5 W') (by kernel_rfl) (Below.refl _ _).drew (fun hHeld=>?_)
  refine t0 0 35 ?_
  go_frame
  refine t0 1 36 ?_
  go_frame
  refine tn 2 37 ?_
  go_frame
  refine tn 3 38 ?_
  go_frame
  refine tn 4 39 ?_
  go_frame
  refine tn 5 40 ?_
  go_frame
  refine tn 6 41 ?_
  go_frame
  refine tn 7 42 ?_
  go_frame
  refine t0 8 43 ?_
  go_frame
  refine td ?_
  clear hHeld
  go_upto_region 18 with fail
  obtain⟨wt,hwt⟩:∃wt,wt=w5.drew:=⟨_,rfl⟩
  have hXt:Below w.heap.size w wt:=by rw[hwt];exact hX5.drew
  rw[←hwt]
  clear hwt B5 hX5 hw5 HM
 case' true=>
  have hbk:=HM.out rfl
  clear HM
  go_wp2_with fail
  refine wp_region_held_drew (S:=fun W'=>Below w5.heap.size w5 W') (by kernel_rfl) (Below.refl _ _).drew (fun hHeld=>?_)
  refine t0 0 35 ?_
  go_frame
  refine t0 1 36 ?_
  go_frame
  refine t0 2 37 ?_
  go_frame
  refine tl 4 39 rfl (yieldsIf_load_blk (by rfl) _ _ rfl (w.heap.size) rfl _ _ _ (fun _ hw=>B5.below hw B5.lt) rfl rfl (by kernel_rfl)) ?_
  go_frame
  have s0:Below w5.heap.size w5 w5.drew:=(Below.refl _ _).drew
  refine tr (o:=⟨some 38,_,_,_,_,_⟩) 3 rfl fun K hK=>?_
  go_simp
  (with_reducible refine(wbytes w2.heap.size v4 (encSt s) w2.heap.size w5.drew (hw5.below s0) (by omega)).mono ?_)
  rintro e w6 ⟨A6,d6,rfl,q6,m6,o6,hb6⟩
  refine hK.out _ _ (s0.trans (hb6.mono s0.size)) (fun hHeld=>?_)
  clear hK K
  try go_frame
  have s6:=s0.trans (hb6.mono s0.size)
  have hX6:=hX5.trans (s6.mono hX5.size)
  refine tr (o:=⟨some 40,_,_,_,_,_⟩) 5 rfl fun K hK=>?_
  go_simp
  (with_reducible refine(xState s A1 A2 n1 n2 c1 c2 w6 o1 o2 o3 (hH _ hX6) (hP _ hX6) m1 m2 (by omega)).mono ?_)
  rintro e w7 ⟨A7,d7,rfl,q7,m7,o7,hb7⟩
  refine hK.out _ _ (s6.trans (hb7.mono s6.size)) (fun hHeld=>?_)
  clear hK K
  try go_frame
  have s7:=s6.trans (hb7.mono s6.size)
  have hq7:=sbytes w7 (c:=d6) (c':=d7) (((Reads.of_own o6).below hb7).more hb7.size) (Reads.of_own o7)
  rw[show (encSt s==encSt s)=true from beq_self_eq_true _]at hq7
  refine tr (o:=⟨some 41,_,_,_,_,_⟩) 6 rfl fun K hK=>?_
  go_simp
  (with_reducible refine(hq7).mono ?_)
  rintro e w8 ⟨rfl,rfl⟩
  refine hK.out _ _ s7 (fun hHeld=>?_)
  clear hK K
  try go_frame
  refine t0 7 42 ?_
  go_frame
  refine t0 8 43 ?_
  go_frame
  refine td ?_
  have hX7:=hX5.trans (s7.mono hX5.size)
  have B7:=B5.below s7 B5.lt
  have hw7:=hw5.below s7
  clear s0 s6 s7 hq7 o6 o7 hb6 hb7 hX6 hHeld B5 hw5 q6 m6 q7 m7
  have hY:=wbytes w2.heap.size v4 (encSt s) w2.heap.size w7 hw7 (by omega)
  go_wp2_with fail
  refine hY.mono ?_
  rintro e w8 ⟨A8,d8,rfl,q8,m8,o8,hb8⟩
  have B8:=B7.below hb8 B7.lt
  have hX8:=hX7.trans (hb8.mono hX7.size)
  have hN:=wRNew A8 (encSt s).length d8 (encSt s) w8 (Reads.of_own o8) (by omega)
  clear hY B7 hX7 hw7 hb8
  go_wp2_with fail
  refine hN.mono ?_
  rintro e w9 ⟨A9,n9,c9,rfl,hz9,hge9,rd9,had9,hb9⟩
  have B9:=B8.below hb9 B8.lt
  have hX9:=hX8.trans (hb9.mono hX8.size)
  have hle9:w.heap.size≤w9.heap.size-1:=Nat.le_trans hX8.size hge9
  have hne9:w.heap.size≠w9.heap.size-1:=by have:=B8.lt;omega
  clear hN B8 hX8 hb9 o8
  obtain⟨g,hg⟩:∃g,g=w9.heap.size-1:=⟨_,rfl⟩
  rw[←hg]at rd9 hle9 hne9 ⊢
  have HG:=Lib.hid hg
  clear hg hz9 hge9
  have hG:=getState_any w9 g A9 n9 c9 (encSt s) ⟨0,0,0⟩ rd9 rfl
  rw[hbk]at hG
  go_wp2_with fail
  refine hG.mono ?_
  rintro e w10 ⟨B1,b1,d1,B2,b2,d2,rfl,rel10,rd10,gr10⟩
  have hb10:Below w.heap.size w w10:=hX9.grown gr10 hX9.size (by intro k hk;cases hk;exact hle9)
  have B10:=B9.grown gr10 (by intro e;cases e;exact hne9 rfl)
  have hA10:Below w10.heap.size w10 (w10.alloc (.cells (s.arr (.slice B1 b1 d1) (.slice B2 b2 d2)) 36)):=by go_grown
  have C11:Blk (w10.alloc (.cells (s.arr (.slice B1 b1 d1) (.slice B2 b2 d2)) 36)) w10.heap.size 36 (s.arr (.slice B1 b1 d1) (.slice B2 b2 d2)):=Blk.new _ _ _
  have B11:=B10.below hA10 B10.lt
  have rd11:=rd10.below hA10
  have rel11:=rel10.below hA10
  have hX11:=hb10.trans (hA10.mono hb10.size)
  have hE:=wREnd g A9 n9 c9 (encSt s) ⟨(encSt s).length,0,0⟩ _ rd11
  have hE1:(rEnd (encSt s) ⟨(encSt s).length,0,0⟩).1=0:=rEnd_back _
  rw[hE1]at hE
  clear hG rd9 B9 hX9 hb10 gr10 B10 rd10 rel10 hA10 hE1
  go_wp2_with (guard_target=~ wpList _ _ _ _ _ _;refine wpList_store_at rfl 36 _ _ rfl w10.heap.size (s.arr (.slice B1 b1 d1) (.slice B2 b2 d2)) (by kernel_rfl) (by kernel_rfl) rfl _ _ (by kernel_rfl) (by kernel_rfl) (by kernel_rfl) ?_)
  refine hE.mono ?_
  rintro e w12 ⟨rfl,q,rfl⟩
  have hQ:Below (w10.alloc (.cells (s.arr (.slice B1 b1 d1) (.slice B2 b2 d2)) 36)).heap.size (w10.alloc (.cells (s.arr (.slice B1 b1 d1) (.slice B2 b2 d2)) 36)) ((w10.alloc (.cells (s.arr (.slice B1 b1 d1) (.slice B2 b2 d2)) 36)).drewN q):=belowN _
  have B12:=B11.below hQ B11.lt
  have C12:=C11.below hQ C11.lt
  have hX12:=hX11.trans (hQ.mono hX11.size)
  have rel12:=rel11.below hQ
  generalize (w10.alloc (.cells (s.arr (.slice B1 b1 d1) (.slice B2 b2 d2)) 36)).drewN q=w12 at*
  obtain⟨-,-,-,e1,e2,e4,e5,e3,e6⟩:=rel12
  have hS:=state_any s s A1 A2 B1 B2 n1 n2 b1 b2 c1 c2 d1 d2 w12 (hH _ hX12) (hP _ hX12) e3 e6 m1 m2 (Nat.le_trans e1 e2) (Nat.le_trans e4 e5)
  rw[Stt.same_self]at hS
  clear hE rd11 B11 C11 hX11 rel11 hQ
  go_wp2_with (first
   |(guard_target=~ wpList _ _ _ _ _ _;refine wpList_load_row_g (by kernel_rfl) 36 (.tmp 2) rfl w.heap.size (by kernel_rfl) _ _ (0,0) _ B12 rfl rfl (by kernel_rfl) ?_)
   |(guard_target=~ wpList _ _ _ _ _ _;refine wpList_load_row_g (by kernel_rfl) 36 (.tmp 8) rfl w10.heap.size (by kernel_rfl) _ _ (0,0) _ C12 rfl rfl (by kernel_rfl) ?_))
  refine hS.mono ?_
  rintro e w13 ⟨rfl,hb13⟩
  have hX13:=hX12.trans (hb13.mono hX12.size)
  go_upto_region 18 with fail
  obtain⟨wt,hwt⟩:∃wt,wt=w13:=⟨_,rfl⟩
  have hXt:Below w.heap.size w wt:=by rw[hwt];exact hX13
  rw[←hwt]
  clear hwt hS e1 e2 e3 e4 e5 e6 B12 C12 hX12 hb13 hX13 hbk HG had9 hle9 hne9 q8 m8
 all_goals
  clear hlen hd hd1 hl2
  have hN:=wRNew A n c l wt (hR _ hXt) (by omega)
  go_wp2_with fail
  refine hN.mono ?_
  rintro e w20 ⟨A20,n20,c20,rfl,hz20,hge20,rd20,had20,hb20⟩
  have hX20:=hXt.trans (hb20.mono hXt.size)
  have hle20:w.heap.size≤w20.heap.size-1:=Nat.le_trans hXt.size hge20
  obtain⟨g20,hg20⟩:∃g,g=w20.heap.size-1:=⟨_,rfl⟩
  rw[←hg20]at rd20 hle20 ⊢
  have HG20:=Lib.hid hg20
  clear hN hg20 hz20 hge20 hb20 had20
  have hG:=getState_any w20 g20 A20 n20 c20 l ⟨0,0,0⟩ rd20 rfl
  have hgood:=gSt_enc (l:=l)
  have hbad:=gSt_bad (l:=l)
  generalize gSt l ⟨0,0,0⟩=x at*
  obtain⟨t,u⟩:=x
  simp only at hgood hbad
  go_wp2_with fail
  refine hG.mono ?_
  rintro e w21 ⟨B1,b1,d1,B2,b2,d2,rfl,rel21,rd21,gr21⟩
  have hX21:Below w.heap.size w w21:=hX20.grown gr21 hX20.size (by intro k hk;cases hk;exact hle20)
  have hA21:Below w21.heap.size w21 (w21.alloc (.cells (t.arr (.slice B1 b1 d1) (.slice B2 b2 d2)) 36)):=by go_grown
  have C22:Blk (w21.alloc (.cells (t.arr (.slice B1 b1 d1) (.slice B2 b2 d2)) 36)) w21.heap.size 36 (t.arr (.slice B1 b1 d1) (.slice B2 b2 d2)):=Blk.new _ _ _
  have rd22:=rd21.below hA21
  have rel22:=rel21.below hA21
  have hX22:=hX21.trans (hA21.mono hX21.size)
  have hF:=wRFault g20 A20 n20 c20 l u _ rd22
  clear hG rd20 hX20 gr21 rd21 rel21 hX21 hA21 hXt HG20
  go_wp2_with (guard_target=~ wpList _ _ _ _ _ _;refine wpList_store_at rfl 36 _ _ rfl w21.heap.size (t.arr (.slice B1 b1 d1) (.slice B2 b2 d2)) (by kernel_rfl) (by kernel_rfl) rfl _ _ (by kernel_rfl) (by kernel_rfl) (by kernel_rfl) ?_)
  refine hF.mono ?_
  rintro e w23 ⟨rfl,q,rfl⟩
  have hQ:Below (w21.alloc (.cells (t.arr (.slice B1 b1 d1) (.slice B2 b2 d2)) 36)).heap.size (w21.alloc (.cells (t.arr (.slice B1 b1 d1) (.slice B2 b2 d2)) 36)) ((w21.alloc (.cells (t.arr (.slice B1 b1 d1) (.slice B2 b2 d2)) 36)).drewN q):=belowN _
  have C23:=C22.below hQ C22.lt
  have rd23:=rd22.below hQ
  have rel23:=rel22.below hQ
  have hX23:=hX22.trans (hQ.mono hX22.size)
  generalize (w21.alloc (.cells (t.arr (.slice B1 b1 d1) (.slice B2 b2 d2)) 36)).drewN q=w23 at*
  obtain⟨y1,y2,y3,e1,e2,e4,e5,e3,e6⟩:=rel23
  have z1:=Nat.le_trans e1 e2
  have z2:=Nat.le_trans e4 e5
  clear hF C22 rd22 rel22 hX22 hQ
  by_cases hu:u.e=0
  case' neg=>
   have hb:(u.e !=0)=true:=by simp[hu]
   have ht:t=zSt:=hbad hu
   subst ht
   clear hgood hbad hu
   go_wp2_with fail
   refine(first2_any _).mono ?_
   rintro e w24 ⟨rfl,hb24⟩
   have C24:=C23.below hb24 C23.lt
   have hX24:=hX23.trans (hb24.mono hX23.size)
   have hS:=state_any zSt zSt B1 B2 none none b1 b2 0 0 d1 d2 0 0 w24 ((e3.below HsRel.kept hb24).more HsRel.kept hb24.size) ((e6.below PnRel.kept hb24).more PnRel.kept hb24.size) Sl.nil Sl.nil z1 z2 (Nat.zero_le _) (Nat.zero_le _)
   rw[Stt.same_self]at hS
   go_wp2_with (guard_target=~ wpList _ _ _ _ _ _;refine wpList_load_row_g (by kernel_rfl) 36 (.tmp 12) rfl w21.heap.size (by kernel_rfl) _ _ (0,0) _ C24 rfl rfl (by kernel_rfl) ?_)
   refine hS.mono ?_
   rintro e w25 ⟨rfl,hb25⟩
   go_wp2
   go_ret
   exact⟨rfl,hX24.trans (hb25.mono hX24.size)⟩
  case' pos=>
   have hb:(u.e !=0)=false:=by simp[hu]
   obtain⟨hat,henc'⟩:=hgood hu
   have HE:=Lib.hid henc'
   have hP':=wRPlace g20 A20 n20 c20 l u w23 rd23
   clear hbad henc' hgood
   go_wp2_with fail
   refine hP'.mono ?_
   rintro e w24 ⟨rfl,rfl⟩
   have hk0:(0:Int)≤(u.at_:Int):=by omega
   have hk1:(u.at_:Int)≤(c:Int):=by omega
   have hk2:(u.at_:Int)≤(n:Int):=by omega
   have hg0:decide ((u.at_:Int)≥0)=true:=by simp
   have hg1:decide ((u.at_:Int)≤(n:Int))=true:=by simp;omega
   have hS:=fun W (hW:Below w.heap.size w W)=>(show Reads W W.heap.size 1 A u.at_ (bytesV (l.take u.at_)) from by
        have hO6:=hR W hW
        refine⟨by simp;omega,fun hk0=>?_⟩
        obtain⟨ad,e,hlt,hx⟩:=hO6.2 (by omega)
        refine⟨ad,e,hlt,fun j u' hj=>hx j u' ?_⟩
        have hj':j<u.at_:=by have:=(List.getElem?_eq_some_iff.1 hj).1;simp at this;omega
        rw[←hj]
        show (l.map _)[j]?=((l.take u.at_).map _)[j]?
        rw[List.map_take,List.getElem?_take_of_lt hj'])
   clear hP'
   go_wp2_with fail
   refine wp_region_held_drew (S:=fun W'=>Below w23.heap.size w23 W') (by kernel_rfl) (Below.refl _ _).drew (fun hHeld=>?_)
   have s0:Below w23.heap.size w23 w23.drew:=(Below.refl _ _).drew
   refine tr (o:=⟨some 82,_,_,_,_,_⟩) 0 rfl fun K hK=>?_
   go_simp
   (with_reducible refine(first2_any w23.drew).mono ?_)
   rintro e w24 ⟨rfl,hb24⟩
   refine hK.out _ _ (s0.trans (hb24.mono s0.size)) (fun hHeld=>?_)
   clear hK K
   try go_frame
   have s1:=s0.trans (hb24.mono s0.size)
   refine t0 1 83 ?_
   go_frame
   refine t0 2 84 ?_
   go_frame
   refine t0 3 85 ?_
   go_frame
   refine t0 4 86 ?_
   go_frame
   refine t0 5 87 ?_
   go_frame
   refine t0 6 88 ?_
   go_frame
   refine t0 7 89 ?_
   go_frame
   refine t0 8 90 ?_
   go_frame
   refine t0 9 91 ?_
   go_frame
   refine t0 10 92 ?_
   go_frame
   refine t0 11 93 ?_
   go_frame
   refine tl 12 94 rfl (yieldsIf_load_blk (by rfl) _ _ rfl (w21.heap.size) rfl _ _ _ (fun _ hw=>C23.below hw C23.lt) rfl rfl (by kernel_rfl)) ?_
   go_frame
   refine t0 14 96 ?_
   go_frame
   refine t0 15 97 ?_
   go_frame
   refine t0 16 98 ?_
   go_frame
   have hX24:=hX23.trans (s1.mono hX23.size)
   refine tr (o:=⟨some 95,_,_,_,_,_⟩) 13 rfl fun K hK=>?_
   go_simp
   (with_reducible refine(xState t B1 B2 b1 b2 d1 d2 w24 y1 y2 y3 ((e3.below HsRel.kept s1).more HsRel.kept s1.size) ((e6.below PnRel.kept s1).more PnRel.kept s1.size) z1 z2 (by rw[HE.out,List.length_take];omega)).mono ?_)
   rintro e w25 ⟨A25,d25,rfl,q25,m25,o25,hb25⟩
   refine hK.out _ _ (s1.trans (hb25.mono s1.size)) (fun hHeld=>?_)
   clear hK K
   try go_frame
   have s2:=s1.trans (hb25.mono s1.size)
   have hX25:=hX24.trans (hb25.mono hX24.size)
   have hq:=sbytes w25 (c:=d25) (c':=c) (Reads.of_own o25) (hS _ hX25)
   rw[show (encSt t==l.take u.at_)=true by rw[HE.out];exact beq_self_eq_true _]at hq
   refine tr (o:=⟨some 99,_,_,_,_,_⟩) 17 rfl fun K hK=>?_
   go_simp
   (with_reducible refine(hq).mono ?_)
   rintro e w26 ⟨rfl,rfl⟩
   refine hK.out _ _ s2 (fun hHeld=>?_)
   clear hK K
   try go_frame
   refine t0 18 100 ?_
   go_frame
   refine t0 19 4 ?_
   go_frame
   refine td ?_
   go_wp2
   go_ret
   exact⟨rfl,hX25⟩
end Go.Proofs.YthdmanadhbpogaaGreat
