/- The document's reading: the walk of state. -/
import Derived.Deep.RegionHeld3
import Derived.Deep.CutRange
import Derived.Test.YthdmanadhbpogaaGreatFaab
import Derived.Test.YthdmanadhbpogaaGreatFaaj
namespace Go.Proofs.YthdmanadhbpogaaGreat
set_option linter.unusedVariables false
open Go.RowKit Fl
attribute [local go_sem] run_store_float
abbrev zState:Array Value:=#[.int .i64 0,.int .i64 0,.float .f64 0,.float .f64 0,.int .i64 0,.int .i64 0,.int .i64 0,.int .i64 0,.int .i64 0,.int .i64 0,.slice none 0 0,.slice none 0 0]
def XSP (w:World) (g:Nat) (A:Option Addr) (n c:Nat) (l:List UInt8) (x:Stt×RS):Ending→World→Prop:=fun e w'=>
 ∃v1 v2,e=.returned (.agg (x.1.arr v1 v2))∧x.1.r.ok∧x.1.f.ok∧x.1.c.ok∧HdRel HsRel 2 (only (rng w.heap.size w'.heap.size) w') w'.heap.size v1 x.1.h∧HdRel PnRel 8 (only (rng w.heap.size w'.heap.size) w') w'.heap.size v2 x.1.p∧Rd 117 w' g A n c l x.2∧w.grownBy w' (some g)
theorem rSt_eq (l:List UInt8) (s:RS):rSt l s=(⟨⟨(rInt l s).1,(rInt l (rInt l s).2).1,(rFloat l (rInt l (rInt l s).2).2).1,(rFloat l (rFloat l (rInt l (rInt l s).2).2).2).1⟩,(rSp l (rFloat l (rFloat l (rInt l (rInt l s).2).2).2).2).1,(rSp l (rSp l (rFloat l (rFloat l (rInt l (rInt l s).2).2).2).2).2).1,(rLs rHs l (rSp l (rSp l (rFloat l (rFloat l (rInt l (rInt l s).2).2).2).2).2).2).1,(rLs rPn l (rLs rHs l (rSp l (rSp l (rFloat l (rFloat l (rInt l (rInt l s).2).2).2).2).2).2).2).1⟩,(rLs rPn l (rLs rHs l (rSp l (rSp l (rFloat l (rFloat l (rInt l (rInt l s).2).2).2).2).2).2).2).2):=by simp only[rSt,rRg,rTwo]
theorem rHs_eq (l:List UInt8) (s:RS):rHs l s=(⟨(rKey l s).1,(rLs rVn l (rKey l s).2).1⟩,(rLs rVn l (rKey l s).2).2):=rfl
theorem rPn_eq (l:List UInt8) (s:RS):rPn l s=(⟨(rTx l s).1,(rSp l (rTx l s).2).1,(rLs rKey l (rSp l (rTx l s).2).2).1,(rLs rWt l (rLs rKey l (rSp l (rTx l s).2).2).2).1⟩,(rLs rWt l (rLs rKey l (rSp l (rTx l s).2).2).2).2):=by simp only[rPn,rTwo]
set_option maxRecDepth 100000 in
set_option maxHeartbeats 16000000 in
theorem xGState (g:Nat) (A:Option Addr) (n c:Nat) (l:List UInt8) (s:RS) (w:World) (h:Rd 117 w g A n c l s):
 Calls Tryz.prog 136 #[.pointer (some ⟨g,0,none⟩)] w (XSP w g A n c l (rSt l s)):=by
 obtain⟨i1,hi1,iz0,iz1,iz2⟩:=info_parts hs_infoC
 obtain⟨i2,hi2,jz0,jz1,jz2⟩:=info_parts pn_infoC
 obtain⟨i3,hi3,kz0,kz1,kz2⟩:=info_parts vn_info
 have gl:=h.blk.lt
 have al:=h.al
 have hsm:=h.small
 have hln:=h.len
 have hb0:Below w.heap.size w ((w.alloc (.cells zState 36)).alloc (.cells zState 36)):=by go_grown
 have S0:XSt w g A n c l 36 zState w.heap.size (w.heap.size+1) zState s ((w.alloc (.cells zState 36)).alloc (.cells zState 36)):=
  ⟨h.below hb0,(Blk.new _ _ _).alloc _,Blk.new' _ _ (by simp),below_grown hb0 _,gl,al,Nat.le_refl _,Nat.lt_succ_self _⟩
 have HR:=Lib.hid (rSt_eq l s)
 generalize rSt l s=res at*
 have ok1:=rInt_ok l s
 clear hb0 h
 go_enter Tryz.func136,Tryz.ntmps136
 go_wp2_with (first
  |(guard_target=~ wpList _ _ _ _ _ _;refine wpList_store_second rfl 36 _ _ rfl zState rfl rfl _ _ _ (by kernel_rfl) (by kernel_rfl) (by kernel_rfl) ?_))
 refine(xRInt g A n c l s _ S0.rd).mono ?_
 rintro e w1 ⟨rfl,h1,hg1⟩
 have S1:=S0.call h1 hg1
 have z1:=cl (S1.blk.cell 0)
 have f1:=S1.blk.frozen 0
 have T1:XSt w g A n c l 36 zState w.heap.size (w.heap.size+1) (stCells (rInt l s).1 0 0 0 ⟨0,0,0⟩ ⟨0,0,0⟩ (.slice none 0 0) (.slice none 0 0)) _ _:=S1.set 0 (.int .i64 (rInt l s).1)
 generalize rInt l s=x1 at*
 clear S0 h1 hg1 S1
 go_wp2_with fail
 refine(xRInt g A n c l x1.2 _ T1.rd).mono ?_
 rintro e w2 ⟨rfl,h2,hg2⟩
 have S2:=T1.call h2 hg2
 have z2:=cl (S2.blk.cell 1)
 have f2:=S2.blk.frozen 1
 have T2:XSt w g A n c l 36 zState w.heap.size (w.heap.size+1) (stCells x1.1 (rInt l x1.2).1 0 0 ⟨0,0,0⟩ ⟨0,0,0⟩ (.slice none 0 0) (.slice none 0 0)) _ _:=S2.set 1 (.int .i64 (rInt l x1.2).1)
 have ok2:=rInt_ok l x1.2
 generalize rInt l x1.2=x2 at*
 clear T1 h2 hg2 S2 z1 f1
 go_wp2_with fail
 refine(xRFloat g A n c l x2.2 _ T2.rd).mono ?_
 rintro e w3 ⟨rfl,h3,hg3⟩
 have S3:=T2.call h3 hg3
 have z3:=cl (S3.blk.cell 2)
 have f3:=S3.blk.frozen 2
 have T3:XSt w g A n c l 36 zState w.heap.size (w.heap.size+1) (stCells x1.1 x2.1 (rFloat l x2.2).1 0 ⟨0,0,0⟩ ⟨0,0,0⟩ (.slice none 0 0) (.slice none 0 0)) _ _:=S3.set 2 (.float .f64 (rFloat l x2.2).1)
 have ok3:=rFloat_ok l x2.2
 generalize rFloat l x2.2=x3 at*
 clear T2 h3 hg3 S3 z2 f2
 go_wp2_with fail
 refine(xRFloat g A n c l x3.2 _ T3.rd).mono ?_
 rintro e w4 ⟨rfl,h4,hg4⟩
 have S4:=T3.call h4 hg4
 have z4:=cl (S4.blk.cell 3)
 have f4:=S4.blk.frozen 3
 have T4:XSt w g A n c l 36 zState w.heap.size (w.heap.size+1) (stCells x1.1 x2.1 x3.1 (rFloat l x3.2).1 ⟨0,0,0⟩ ⟨0,0,0⟩ (.slice none 0 0) (.slice none 0 0)) _ _:=S4.set 3 (.float .f64 (rFloat l x3.2).1)
 have ok4:=rFloat_ok l x3.2
 generalize rFloat l x3.2=x4 at*
 clear T3 h4 hg4 S4 z3 f3
 go_wp2_with fail
 refine(xGStamp g A n c l x4.2 _ T4.rd).mono ?_
 rintro e w5 ⟨rfl,h5,hg5⟩
 have S5:=T4.call h5 hg5
 have a5:=cl (S5.blk.cell 4)
 have b5:=cl (S5.blk.cell 5)
 have c5:=cl (S5.blk.cell 6)
 have d5:=S5.blk.frozen 4
 have e5:=S5.blk.frozen 5
 have f5:=S5.blk.frozen 6
 have T5:XSt w g A n c l 36 zState w.heap.size (w.heap.size+1) (stCells x1.1 x2.1 x3.1 x4.1 (rSp l x4.2).1 ⟨0,0,0⟩ (.slice none 0 0) (.slice none 0 0)) _ _:=((S5.set 4 (.int .i64 (rSp l x4.2).1.w)).set 5 (.int .i64 (rSp l x4.2).1.l)).set 6 (.int .i64 (rSp l x4.2).1.n)
 have ok5:=rSp_ok l x4.2
 generalize rSp l x4.2=x5 at*
 clear T4 h5 hg5 z4 f4 S5
 go_wp2_with fail
 refine(xGStamp g A n c l x5.2 _ T5.rd).mono ?_
 rintro e w6 ⟨rfl,h6,hg6⟩
 have S6:=T5.call h6 hg6
 have a6:=cl (S6.blk.cell 7)
 have b6:=cl (S6.blk.cell 8)
 have c6:=cl (S6.blk.cell 9)
 have d6:=S6.blk.frozen 7
 have e6:=S6.blk.frozen 8
 have f6:=S6.blk.frozen 9
 have T6:XSt w g A n c l 36 zState w.heap.size (w.heap.size+1) (stCells x1.1 x2.1 x3.1 x4.1 x5.1 (rSp l x5.2).1 (.slice none 0 0) (.slice none 0 0)) _ _:=((S6.set 7 (.int .i64 (rSp l x5.2).1.w)).set 8 (.int .i64 (rSp l x5.2).1.l)).set 9 (.int .i64 (rSp l x5.2).1.n)
 have ok6:=rSp_ok l x5.2
 generalize rSp l x5.2=x6 at*
 clear T5 h6 hg6 S6 a5 b5 c5 d5 e5 f5
 go_wp2_with fail
 generalize ((w6.setCell ⟨w.heap.size+1,7,none⟩ (.int .i64 x6.1.w)).setCell ⟨w.heap.size+1,8,none⟩ (.int .i64 x6.1.l)).setCell ⟨w.heap.size+1,9,none⟩ (.int .i64 x6.1.n)=W6 at*
 clear a6 b6 c6 d6 e6 f6
 refine(xRLeft g A n c l x6.2 _ T6.rd).mono ?_
 rintro e w7 ⟨rfl,q7,rfl⟩
 have T7:=T6.below (belowN q7)
 clear T6
 generalize W6.drewN q7=W7 at*
 have hkn:=rCount_ok l x6.2 (rLeft l x6.2:Int) 3
 have hlf:rLeft l x6.2≤n:=by rw[←hln];unfold rLeft;split<;>omega
 have HL:=Lib.hid (show rLs rHs l x6.2=rLoop rHs l (rCount l x6.2 (rLeft l x6.2:Int) 3).1.toNat (rCount l x6.2 (rLeft l x6.2:Int) 3).2 from rfl)
 go_wp2_with fail
 refine(xRCount g A n c l x6.2 (rLeft l x6.2:Int) _ T7.rd).mono ?_
 rintro e w8 ⟨rfl,h8,hg8⟩
 have S8:XSt w g A n c l 36 zState w.heap.size (w.heap.size+1) (stCells x1.1 x2.1 x3.1 x4.1 x5.1 x6.1 (.slice none 0 0) (.slice none 0 0)) _ w8:=T7.call h8 hg8
 generalize rLs rHs l x6.2=r7 at*
 generalize rCount l x6.2 (rLeft l x6.2:Int) 3=y at*
 obtain⟨yn,s8⟩:=y
 obtain⟨N,rfl⟩:∃N:Nat,yn=(N:Int):=⟨yn.toNat,by have:=hkn.2.1;omega⟩
 have hN:N≤n:=by have:=hkn.2.2 (by omega);simp only at this;omega
 clear hkn hlf T7 hg8
 have hst:XInv HsRel 94 2 rHs w8 g A n c l (w.heap.size+1) N s8 0 [] s8 (.slice none 0 0) w8:=XInv.start h8
 have gl8:g<w8.heap.size:=h8.blk.lt
 have al8:=h8.al
 have bl8:w.heap.size+1<w8.heap.size:=S8.blk.lt
 clear h8
 go_wp2_with fail
 go_loopw [5] (fun iv wr=>∃(k:Nat) (L:List Hs) (sk:RS) (v:Value),iv=.int .i64 (k:Int)∧XInv HsRel 94 2 rHs w8 g A n c l (w.heap.size+1) N s8 k L sk v wr∧XSt w g A n c l 36 zState w.heap.size (w.heap.size+1) (stCells x1.1 x2.1 x3.1 x4.1 x5.1 x6.1 v (.slice none 0 0)) sk wr) (fun iv _=>N-(intOf iv).toNat)
 case atStart=>exact⟨0,_,_,_,rfl,hst,S8⟩
 case round=>
  clear hst S8
  obtain⟨k,L,sk,v,rfl,hI,hS⟩:=hrel
  obtain⟨Av,qv,rfl,hqv,hqvm⟩:=hI.form
  have e5:=hI.rd.blk.cell 2
  have e5':_=some (Value.int .i64 sk.e):=e5
  clear e5
  by_cases hcc:k<N∧sk.e=0
  · obtain⟨hlt,he⟩:=hcc
    have hd1:decide ((k:Int)<(N:Int))=true:=by simp;omega
    have hk0:(0:Int)≤(k:Int):=by omega
    have he1:(sk.e==0)=true:=by simp[he]
    go_wp2_with fail
    refine(xRText g A n c l sk 262144 _ hI.rd).mono ?_
    rintro e w9 ⟨rfl,h9,hg9⟩
    have S9:=hS.call h9 hg9
    have HH:=Lib.hid (rHs_eq l sk)
    have okk:(rKey l sk).1.size≤140737488351232:=rKy_ok l sk 262144 (by omega)
    have hz9':=hg9.size
    have hf9:(⟨(rText l sk 262144).1.toArray⟩:ByteArray)=(rKey l sk).1:=rfl
    have hf9':(rText l sk 262144).2=(rKey l sk).2:=rfl
    rw[hf9]
    rw[hf9']at h9 S9
    clear hf9 hf9'
    generalize rKey l sk=x9 at*
    have hz9:w8.heap.size≤w9.heap.size:=Nat.le_trans hI.two.size hg9.size
    have hb10:Below w9.heap.size w9 (w9.alloc (.cells #[.string x9.1,.slice none 0 0] 94)):=by go_grown
    have S10:=S9.below hb10
    have B10:=Blk.new w9 94 #[.string x9.1,.slice none 0 0]
    go_wp2_with (guard_target=~ wpList _ _ _ _ _ _;refine wpList_store_new rfl 94 _ _ rfl _ rfl rfl _ _ (by kernel_rfl) (by kernel_rfl) (by kernel_rfl) ?_)
    refine(xRLeft g A n c l x9.2 _ S10.rd).mono ?_
    rintro e w11 ⟨rfl,q11,rfl⟩
    have hb11:Below (w9.alloc (.cells #[.string x9.1,.slice none 0 0] 94)).heap.size (w9.alloc (.cells #[.string x9.1,.slice none 0 0] 94)) ((w9.alloc (.cells #[.string x9.1,.slice none 0 0] 94)).drewN q11):=belowN _
    have S11:=S10.below hb11
    have B11:=B10.below hb11 B10.lt
    have g11:=(hg9.trans (below_grown hb10 _)).trans (below_grown hb11 _)
    clear S10 B10 hb11 hb10 S9 h9 hg9
    generalize (w9.alloc (.cells #[.string x9.1,.slice none 0 0] 94)).drewN q11=W11 at*
    have hkn:=rCount_ok l x9.2 (rLeft l x9.2:Int) 3
    have hlf:rLeft l x9.2≤n:=by rw[←hln];unfold rLeft;split<;>omega
    have HL2:=Lib.hid (show rLs rVn l x9.2=rLoop rVn l (rCount l x9.2 (rLeft l x9.2:Int) 3).1.toNat (rCount l x9.2 (rLeft l x9.2:Int) 3).2 from rfl)
    go_wp2_with fail
    refine(xRCount g A n c l x9.2 (rLeft l x9.2:Int) _ S11.rd).mono ?_
    rintro e w12 ⟨rfl,h12,hg12⟩
    have S12:=S11.call h12 hg12
    have B12:=B11.grown hg12 (by intro e;injection e with e;omega)
    have g12:=g11.trans hg12
    generalize rLs rVn l x9.2=r12 at*
    generalize rCount l x9.2 (rLeft l x9.2:Int) 3=y at*
    obtain⟨yn,s12⟩:=y
    obtain⟨N2,rfl⟩:∃N:Nat,yn=(N:Int):=⟨yn.toNat,by have:=hkn.2.1;omega⟩
    have hN2:N2≤n:=by have:=hkn.2.2 (by omega);simp only at this;omega
    clear hkn hlf S11 B11 hg12 g11
    have hst2:XInv VnRel 130 6 rVn w12 g A n c l w9.heap.size N2 s12 0 [] s12 (.slice none 0 0) w12:=XInv.start h12
    have gl12:g<w12.heap.size:=h12.blk.lt
    have al12:=h12.al
    have bl12:w9.heap.size<w12.heap.size:=B12.lt
    clear h12
    have HI:=Lib.hid hI
    clear hI hS e5' hd1 he1
    go_wp2_with fail
    go_loopw [8] (fun iv wq=>∃(k2:Nat) (L2:List Vn) (sk2:RS) (v2:Value),iv=.int .i64 (k2:Int)∧XInv VnRel 130 6 rVn w12 g A n c l w9.heap.size N2 s12 k2 L2 sk2 v2 wq∧Blk wq w9.heap.size 94 #[.string x9.1,v2]) (fun iv _=>N2-(intOf iv).toNat)
    case atStart=>exact⟨0,_,_,_,rfl,hst2,B12⟩
    case round=>
        clear hst2 B12
        obtain⟨k2,L2,sk2,v2,rfl,hI2,hB2⟩:=hrel
        obtain⟨Av2,qv2,rfl,hqv2,hqvm2⟩:=hI2.form
        have e5:=hI2.rd.blk.cell 2
        have e5':_=some (Value.int .i64 sk2.e):=e5
        clear e5
        by_cases hcc2:k2<N2∧sk2.e=0
        · obtain⟨hlt2,he2⟩:=hcc2
          have hd1:decide ((k2:Int)<(N2:Int))=true:=by simp;omega
          have hk02:(0:Int)≤(k2:Int):=by omega
          have he1:(sk2.e==0)=true:=by simp[he2]
          go_wp2_with fail
          refine(xGStamp g A n c l sk2 _ hI2.rd).mono ?_
          rintro e w13 ⟨rfl,h13,hg13⟩
          have hzq:=hg13.size
          have B13:=hB2.grown hg13 (by intro e;injection e with e;omega)
          have HV:=Lib.hid (show rVn l sk2=(⟨(rSp l sk2).1,(rVl l (rSp l sk2).2).1⟩,(rVl l (rSp l sk2).2).2) from rfl)
          have ok13:=rSp_ok l sk2
          generalize rSp l sk2=x13 at*
          go_wp2_with (guard_target=~ wpList _ _ _ _ _ _;refine wpList_store_new rfl 25 _ _ rfl _ rfl rfl _ _ (by kernel_rfl) (by kernel_rfl) (by kernel_rfl) ?_)
          have hb14:Below w13.heap.size w13 (w13.alloc (.cells #[.int .i64 x13.1.w,.int .i64 x13.1.l,.int .i64 x13.1.n] 25)):=by go_grown
          have C14:=Blk.new w13 25 #[.int .i64 x13.1.w,.int .i64 x13.1.l,.int .i64 x13.1.n]
          have B14:=B13.below hb14 B13.lt
          have h14:=h13.below hb14
          have g14:=hg13.trans (below_grown hb14 _)
          have hz14:w12.heap.size≤w13.heap.size:=Nat.le_trans hI2.two.size hg13.size
          generalize (w13.alloc (.cells #[.int .i64 x13.1.w,.int .i64 x13.1.l,.int .i64 x13.1.n] 25))=w14 at*
          have hD:Below w14.heap.size w14 w14.drew:=(Below.refl _ _).drew
          replace h14:=h14.below hD
          replace B14:=B14.below hD B14.lt
          replace C14:=C14.below hD C14.lt
          replace g14:=g14.trans (below_grown hD _)
          have y14:=cl (B14.cell 1)
          have lt2:∀q,(Value.slice Av2 k2 qv2).ownBlock=some q→q<w13.heap.size:=fun q hq=>Nat.lt_of_lt_of_le (hI2.row.1.lt q hq).2 hzq
          have HI2:=Lib.hid hI2
          clear hD h13 B13 hb14 hI2 hB2 hg13
          refine wp_region_held_drew (S:=fun w'=>Blk w' w13.heap.size 25 #[.int .i64 x13.1.w,.int .i64 x13.1.l,.int .i64 x13.1.n]) (by kernel_rfl) C14 (fun hHeld=>?_)
          generalize w14.drew=W14 at*
          refine tc 0 72 ?_
          go_frame
          refine tl 2 74 rfl (yieldsIf_load_row (by rfl) _ _ rfl w13.heap.size rfl _ _ _ (fun _ h=>h) rfl rfl (by kernel_rfl)) ?_
          go_frame
          refine tc 3 75 ?_
          go_frame
          have hG:=xGet g A n c l x13.2 _ h14
          have okv:=rVl_ok l x13.2 (by omega)
          generalize rVl l x13.2=x15 at*
          refine wpAnyH_ready (rs:=[1,4]) (by kernel_rfl) (by simp) (AllReadyH.cons (o:=⟨some 73,_,_,_,_,_⟩) rfl (fun K hK=>?_) (AllReadyH.cons (o:=⟨some 76,_,_,_,_,_⟩) rfl (fun K hK=>?_) AllReadyH.nil))
          case' refine_1=>
           go_simp
           refine hK.out _ _ hHeld (fun hHeld=>?_)
           clear hK K
           try go_frame
           refine tr 4 (o:=⟨some 76,_,_,_,_,_⟩) rfl fun K hK=>?_
           go_simp
           refine hG.mono ?_
           rintro e w15 ⟨rfl,h15,hg15⟩
           have C15:=C14.grown hg15 (by intro e;injection e with e;omega)
           refine hK.out _ _ C15 (fun hHeld=>?_)
           clear hK K
           try go_frame
           refine tc 5 77 ?_
           go_frame
           refine tr 6 (o:=⟨some 78,_,_,_,_,_⟩) rfl fun K hK=>?_
           go_simp
           refine hK.out _ _ (C15.alloc _) (fun hHeld=>?_)
           clear hK K
           try go_frame
          case' refine_2=>
           go_simp
           refine hG.mono ?_
           rintro e w15 ⟨rfl,h15,hg15⟩
           have C15:=C14.grown hg15 (by intro e;injection e with e;omega)
           have y15:w15.cell? ⟨w9.heap.size,1,none⟩=some (.slice Av2 k2 qv2):=(B14.grown hg15 (by intro e;injection e with e;omega)).cell 1
           refine hK.out _ _ C15 (fun hHeld=>?_)
           clear hK K
           try go_frame
           refine tc 5 77 ?_
           go_frame
           refine wpAnyH_ready (rs:=[1,6]) (by kernel_rfl) (by simp) (AllReadyH.cons (o:=⟨some 73,_,_,_,_,_⟩) rfl (fun K hK=>?_) (AllReadyH.cons (o:=⟨some 78,_,_,_,_,_⟩) rfl (fun K hK=>?_) AllReadyH.nil))
          case' refine_2.refine_1=>
           go_simp
           refine hK.out _ _ hHeld (fun hHeld=>?_)
           clear hK K y15
           try go_frame
           refine tr 6 (o:=⟨some 78,_,_,_,_,_⟩) rfl fun K hK=>?_
           go_simp
           refine hK.out _ _ (C15.alloc _) (fun hHeld=>?_)
           clear hK K
           try go_frame
          case' refine_2.refine_2=>
           go_simp
           refine hK.out _ _ (C15.alloc _) (fun hHeld=>?_)
           clear hK K
           try go_frame
           have y16:_=some (Value.slice Av2 k2 qv2):=(((B14.grown hg15 (by intro e;injection e with e;omega)).alloc (.cells #[.int .i64 x13.1.w,.int .i64 x13.1.l,.int .i64 x13.1.n,.int .i64 x15.1.k,.float .f64 x15.1.n,.string x15.1.t] 130)).cell 1)
           refine tr 1 (o:=⟨some 73,_,_,_,_,_⟩) rfl fun K hK=>?_
           go_simp
           refine hK.out _ _ hHeld (fun hHeld=>?_)
           clear hK K y15 y16
           try go_frame
          all_goals
           have B15:=B14.grown hg15 (by intro e;injection e with e;omega)
           have g15:=g14.trans hg15
           have hX:Below w15.heap.size w15 (w15.alloc (.cells #[.int .i64 x13.1.w,.int .i64 x13.1.l,.int .i64 x13.1.n,.int .i64 x15.1.k,.float .f64 x15.1.n,.string x15.1.t] 130)):=by go_grown
           have hz15:w13.heap.size<w15.heap.size:=C15.lt
           obtain⟨xs,hown,hzX,hfin⟩:=HI2.out.round VnRel.kept VnRel.mono gl12 bl12 al12 hlt2 he2 (w1:=w15) (by rw[HV.out];exact h15) (Two2.left g15 _) hX (cs:=[.int .i64 x13.1.w,.int .i64 x13.1.l,.int .i64 x13.1.n,.int .i64 x15.1.k,.float .f64 x15.1.n,.string x15.1.t]) rfl (by rw[HV.out];exact⟨rfl,ok13,okv⟩)
           have HF:=Lib.hid hfin
           have hrd0:=reads_new' w15 130 [.int .i64 x13.1.w,.int .i64 x13.1.l,.int .i64 x13.1.n,.int .i64 x15.1.k,.float .f64 x15.1.n,.string x15.1.t] 6 rfl
           clear hfin hX
           refine tr 7 (o:=⟨some 79,_,_,_,_,_⟩) rfl fun K hK=>?_
           refine step_append_any _ rfl _ _ _ rfl w12.heap.size 130 i3 _ 6 56 Tryz.underlying92 hi3 kz0 kz1 kz2 rfl (by omega) (.slice Av2 k2 qv2) _ xs (by rfl) hown _ (some ⟨w15.heap.size,0,none⟩) 1 1 [.int .i64 x13.1.w,.int .i64 x13.1.l,.int .i64 x13.1.n,.int .i64 x15.1.k,.float .f64 x15.1.n,.string x15.1.t] (by rfl) hrd0 (vn_one ⟨x13.1,x15.1⟩) (by unfold maxLen;omega) (by omega) hzX ?_
           intro v5 w5 hown5 hg5 hat5
           have hI5:=HF.out v5 w5 hown5 hg5 hat5
           have hL5:=(Below.refl w12.heap.size _).grown hg5 hzX (fun q hq=>(hown.lt q hq).1)
           have B5:=(B15.alloc (.cells #[.int .i64 x13.1.w,.int .i64 x13.1.l,.int .i64 x13.1.n,.int .i64 x15.1.k,.float .f64 x15.1.n,.string x15.1.t] 130)).below hL5 bl12
           have C5:=(C15.alloc (.cells #[.int .i64 x13.1.w,.int .i64 x13.1.l,.int .i64 x13.1.n,.int .i64 x15.1.k,.float .f64 x15.1.n,.string x15.1.t] 130)).grown hg5 (fun e=>by have:=lt2 _ e.symm;omega)
           obtain⟨A5,q5,rfl,hq5,hm5⟩:=own_form hown5
           refine hK.out _ _ C5 (fun hHeld=>?_)
           clear hK K HF hown5 hg5 hat5 hL5 hown hrd0 B15 C15
           try go_frame
           refine tc 8 80 ?_
           go_frame
           have y5:=cl (B5.cell 1)
           have f5:=B5.frozen 1
           have hgs:=grown_set w5 w9.heap.size 1 (.slice A5 (k2+1) q5)
           have hI6:=XInv.turn VnRel.kept VnRel.mono gl12 bl12 hI5 (hI5.rd.far hgs (by omega) (fun a ha hn=>by have:=al8 a ha hn;omega)) (Two2.right hgs g)
           have B6:Blk (w5.setCell ⟨w9.heap.size,1,none⟩ (.slice A5 (k2+1) q5)) w9.heap.size 94 #[.string x9.1,.slice A5 (k2+1) q5]:=B5.set_ 1 (.slice A5 (k2+1) q5)
           refine tr 9 (o:=⟨none,_,_,_,_,_⟩) rfl fun K hK=>?_
           go_simp
           refine hK.out _ _ (C5.far (p:=⟨w9.heap.size,1,none⟩) (by simp;omega) (.slice A5 (k2+1) q5)) (fun hHeld=>?_)
           clear hK K y5 f5
           try go_frame
           refine td ?_
           clear hHeld B5 C5 hI5 hgs
           go_wp2_with fail
           go_roundw
           case rel=>exact⟨k2+1,_,_,_,by go_num,hI6,B6⟩
           case measure=>simp[intOf];omega
        · have hx2:¬k2<N2∨sk2.e≠0:=by
           by_cases h1:k2<N2
           · exact .inr fun h2=>hcc2 ⟨h1,h2⟩
           · exact .inl h1
          have hD2:=hI2.done hx2
          have HHs:rHs l sk=(⟨x9.1,L2⟩,sk2):=by
           have hr:r12=(L2,sk2):=by rw[HL2.out];exact hD2
           rw[HH.out,hr]
          have S15:=S12.two hI2.rd hI2.two (by omega)
          have y10:=cl (S15.blk.cell 10)
          have y60:=cl (hB2.cell 0)
          have y61:=cl (hB2.cell 1)
          have hX:Below wr.heap.size wr (wr.alloc (.cells #[.string x9.1,.slice Av2 k2 qv2] 94)):=by go_grown
          have hin:Inn HsRel (rng w12.heap.size (wr.alloc (.cells #[.string x9.1,.slice Av2 k2 qv2] 94)).heap.size) (wr.alloc (.cells #[.string x9.1,.slice Av2 k2 qv2] 94)) [.string x9.1,.slice Av2 k2 qv2] ⟨x9.1,L2⟩:=by
           obtain⟨_,e,hq⟩:=Single.inn VnRel.mono (by omega) (Pair.below VnRel.kept VnRel.mono hI2.row hX)
           injection e with e
           subst e
           exact⟨_,rfl,okk,hq⟩
          have z12:=g12.size
          obtain⟨xs,hown,hzX,hfin⟩:=HI.out.round HsRel.kept HsRel.mono gl8 bl8 al8 hlt he (w1:=wr) (by rw[HHs];exact hI2.rd) (Two2.beside (Two2.left g12 _) hI2.two hz9') hX (cs:=[.string x9.1,.slice Av2 k2 qv2]) rfl (by rw[HHs];exact hin.wider HsRel.mono fun q hq=>by rw[rng_iff]at*;omega)
          rw[HHs]at hfin
          have HF:=Lib.hid hfin
          have hrd0:=reads_new' wr 94 [.string x9.1,.slice Av2 k2 qv2] 2 rfl
          have S16:=S15.below hX
          have e2':∀u∈([.string x9.1,.slice Av2 k2 qv2]:List Value),u.oneCell'=true:=by
           intro u hu
           simp only[List.mem_cons,List.not_mem_nil,or_false]at hu
           rcases hu with rfl|rfl<;>rfl
          clear hfin hX hin HHs hD2 hB2 S15 S12 hI2 HH HL2
          by_cases hlt2:k2<N2
          case' pos=>
           have hd1:decide ((k2:Int)<(N2:Int))=true:=by simp;omega
           have he1:(sk2.e==0)=false:=by simp;exact fun h=>hcc2 ⟨hlt2,h⟩
          case' neg=>
           have hd1:decide ((k2:Int)<(N2:Int))=false:=by simp;omega
          all_goals
           go_wp2_with (first
            |(at_builtin
              refine wpList_append_any _ rfl (.tmp 82) (.tmp 84) _ rfl w8.heap.size 94 i1 _ 2 40 Tryz.underlying33 hi1 iz0 iz1 iz2 rfl (by omega) (.slice Av k qv) _ xs (by rfl) hown _ (some ⟨wr.heap.size,0,none⟩) 1 1 [.string x9.1,.slice Av2 k2 qv2] (by rfl) hrd0 e2' (by unfold maxLen;omega) (by omega) hzX ?_
              intro v5 w5 hown5 hg5 hat5
              have hI5:=HF.out v5 w5 hown5 hg5 hat5
              have hL5:=(Below.refl w8.heap.size _).grown hg5 hzX (fun q hq=>(hown.lt q hq).1)
              have S5:=S16.low hL5 bl8
              obtain⟨A5,q5,rfl,hq5,hm5⟩:=own_form hown5
              have y5:=cl (S5.blk.cell 10)
              have f5:=S5.blk.frozen 10
              clear hown5 hg5 hat5 hL5 HF hown hrd0)
            |fail)
           have hgs:=grown_set w5 (w.heap.size+1) 10 (.slice A5 (k+1) q5)
           have S6:=S5.set 10 (.slice A5 (k+1) q5)
           have hI6:=XInv.turn HsRel.kept HsRel.mono gl8 bl8 hI5 S6.rd (Two2.right hgs g)
           go_roundw
           case rel=>exact⟨k+1,_,_,_,by go_num,hI6,S6⟩
           case measure=>simp[intOf];omega
  · have hx:¬k<N∨sk.e≠0:=by
        by_cases h1:k<N
        · exact .inr fun h2=>hcc ⟨h1,h2⟩
        · exact .inl h1
    have hD:=hI.done hx
    have hr7:r7=(L,sk):=by rw[HL.out];exact hD
    subst hr7
    clear HL hD
    have row:=hI.row
    have z8:=hI.two.size
    clear hI
    by_cases hlt:k<N
    case' pos=>
        have hd1:decide ((k:Int)<(N:Int))=true:=by simp;omega
        have he1:(sk.e==0)=false:=by simp;exact fun h=>hcc ⟨hlt,h⟩
    case' neg=>
        have hd1:decide ((k:Int)<(N:Int))=false:=by simp;omega
    all_goals
        go_wp2_with fail
        refine(xRLeft g A n c l sk _ hS.rd).mono ?_
        rintro e w21 ⟨rfl,q21,rfl⟩
        have hb21:Below wr.heap.size wr (wr.drewN q21):=belowN q21
        have S21:=hS.below hb21
        have row21:Single HsRel 94 2 w8.heap.size (wr.drewN q21) (.slice Av k qv) L:=Pair.below HsRel.kept HsRel.mono row hb21
        have z21:=hb21.size
        clear hS row e5' hb21
        generalize wr.drewN q21=W21 at*
        have hkn:=rCount_ok l sk (rLeft l sk:Int) 3
        have hlf:rLeft l sk≤n:=by rw[←hln];unfold rLeft;split<;>omega
        have HL3:=Lib.hid (show rLs rPn l sk=rLoop rPn l (rCount l sk (rLeft l sk:Int) 3).1.toNat (rCount l sk (rLeft l sk:Int) 3).2 from rfl)
        go_wp2_with fail
        refine(xRCount g A n c l sk (rLeft l sk:Int) _ S21.rd).mono ?_
        rintro e w22 ⟨rfl,h22,hg22⟩
        have S22:=S21.call h22 hg22
        have row22:=Single.two HsRel.kept HsRel.mono row21 (Two2.left hg22 (w.heap.size+1)) gl8 bl8
        have z22:=hg22.size
        generalize rLs rPn l sk=r17 at*
        generalize rCount l sk (rLeft l sk:Int) 3=y at*
        obtain⟨yn,s22⟩:=y
        obtain⟨N3,rfl⟩:∃N:Nat,yn=(N:Int):=⟨yn.toNat,by have:=hkn.2.1;omega⟩
        have hN3:N3≤n:=by have:=hkn.2.2 (by omega);simp only at this;omega
        clear hkn hlf S21 hg22 row21
        have hst3:XInv PnRel 96 8 rPn w22 g A n c l (w.heap.size+1) N3 s22 0 [] s22 (.slice none 0 0) w22:=XInv.start h22
        have gl22:g<w22.heap.size:=h22.blk.lt
        have al22:=h22.al
        have bl22:w.heap.size+1<w22.heap.size:=S22.blk.lt
        clear h22
        go_wp2_with fail
        go_loopw [10] (fun iv wr=>∃(k3:Nat) (L3:List Pn) (sk:RS) (v3:Value),iv=.int .i64 (k3:Int)∧XInv PnRel 96 8 rPn w22 g A n c l (w.heap.size+1) N3 s22 k3 L3 sk v3 wr∧XSt w g A n c l 36 zState w.heap.size (w.heap.size+1) (stCells x1.1 x2.1 x3.1 x4.1 x5.1 x6.1 (.slice Av k qv) v3) sk wr) (fun iv _=>N3-(intOf iv).toNat)
        case atStart=>exact⟨0,_,_,_,rfl,hst3,S22⟩
        case round=>
         clear hst3 S22
         obtain⟨k3,L3,sk3,v3,rfl,hI3,hS3⟩:=hrel
         obtain⟨Av3,qv3,rfl,hqv3,hqvm3⟩:=hI3.form
         have e5:=hI3.rd.blk.cell 2
         have e5':_=some (Value.int .i64 sk3.e):=e5
         clear e5
         by_cases hcc3:k3<N3∧sk3.e=0
         · obtain⟨hlt3,he3⟩:=hcc3
           have hd1:decide ((k3:Int)<(N3:Int))=true:=by simp;omega
           have hk03:(0:Int)≤(k3:Int):=by omega
           have he1:(sk3.e==0)=true:=by simp[he3]
           have HP:=Lib.hid (rPn_eq l sk3)
           have HI3:=Lib.hid hI3
           have HS3:=Lib.hid hS3
           have hz3:=hI3.two.size
           have glr:g<wr.heap.size:=by omega
           have alr:∀a,A=some a→0<n→a.block<wr.heap.size:=fun a ha hn=>by have:=al a ha hn;omega
           clear hI3 hS3
           go_wp2_with fail
           refine(xGTxn g A n c l sk3 _ HI3.out.rd).mono ?_
           rintro e w23 ⟨rfl,h23,hg23⟩
           have ok1:=rTx_ok l sk3
           generalize rTx l sk3=y1 at*
           have z23:=hg23.size
           have hb24:Below w23.heap.size w23 (w23.alloc (.cells #[.int .i64 y1.1.c,.int .i64 y1.1.l,.int .i64 y1.1.s,.int .i64 0,.int .i64 0,.int .i64 0,.slice none 0 0,.slice none 0 0] 96)):=by go_grown
           have P24:XPt wr g A n c l 96 w23.heap.size #[.int .i64 y1.1.c,.int .i64 y1.1.l,.int .i64 y1.1.s,.int .i64 0,.int .i64 0,.int .i64 0,.slice none 0 0,.slice none 0 0] y1.2 (w23.alloc (.cells #[.int .i64 y1.1.c,.int .i64 y1.1.l,.int .i64 y1.1.s,.int .i64 0,.int .i64 0,.int .i64 0,.slice none 0 0,.slice none 0 0] 96)):=
            ⟨h23.below hb24,Blk.new _ _ _,hg23.trans (below_grown hb24 _),glr,alr,z23⟩
           clear h23 hg23 hb24
           go_wp2_with (guard_target=~ wpList _ _ _ _ _ _;refine wpList_store_new rfl 96 _ _ rfl _ rfl rfl _ _ (by kernel_rfl) (by kernel_rfl) (by kernel_rfl) ?_)
           refine(xGStamp g A n c l y1.2 _ P24.rd).mono ?_
           rintro e w25 ⟨rfl,h25,hg25⟩
           have P25:=P24.call h25 hg25
           have a25:=cl (P25.blk.cell 3)
           have b25:=cl (P25.blk.cell 4)
           have c25:=cl (P25.blk.cell 5)
           have d25:=P25.blk.frozen 3
           have e25:=P25.blk.frozen 4
           have f25:=P25.blk.frozen 5
           have ok2:=rSp_ok l y1.2
           generalize rSp l y1.2=y2 at*
           have T25:XPt wr g A n c l 96 w23.heap.size (pnCells y1.1 y2.1 (.slice none 0 0) (.slice none 0 0)) _ _:=((P25.set 3 (.int .i64 y2.1.w)).set 4 (.int .i64 y2.1.l)).set 5 (.int .i64 y2.1.n)
           clear P24 P25 h25 hg25
           go_wp2_with fail
           generalize ((w25.setCell ⟨w23.heap.size,3,none⟩ (.int .i64 y2.1.w)).setCell ⟨w23.heap.size,4,none⟩ (.int .i64 y2.1.l)).setCell ⟨w23.heap.size,5,none⟩ (.int .i64 y2.1.n)=W25 at*
           clear a25 b25 c25 d25 e25 f25
           refine(xGTexts g A n c l y2.2 _ T25.rd).mono ?_
           rintro e w26 ⟨vr,rfl,rowR,h26,hg26⟩
           have P26:=T25.call h26 hg26
           have bP:=T25.blk.lt
           have gP:g<W25.heap.size:=T25.rd.blk.lt
           generalize rLs rKey l y2.2=y3 at*
           obtain⟨Ar,qr,rfl,hqr,hqrm⟩:=Single.form rowR
           have a26:=cl (P26.blk.cell 6)
           have f26:=P26.blk.frozen 6
           obtain⟨n1,hn1⟩:∃n1,n1=y3.1.length:=⟨_,rfl⟩
           rw[←hn1]at rowR hqr ⊢
           replace hn1:=Lib.hid hn1
           have T26:XPt wr g A n c l 96 w23.heap.size (pnCells y1.1 y2.1 (.slice Ar n1 qr) (.slice none 0 0)) _ _:=P26.set 6 (.slice Ar n1 qr)
           have hgs26:=grown_set w26 w23.heap.size 6 (.slice Ar n1 qr)
           have rowR2:=Single.two KyRel.kept KyRel.mono rowR (Two2.right hgs26 g) gP bP
           have z26:=hg26.size
           clear T25 h26 hg26 rowR P26
           go_wp2_with fail
           have z26':=hgs26.size
           generalize w26.setCell ⟨w23.heap.size,6,none⟩ (.slice Ar n1 qr)=W26 at*
           clear a26 f26 hgs26
           refine(xGWrites g A n c l y3.2 _ T26.rd).mono ?_
           rintro e w27 ⟨vw,rfl,rowW,h27,hg27⟩
           have P27:=T26.call h27 hg27
           have bP2:=T26.blk.lt
           have gP2:g<W26.heap.size:=T26.rd.blk.lt
           generalize rLs rWt l y3.2=y4 at*
           obtain⟨Aw,qw,rfl,hqw,hqwm⟩:=Single.form rowW
           have a27:=cl (P27.blk.cell 7)
           have f27:=P27.blk.frozen 7
           obtain⟨n2,hn2⟩:∃n2,n2=y4.1.length:=⟨_,rfl⟩
           rw[←hn2]at rowW hqw ⊢
           replace hn2:=Lib.hid hn2
           have T27:XPt wr g A n c l 96 w23.heap.size (pnCells y1.1 y2.1 (.slice Ar n1 qr) (.slice Aw n2 qw)) _ _:=P27.set 7 (.slice Aw n2 qw)
           have hgs27:=grown_set w27 w23.heap.size 7 (.slice Aw n2 qw)
           have rowW2:=Single.two WtRel.kept WtRel.mono rowW (Two2.right hgs27 g) gP2 bP2
           have rowR3:=Single.two KyRel.kept KyRel.mono rowR2 ((Two2.left hg27 w23.heap.size).trans (Two2.right hgs27 g)) gP bP
           have z27:=hg27.size
           clear T26 h27 hg27 rowW P27 rowR2
           go_upto_region 28 with fail
           obtain⟨W27,hW27⟩:∃W27:World,W27=w27.setCell ⟨w23.heap.size,7,none⟩ (.slice Aw n2 qw):=⟨_,rfl⟩
           rw[←hW27]at T27 rowW2 rowR3 ⊢
           have z27':W26.heap.size≤W27.heap.size:=by rw[hW27];exact Nat.le_trans z27 hgs27.size
           clear hW27 hgs27 a27 f27
           have HPn:rPn l sk3=(⟨y1.1,y2.1,y3.1,y4.1⟩,y4.2):=HP.out
           have S27:=HS3.out.call T27.rd T27.gr
           have y11:=cl (S27.blk.cell 11)
           have B27:=T27.blk
           have hX:Below W27.heap.size W27 (W27.alloc (.cells #[.int .i64 y1.1.c,.int .i64 y1.1.l,.int .i64 y1.1.s,.int .i64 y2.1.w,.int .i64 y2.1.l,.int .i64 y2.1.n,.slice Ar n1 qr,.slice Aw n2 qw] 96)):=by go_grown
           have hin:Inn PnRel (rng wr.heap.size (W27.alloc (.cells #[.int .i64 y1.1.c,.int .i64 y1.1.l,.int .i64 y1.1.s,.int .i64 y2.1.w,.int .i64 y2.1.l,.int .i64 y2.1.n,.slice Ar n1 qr,.slice Aw n2 qw] 96)).heap.size) (W27.alloc (.cells #[.int .i64 y1.1.c,.int .i64 y1.1.l,.int .i64 y1.1.s,.int .i64 y2.1.w,.int .i64 y2.1.l,.int .i64 y2.1.n,.slice Ar n1 qr,.slice Aw n2 qw] 96)) [.int .i64 y1.1.c,.int .i64 y1.1.l,.int .i64 y1.1.s,.int .i64 y2.1.w,.int .i64 y2.1.l,.int .i64 y2.1.n,.slice Ar n1 qr,.slice Aw n2 qw] ⟨y1.1,y2.1,y3.1,y4.1⟩:=by
            have rX:=Single.base KyRel.kept KyRel.mono (Pair.below KyRel.kept KyRel.mono rowR3 hX) (b2:=wr.heap.size) (by omega)
            have wX:=Single.base WtRel.kept WtRel.mono (Pair.below WtRel.kept WtRel.mono rowW2 hX) (b2:=wr.heap.size) (by omega)
            exact⟨_,_,rfl,ok1,ok2,(Pair.held KyRel.mono (by omega) rX).1,(Pair.held WtRel.mono (by omega) wX).1⟩
           obtain⟨xs,hown,hzX,hfin⟩:=HI3.out.round PnRel.kept PnRel.mono gl22 bl22 al22 hlt3 he3 (w1:=W27) (by rw[HPn];exact T27.rd) (Two2.left T27.gr _) hX (cs:=[.int .i64 y1.1.c,.int .i64 y1.1.l,.int .i64 y1.1.s,.int .i64 y2.1.w,.int .i64 y2.1.l,.int .i64 y2.1.n,.slice Ar n1 qr,.slice Aw n2 qw]) rfl (by rw[HPn];exact hin)
           rw[HPn]at hfin
           have HF:=Lib.hid hfin
           have hrd0:=reads_new' W27 96 [.int .i64 y1.1.c,.int .i64 y1.1.l,.int .i64 y1.1.s,.int .i64 y2.1.w,.int .i64 y2.1.l,.int .i64 y2.1.n,.slice Ar n1 qr,.slice Aw n2 qw] 8 rfl
           have S28:=S27.below hX
           have e8':∀u∈([.int .i64 y1.1.c,.int .i64 y1.1.l,.int .i64 y1.1.s,.int .i64 y2.1.w,.int .i64 y2.1.l,.int .i64 y2.1.n,.slice Ar n1 qr,.slice Aw n2 qw]:List Value),u.oneCell'=true:=by
            intro u hu
            simp only[List.mem_cons,List.not_mem_nil,or_false]at hu
            rcases hu with rfl|rfl|rfl|rfl|rfl|rfl|rfl|rfl<;>rfl
           clear hfin hX hin HPn S27 T27 rowR3 rowW2 HP
           go_wp2_with (first
            |(guard_target=~ wpList _ _ _ _ _ _;refine wpList_load_row rfl 96 _ rfl w23.heap.size (by kernel_rfl) _ _ (0,0) _ B27 rfl rfl (by kernel_rfl) ?_)
            |(at_builtin
              refine wpList_append_any _ rfl (.tmp 116) (.tmp 118) _ rfl w22.heap.size 96 i2 _ 8 96 Tryz.underlying34 hi2 jz0 jz1 jz2 rfl (by omega) (.slice Av3 k3 qv3) _ xs (by rfl) hown _ (some ⟨W27.heap.size,0,none⟩) 1 1 [.int .i64 y1.1.c,.int .i64 y1.1.l,.int .i64 y1.1.s,.int .i64 y2.1.w,.int .i64 y2.1.l,.int .i64 y2.1.n,.slice Ar n1 qr,.slice Aw n2 qw] (by rfl) hrd0 e8' (by unfold maxLen;omega) (by omega) hzX ?_
              intro v5 w5 hown5 hg5 hat5
              have hI5:=HF.out v5 w5 hown5 hg5 hat5
              have hL5:=(Below.refl w22.heap.size _).grown hg5 hzX (fun q hq=>(hown.lt q hq).1)
              have S5:=S28.low hL5 bl22
              obtain⟨A5,q5,rfl,hq5,hm5⟩:=own_form hown5
              have y5:=cl (S5.blk.cell 11)
              have f5:=S5.blk.frozen 11
              clear hown5 hg5 hat5 hL5 HF hown hrd0)
            |fail)
           have hgs:=grown_set w5 (w.heap.size+1) 11 (.slice A5 (k3+1) q5)
           have S6:=S5.set 11 (.slice A5 (k3+1) q5)
           have hI6:=XInv.turn PnRel.kept PnRel.mono gl22 bl22 hI5 S6.rd (Two2.right hgs g)
           go_roundw
           case rel=>exact⟨k3+1,_,_,_,by go_num,hI6,S6⟩
           case measure=>simp[intOf];omega
         · have hx3:¬k3<N3∨sk3.e≠0:=by
            by_cases h1:k3<N3
            · exact .inr fun h2=>hcc3 ⟨h1,h2⟩
            · exact .inl h1
           have hD3:=hI3.done hx3
           have hr17:r17=(L3,sk3):=by rw[HL3.out];exact hD3
           have rowP:=hI3.row
           have rowH:=Single.two HsRel.kept HsRel.mono row22 hI3.two gl8 bl8
           have z3:=hI3.two.size
           have B3:=Lib.hid hS3.blk
           have X3:=Lib.hid hS3.box
           clear hD3 hI3 row22
           subst hr17
           by_cases hlt3:k3<N3
           case' pos=>
            have hd1:decide ((k3:Int)<(N3:Int))=true:=by simp;omega
            have he1:(sk3.e==0)=false:=by simp;exact fun h=>hcc3 ⟨hlt3,h⟩
           case' neg=>
            have hd1:decide ((k3:Int)<(N3:Int))=false:=by simp;omega
           all_goals
            obtain⟨b1,b2,b3⟩:=hS3.tell (stCells x1.1 x2.1 x3.1 x4.1 x5.1 x6.1 (.slice Av k qv) (.slice Av3 k3 qv3))
            have rowH':=Single.base HsRel.kept HsRel.mono (Single.row HsRel.kept HsRel.mono rowH (g:=w.heap.size) (by omega) (stCells x1.1 x2.1 x3.1 x4.1 x5.1 x6.1 (.slice Av k qv) (.slice Av3 k3 qv3))) (b2:=w.heap.size) (by omega)
            have rowP':=Single.base PnRel.kept PnRel.mono (Single.row PnRel.kept PnRel.mono rowP (g:=w.heap.size) (by omega) (stCells x1.1 x2.1 x3.1 x4.1 x5.1 x6.1 (.slice Av k qv) (.slice Av3 k3 qv3))) (b2:=w.heap.size) (by omega)
            obtain⟨W5,hW5⟩:∃W5:World,W5=wr.setRow w.heap.size (stCells x1.1 x2.1 x3.1 x4.1 x5.1 x6.1 (.slice Av k qv) (.slice Av3 k3 qv3)):=⟨_,rfl⟩
            rw[←hW5]at b1 b2 b3 rowH' rowP'
            have HW:=Lib.hid hW5
            have HB1:=Lib.hid b1
            clear hW5 b1
            go_wp2_with (first
             |(guard_target=~ wpList _ _ _ _ _ _;refine wpList_load_row rfl 36 (.tmp 3) rfl (w.heap.size+1) (by kernel_rfl) _ _ (0,0) _ B3.out rfl rfl (by kernel_rfl) ?_)
             |(guard_target=~ wpList _ _ _ _ _ _;refine wpList_store_row rfl 36 (.tmp 2) (.tmp 121) rfl w.heap.size (stCells x1.1 x2.1 x3.1 x4.1 x5.1 x6.1 (.slice Av k qv) (.slice Av3 k3 qv3)) (by kernel_rfl) (by kernel_rfl) _ _ X3.out (by kernel_rfl) (by kernel_rfl) (by kernel_rfl) ?_;rw[←HW.out];refine ‹∀(a:Act) (w:World),Code.wp _ Code.ret _ a w→_› _ _ ?_;rw[HR.out];refine wp_ret ?_;refine post_cell (by rfl) (by rfl) HB1.out Tryz.underlying36 (by rfl) (by kernel_rfl) ?_;exact⟨_,_,rfl,⟨ok1,ok2,ok3,ok4⟩,ok5,ok6,(Pair.held HsRel.mono (by omega) rowH').1,(Pair.held PnRel.mono (by omega) rowP').1,b2,b3⟩)
             |fail)
end Go.Proofs.YthdmanadhbpogaaGreat
