/- The document's reading: fields of a record of pairs, of no kind; fields. -/
import Derived.Test.YthdmanadhbpogaaGreatFaab
import Derived.Test.YthdmanadhbpogaaGreatFabh
import Derived.Test.YthdmanadhbpogaaGreatFabi
namespace Go.Proofs.YthdmanadhbpogaaGreat
set_option maxHeartbeats 8000000
set_option maxRecDepth 100000
set_option linter.unusedVariables false
open Go.RowKit Fl
attribute [local go_sem] run_store_float
theorem Single.blk {α:Type} {R:Rel α} {E size base n c:Nat} {A:Option Addr} {w:World} {l:List α} (h:Single R E size base w (.slice A n c) l) (hn:0<n):∃(rb:Nat) (cur:Array Value),A=some ⟨rb,0,none⟩∧base≤rb∧Blk w rb E cur:=by
 obtain⟨⟨css,⟨hl,e|⟨rb,cap,cur,e,hrb,hb,r⟩⟩,hlen,_⟩,_,_⟩:=h
 · injection e.1 with e1 e2 e3
   omega
 · injection e with e1 e2 e3
   exact⟨rb,cur,e1,hrb,hb⟩
theorem take_one {α:Type} {l:List α} {k:Nat} {a:α} (h:l[k]?=some a):l.take (k+1)=l.take k++[a]:=by
 rw[List.take_add_one,h];rfl
theorem xF_12K (g:Nat) (A:Option Addr) (n c:Nat) (l:List UInt8) (s:RS) (w:World) (h:Rd 117 w g A n c l s):
 Calls Tryz.prog 66 #[.int .i64 12,.pointer (some ⟨g,0,none⟩)] w (XFP w g A n c l (rBody 12 l s)):=by
 obtain⟨i0,hi0,hz0,hz1,hz2⟩:=info_parts prR_info
 rw[rBody_12]
 have gl:=h.blk.lt
 have al:=h.al
 have hb0:Below w.heap.size w ((w.alloc (.cells zRec 38)).alloc (.cells #[.int .i64 12,.int .i64 0,.int .i64 0,.int .i64 0,.int .i64 0,.int .i64 0,.int .i64 0,.int .i64 0,.int .i64 0,.int .i64 0,.bool false,.int .i64 0,.float .f64 0,.slice none 0 0,.slice none 0 0,.slice none 0 0,.slice none 0 0,.int .i64 0,.int .i64 0,.float .f64 0,.float .f64 0,.int .i64 0,.int .i64 0,.int .i64 0,.int .i64 0,.int .i64 0,.int .i64 0,.slice none 0 0,.slice none 0 0] 38)):=by go_grown
 have S0:XSt w g A n c l 38 zRec w.heap.size (w.heap.size+1) #[.int .i64 12,.int .i64 0,.int .i64 0,.int .i64 0,.int .i64 0,.int .i64 0,.int .i64 0,.int .i64 0,.int .i64 0,.int .i64 0,.bool false,.int .i64 0,.float .f64 0,.slice none 0 0,.slice none 0 0,.slice none 0 0,.slice none 0 0,.int .i64 0,.int .i64 0,.float .f64 0,.float .f64 0,.int .i64 0,.int .i64 0,.int .i64 0,.int .i64 0,.int .i64 0,.int .i64 0,.slice none 0 0,.slice none 0 0] s ((w.alloc (.cells zRec 38)).alloc (.cells #[.int .i64 12,.int .i64 0,.int .i64 0,.int .i64 0,.int .i64 0,.int .i64 0,.int .i64 0,.int .i64 0,.int .i64 0,.int .i64 0,.bool false,.int .i64 0,.float .f64 0,.slice none 0 0,.slice none 0 0,.slice none 0 0,.slice none 0 0,.int .i64 0,.int .i64 0,.float .f64 0,.float .f64 0,.int .i64 0,.int .i64 0,.int .i64 0,.int .i64 0,.int .i64 0,.int .i64 0,.slice none 0 0,.slice none 0 0] 38)):=
  ⟨h.below hb0,(Blk.new _ _ _).alloc _,Blk.new' _ _ (by simp),below_grown hb0 _,gl,al,Nat.le_refl _,Nat.lt_succ_self _⟩
 clear hb0 h
 go_enter Tryz.func66,Tryz.ntmps66
 go_wp2_with (first
  |(guard_target=~ wpList _ _ _ _ _ _;refine wpList_store_second rfl 38 _ _ rfl #[.int .i64 12,.int .i64 0,.int .i64 0,.int .i64 0,.int .i64 0,.int .i64 0,.int .i64 0,.int .i64 0,.int .i64 0,.int .i64 0,.bool false,.int .i64 0,.float .f64 0,.slice none 0 0,.slice none 0 0,.slice none 0 0,.slice none 0 0,.int .i64 0,.int .i64 0,.float .f64 0,.float .f64 0,.int .i64 0,.int .i64 0,.int .i64 0,.int .i64 0,.int .i64 0,.int .i64 0,.slice none 0 0,.slice none 0 0] rfl rfl _ _ _ (by kernel_rfl) (by kernel_rfl) (by kernel_rfl) ?_)
  |fail)
 refine(xGStamp g A n c l s _ S0.rd).mono ?_
 rintro e w1 ⟨rfl,h1,hg1⟩
 have C1:=S0.call h1 hg1
 have z1a:=cl (C1.blk.cell 4)
 have f1a:=C1.blk.frozen 4
 have z1b:=cl (C1.blk.cell 5)
 have f1b:=C1.blk.frozen 5
 have z1c:=cl (C1.blk.cell 6)
 have f1c:=C1.blk.frozen 6
 have ok1:=rSp_ok l s
 generalize rSp l s=y1 at*
 have S1:XSt w g A n c l 38 zRec w.heap.size (w.heap.size+1) #[.int .i64 12,.int .i64 0,.int .i64 0,.int .i64 0,.int .i64 y1.1.w,.int .i64 y1.1.l,.int .i64 y1.1.n,.int .i64 0,.int .i64 0,.int .i64 0,.bool false,.int .i64 0,.float .f64 0,.slice none 0 0,.slice none 0 0,.slice none 0 0,.slice none 0 0,.int .i64 0,.int .i64 0,.float .f64 0,.float .f64 0,.int .i64 0,.int .i64 0,.int .i64 0,.int .i64 0,.int .i64 0,.int .i64 0,.slice none 0 0,.slice none 0 0] y1.2 _:=(((C1.set 4 (.int .i64 y1.1.w)).set 5 (.int .i64 y1.1.l)).set 6 (.int .i64 y1.1.n))
 clear h1 hg1 C1 S0
 go_wp2_with fail
 refine(xGWrites g A n c l y1.2 _ S1.rd).mono ?_
 rintro e w2 ⟨v2,rfl,row2,h2,hg2⟩
 have S2:=S1.call h2 hg2
 have bP:=S1.blk.lt
 have gP:=S1.rd.blk.lt
 have hsm:=h2.small
 have hlw:=rLs_le (f:=rWt) l y1.2
 generalize rLs rWt l y1.2=y2 at*
 obtain⟨A2,q2,rfl,hq2,hm2⟩:=Single.form row2
 obtain⟨n2,hn2⟩:∃m,m=y2.1.length:=⟨_,rfl⟩
 rw[←hn2]at row2 hq2 hlw ⊢
 have HL:=Lib.hid hn2
 clear hn2
 have hlen:=h2.len
 have z2:=hg2.size
 have bl2:w.heap.size+1<w2.heap.size:=S2.blk.lt
 have gl2:g<w2.heap.size:=S2.rd.blk.lt
 clear h2 S1 hg2
 go_wp2_with fail
 go_loopw [7] (fun iv wr=>∃(k:Nat) (v:Value),k≤n2∧iv=.int .i64 (k:Int)∧XSt w g A n c l 38 zRec w.heap.size (w.heap.size+1) #[.int .i64 12,.int .i64 0,.int .i64 0,.int .i64 0,.int .i64 y1.1.w,.int .i64 y1.1.l,.int .i64 y1.1.n,.int .i64 0,.int .i64 0,.int .i64 0,.bool false,.int .i64 0,.float .f64 0,.slice none 0 0,.slice none 0 0,.slice none 0 0,v,.int .i64 0,.int .i64 0,.float .f64 0,.float .f64 0,.int .i64 0,.int .i64 0,.int .i64 0,.int .i64 0,.int .i64 0,.int .i64 0,.slice none 0 0,.slice none 0 0] y2.2 wr∧Two2 w2 wr g (w.heap.size+1)∧Single WtRel 61 4 w2.heap.size wr v (y2.1.take k)) (fun iv _=>n2-(intOf iv).toNat)
 case atStart=>exact⟨0,_,by omega,rfl,S2,Two2.refl _ _ _,Single.nil _⟩
 case round=>
  clear S2
  obtain⟨k,v,hk,rfl,hS,t2,hP⟩:=hrel
  have hlk:(y2.1.take k).length=k:=by have:=HL.out;rw[List.length_take];omega
  obtain⟨Av,qv,rfl,hqv,hqvm⟩:=Single.form hP
  rw[hlk]at hqv hS hP
  have tz:=t2.size
  by_cases hlt:k<n2
  · have hd1:decide ((k:Int)<(n2:Int))=true:=by simp;omega
    have hk0:(0:Int)≤(k:Int):=by omega
    have hk1:(k:Int)<(n2:Int):=by omega
    obtain⟨rb,cur,hA,hrb,hB2⟩:=Single.blk row2 (by omega)
    obtain⟨sl,-,-⟩:=(RowR.sl WtRel.mono (by omega) row2.1).hdU
    obtain⟨ad,a,he,ha,-,hok,c0,c1,c2,c3⟩:=sl.wt hlt
    subst he
    injection hA with hA
    subst hA
    have rlt:=hB2.lt
    have e0:(⟨rb,0,none⟩:Addr).add (k*4)=⟨rb,k*4,none⟩:=by simp[Addr.add];omega
    rw[e0]at c0 c1 c2 c3
    clear e0
    have hS4:∀W,Blk W rb 60 cur→W.cell? ⟨rb,k*4,none⟩=some (.string a.key)∧W.cell? ⟨rb,k*4+1,none⟩=some (.int .i64 a.v.k)∧W.cell? ⟨rb,k*4+1+1,none⟩=some (.float .f64 a.v.n)∧W.cell? ⟨rb,k*4+1+1+1,none⟩=some (.string a.v.t):=fun W hW=>by
        have e:W.heap[rb]?=w2.heap[rb]?:=hW.trans hB2.symm
        exact⟨(World.cell?_of_block (a:=⟨rb,k*4,none⟩) e).trans c0,(World.cell?_of_block (a:=⟨rb,k*4+1,none⟩) e).trans c1,(World.cell?_of_block (a:=⟨rb,k*4+1+1,none⟩) e).trans c2,(World.cell?_of_block (a:=⟨rb,k*4+1+1+1,none⟩) e).trans c3⟩
    have B5:Blk wr rb 60 cur:=(t2.block rb rlt (by omega) (by omega)).trans hB2
    have hT:=Lib.hid (take_one ha)
    clear ha sl hB2 c0 c1 c2 c3 hlk
    have hD:Below wr.heap.size wr wr.drew:=(Below.refl _ _).drew
    have B6:=B5.drew
    have S6:=hS.below hD
    have P6:Single WtRel 61 4 w2.heap.size wr.drew (.slice Av k qv) (y2.1.take k):=Pair.below WtRel.kept WtRel.mono hP hD
    have t6:=t2.trans (Two2.ofBelow g (w.heap.size+1) hD)
    have z6:w2.heap.size≤wr.drew.heap.size:=tz
    clear hD B5 hS hP t2
    go_wp2_with fail
    refine wp_region_held_drew (S:=fun W=>Blk W rb 60 cur) (by kernel_rfl) B6 (fun hHeld=>?_)
    generalize wr.drew=W6 at*
    have y16:=cl (S6.blk.cell 16)
    refine tc 0 110 ?_
    go_frame
    refine tc 2 112 ?_
    go_frame
    refine tc 3 113 ?_
    go_frame
    refine tc 4 114 ?_
    go_frame
    refine tc 5 115 ?_
    go_frame
    refine ts 6 116 rfl (v:=.string a.key) (fun W hSw=>by obtain⟨z0,z1,z2,z3⟩:=hS4 W hSw;clear hSw hS4;go_simp) ?_
    go_frame
    refine tc 7 117 ?_
    go_frame
    refine tc 8 118 ?_
    go_frame
    refine tc 9 119 ?_
    go_frame
    refine tc 10 120 ?_
    go_frame
    refine ts 11 121 rfl (v:=a.v.val) (fun W hSw=>by obtain⟨z0,z1,z2,z3⟩:=hS4 W hSw;clear hSw hS4;go_simp) ?_
    go_frame
    refine tc 12 122 ?_
    go_frame
    have hX:Below W6.heap.size W6 (W6.alloc (.cells #[.string a.key,.int .i64 a.v.k,.float .f64 a.v.n,.string a.v.t] 61)):=by go_grown
    have B7:=B6.below hX B6.lt
    have S7:=S6.below hX
    have t7:=t6.trans (Two2.ofBelow g (w.heap.size+1) hX)
    have hzX:w2.heap.size≤(W6.alloc (.cells #[.string a.key,.int .i64 a.v.k,.float .f64 a.v.n,.string a.v.t] 61)).heap.size:=Nat.le_trans z6 hX.size
    have P7:Single WtRel 61 4 w2.heap.size (W6.alloc (.cells #[.string a.key,.int .i64 a.v.k,.float .f64 a.v.n,.string a.v.t] 61)) (.slice Av k qv) (y2.1.take k):=Pair.below WtRel.kept WtRel.mono P6 hX
    have y17:=cl (S7.blk.cell 16)
    have hrd0:=reads_new' W6 61 [.string a.key,.int .i64 a.v.k,.float .f64 a.v.n,.string a.v.t] 4 rfl
    clear hX P6 B6 t6
    refine wpAnyH_ready (rs:=[1,13]) (by kernel_rfl) (by simp) (AllReadyH.cons (o:=⟨some 111,_,_,_,_,_⟩) rfl (fun K hK=>?_) (AllReadyH.cons (o:=⟨some 123,_,_,_,_,_⟩) rfl (fun K hK=>?_) AllReadyH.nil))
    case' refine_1=>
        go_simp
        refine hK.out _ _ (hHeld) (fun hHeld=>?_)
        clear hK K
        try go_frame
        refine tr 13 (o:=⟨some 123,_,_,_,_,_⟩) rfl fun K hK=>?_
        go_simp
        refine hK.out _ _ (B7) (fun hHeld=>?_)
        clear hK K
        try go_frame
    case' refine_2=>
        go_simp
        refine hK.out _ _ (B7) (fun hHeld=>?_)
        clear hK K
        try go_frame
        refine tr 1 (o:=⟨some 111,_,_,_,_,_⟩) rfl fun K hK=>?_
        go_simp
        refine hK.out _ _ (hHeld) (fun hHeld=>?_)
        clear hK K
        try go_frame
    all_goals
        obtain⟨xs,hown,hpush⟩:=Pair.own1 WtRel.kept WtRel.mono P7
        have hlk:(y2.1.take k).length=k:=by have:=HL.out;rw[List.length_take];omega
        rw[hlk]at hown hpush
        have lt7:=P7.1.lt
        have HF:=Lib.hid hpush
        have hne:∀q,(Value.slice Av k qv).ownBlock=some q→w2.heap.size≤q:=fun q hq=>(lt7 q hq).1
        clear hpush hlk lt7 y16 y17
        refine tr 14 (o:=⟨some 124,_,_,_,_,_⟩) rfl fun K hK=>?_
        refine step_append_any _ rfl _ _ _ rfl w2.heap.size 61 i0 _ 4 48 Tryz.underlying30 hi0 hz0 hz1 hz2 rfl (by omega) (.slice Av k qv) _ xs (by rfl) hown _ (some ⟨W6.heap.size,0,none⟩) 1 1 [.string a.key,.int .i64 a.v.k,.float .f64 a.v.n,.string a.v.t] (by rfl) hrd0 (wt_one a) (by unfold maxLen;omega) (by omega) hzX ?_
        intro v5 w5 hown5 hg5 hat5
        have P8:=HF.out [.string a.key,.int .i64 a.v.k,.float .f64 a.v.n,.string a.v.t] a w5 v5 rfl ⟨rfl,hok⟩ hown5 hg5 hat5
        have hL5:=(Below.refl w2.heap.size _).grown hg5 hzX (fun q hq=>(hown.lt q hq).1)
        have S8:=S7.low hL5 bl2
        have B8:=B7.grown hg5 (fun e=>by have:=hne _ e.symm;omega)
        have t8:Two2 w2 w5 g (w.heap.size+1):=⟨hL5.os.trans t7.os,hL5.tape.trans t7.tape,hL5.output.trans t7.output,Nat.le_trans t7.size hg5.size,fun q hq e1 e2=>(hL5.block q hq).trans (t7.block q hq e1 e2)⟩
        obtain⟨A5,q5,rfl,hq5,hm5⟩:=own_form hown5
        refine hK.out _ _ B8 (fun hHeld=>?_)
        clear hK K HF hown5 hg5 hat5 hL5 hown hrd0 B7 S7 t7 P7 hne
        try go_frame
        refine tc 15 125 ?_
        go_frame
        have y5:=cl (S8.blk.cell 16)
        have f5:=S8.blk.frozen 16
        have hgs:=grown_set w5 (w.heap.size+1) 16 (.slice A5 (k+1) q5)
        have S9:XSt w g A n c l 38 zRec w.heap.size (w.heap.size+1) #[.int .i64 12,.int .i64 0,.int .i64 0,.int .i64 0,.int .i64 y1.1.w,.int .i64 y1.1.l,.int .i64 y1.1.n,.int .i64 0,.int .i64 0,.int .i64 0,.bool false,.int .i64 0,.float .f64 0,.slice none 0 0,.slice none 0 0,.slice none 0 0,.slice A5 (k+1) q5,.int .i64 0,.int .i64 0,.float .f64 0,.float .f64 0,.int .i64 0,.int .i64 0,.int .i64 0,.int .i64 0,.int .i64 0,.int .i64 0,.slice none 0 0,.slice none 0 0] y2.2 _:=S8.set 16 (.slice A5 (k+1) q5)
        have t9:=t8.trans (Two2.right hgs g)
        have P9:=Single.two WtRel.kept WtRel.mono P8 (Two2.right hgs g) gl2 bl2
        refine tr 16 (o:=⟨none,_,_,_,_,_⟩) rfl fun K hK=>?_
        go_simp
        refine hK.out _ _ (B8.far (p:=⟨w.heap.size+1,16,none⟩) (by simp;omega) (.slice A5 (k+1) q5)) (fun hHeld=>?_)
        clear hK K y5 f5
        try go_frame
        refine td ?_
        clear hHeld B8 S8 t8 P8 hgs
        go_wp2_with fail
        go_roundw
        case rel=>exact⟨k+1,_,by omega,by go_num,S9,t9,by rw[hT.out];exact P9⟩
        case measure=>simp[intOf];omega
  · have hd1:decide ((k:Int)<(n2:Int))=false:=by simp;omega
    have S2:=hS
    have row3:Single WtRel 61 4 w2.heap.size wr (.slice Av k qv) y2.1:=by rw[List.take_of_length_le (by have:=HL.out;omega)]at hP;exact hP
    have BB:=Lib.hid hS.blk
    have BX:=Lib.hid hS.box
    obtain⟨b1,b2,b3⟩:=hS.tell #[.int .i64 12,.int .i64 0,.int .i64 0,.int .i64 0,.int .i64 y1.1.w,.int .i64 y1.1.l,.int .i64 y1.1.n,.int .i64 0,.int .i64 0,.int .i64 0,.bool false,.int .i64 0,.float .f64 0,.slice none 0 0,.slice none 0 0,.slice none 0 0,.slice Av k qv,.int .i64 0,.int .i64 0,.float .f64 0,.float .f64 0,.int .i64 0,.int .i64 0,.int .i64 0,.int .i64 0,.int .i64 0,.int .i64 0,.slice none 0 0,.slice none 0 0]
    obtain⟨sl3,hj3,hk3⟩:=(Pair.held WtRel.mono (by omega) (Single.base WtRel.kept WtRel.mono (Single.row WtRel.kept WtRel.mono row3 (g:=w.heap.size) (by omega) #[.int .i64 12,.int .i64 0,.int .i64 0,.int .i64 0,.int .i64 y1.1.w,.int .i64 y1.1.l,.int .i64 y1.1.n,.int .i64 0,.int .i64 0,.int .i64 0,.bool false,.int .i64 0,.float .f64 0,.slice none 0 0,.slice none 0 0,.slice none 0 0,.slice Av k qv,.int .i64 0,.int .i64 0,.float .f64 0,.float .f64 0,.int .i64 0,.int .i64 0,.int .i64 0,.int .i64 0,.int .i64 0,.int .i64 0,.slice none 0 0,.slice none 0 0]) (b2:=w.heap.size) (by omega))).1.hdU
    have okF:Rc.ok ⟨12,zTx,y1.1,zSp,false,0,0,[],[],[],y2.1,zSt⟩:=⟨(by unfold i64ok;omega:i64ok 12),zTx_ok,ok1,zSp_ok,i64z,(by show 0<_;omega),zRg_ok,zSp_ok,zSp_ok⟩
    have HB1:=Lib.hid b1
    clear b1
    go_wp2_with (first
        |(guard_target=~ wpList _ _ _ _ _ _;refine wpList_load_row rfl 38 _ rfl (w.heap.size+1) (by kernel_rfl) _ _ (0,0) _ BB.out rfl rfl (by kernel_rfl) ?_)
        |(guard_target=~ wpList _ _ _ _ _ _;refine wpList_store_row rfl 38 _ _ rfl w.heap.size #[.int .i64 12,.int .i64 0,.int .i64 0,.int .i64 0,.int .i64 y1.1.w,.int .i64 y1.1.l,.int .i64 y1.1.n,.int .i64 0,.int .i64 0,.int .i64 0,.bool false,.int .i64 0,.float .f64 0,.slice none 0 0,.slice none 0 0,.slice none 0 0,.slice Av k qv,.int .i64 0,.int .i64 0,.float .f64 0,.float .f64 0,.int .i64 0,.int .i64 0,.int .i64 0,.int .i64 0,.int .i64 0,.int .i64 0,.slice none 0 0,.slice none 0 0] (by kernel_rfl) (by kernel_rfl) _ _ BX.out (by kernel_rfl) (by kernel_rfl) (by kernel_rfl) ?_;refine ‹∀(a:Act) (w:World),Code.wp _ Code.ret _ a w→_› _ _ ?_;refine wp_ret ?_;refine post_cell (by rfl) (by rfl) HB1.out Tryz.underlying38 (by rfl) (by kernel_rfl) ?_;exact⟨⟨Hd.nil,Hd.nil,Hd.nil,⟨Av,k,qv⟩,Hd.nil,Hd.nil⟩,rfl,okF,⟨capZ,capZ,capZ,⟨hj3,hk3⟩,capZ,capZ⟩,⟨Sl.nil,Sl.nil,Sl.nil,sl3,Sl.nil,Sl.nil,(Nat.zero_le _),(Nat.zero_le _),(Nat.zero_le _),(Nat.le_trans hj3 hk3),(Nat.zero_le _),(Nat.zero_le _)⟩,b2,b3⟩)
        |fail)
theorem xF_oK (k:Int) (hki:i64ok k) (hk:kindB k=false) (g:Nat) (A:Option Addr) (n c:Nat) (l:List UInt8) (s:RS) (w:World) (h:Rd 117 w g A n c l s):
 Calls Tryz.prog 66 #[.int .i64 k,.pointer (some ⟨g,0,none⟩)] w (XFP w g A n c l (rBody k l s)):=by
 rw[rBody_o k l s hk]
 have hq:∀j:Int,1≤j→j≤12→(k==j)=false:=fun j h1 h2=>by
  unfold kindB at hk
  rw[decide_eq_false_iff_not]at hk
  simp;omega
 have b1:=hq 1 (by omega) (by omega)
 have b2:=hq 2 (by omega) (by omega)
 have b3:=hq 3 (by omega) (by omega)
 have b4:=hq 4 (by omega) (by omega)
 have b5:=hq 5 (by omega) (by omega)
 have b6:=hq 6 (by omega) (by omega)
 have b7:=hq 7 (by omega) (by omega)
 have b8:=hq 8 (by omega) (by omega)
 have b9:=hq 9 (by omega) (by omega)
 have b10:=hq 10 (by omega) (by omega)
 have b11:=hq 11 (by omega) (by omega)
 have b12:=hq 12 (by omega) (by omega)
 clear hk hq
 have gl:=h.blk.lt
 have al:=h.al
 have hb0:Below w.heap.size w ((w.alloc (.cells zRec 38)).alloc (.cells #[.int .i64 k,.int .i64 0,.int .i64 0,.int .i64 0,.int .i64 0,.int .i64 0,.int .i64 0,.int .i64 0,.int .i64 0,.int .i64 0,.bool false,.int .i64 0,.float .f64 0,.slice none 0 0,.slice none 0 0,.slice none 0 0,.slice none 0 0,.int .i64 0,.int .i64 0,.float .f64 0,.float .f64 0,.int .i64 0,.int .i64 0,.int .i64 0,.int .i64 0,.int .i64 0,.int .i64 0,.slice none 0 0,.slice none 0 0] 38)):=by go_grown
 have S0:XSt w g A n c l 38 zRec w.heap.size (w.heap.size+1) #[.int .i64 k,.int .i64 0,.int .i64 0,.int .i64 0,.int .i64 0,.int .i64 0,.int .i64 0,.int .i64 0,.int .i64 0,.int .i64 0,.bool false,.int .i64 0,.float .f64 0,.slice none 0 0,.slice none 0 0,.slice none 0 0,.slice none 0 0,.int .i64 0,.int .i64 0,.float .f64 0,.float .f64 0,.int .i64 0,.int .i64 0,.int .i64 0,.int .i64 0,.int .i64 0,.int .i64 0,.slice none 0 0,.slice none 0 0] s ((w.alloc (.cells zRec 38)).alloc (.cells #[.int .i64 k,.int .i64 0,.int .i64 0,.int .i64 0,.int .i64 0,.int .i64 0,.int .i64 0,.int .i64 0,.int .i64 0,.int .i64 0,.bool false,.int .i64 0,.float .f64 0,.slice none 0 0,.slice none 0 0,.slice none 0 0,.slice none 0 0,.int .i64 0,.int .i64 0,.float .f64 0,.float .f64 0,.int .i64 0,.int .i64 0,.int .i64 0,.int .i64 0,.int .i64 0,.int .i64 0,.slice none 0 0,.slice none 0 0] 38)):=
  ⟨h.below hb0,(Blk.new _ _ _).alloc _,Blk.new' _ _ (by simp),below_grown hb0 _,gl,al,Nat.le_refl _,Nat.lt_succ_self _⟩
 clear hb0 h
 have BB:=Lib.hid S0.blk
 have BX:=Lib.hid S0.box
 obtain⟨B1,B2,B3⟩:=S0.tell #[.int .i64 k,.int .i64 0,.int .i64 0,.int .i64 0,.int .i64 0,.int .i64 0,.int .i64 0,.int .i64 0,.int .i64 0,.int .i64 0,.bool false,.int .i64 0,.float .f64 0,.slice none 0 0,.slice none 0 0,.slice none 0 0,.slice none 0 0,.int .i64 0,.int .i64 0,.float .f64 0,.float .f64 0,.int .i64 0,.int .i64 0,.int .i64 0,.int .i64 0,.int .i64 0,.int .i64 0,.slice none 0 0,.slice none 0 0]
 have okF:Rc.ok ⟨k,zTx,zSp,zSp,false,0,0,[],[],[],[],zSt⟩:=⟨hki,zTx_ok,zSp_ok,zSp_ok,i64z,(by show 0<_;omega),zRg_ok,zSp_ok,zSp_ok⟩
 have HB1:=Lib.hid B1
 clear B1
 go_enter Tryz.func66,Tryz.ntmps66
 go_wp2_with (first
  |(guard_target=~ wpList _ _ _ _ _ _;refine wpList_store_second rfl 38 _ _ rfl #[.int .i64 k,.int .i64 0,.int .i64 0,.int .i64 0,.int .i64 0,.int .i64 0,.int .i64 0,.int .i64 0,.int .i64 0,.int .i64 0,.bool false,.int .i64 0,.float .f64 0,.slice none 0 0,.slice none 0 0,.slice none 0 0,.slice none 0 0,.int .i64 0,.int .i64 0,.float .f64 0,.float .f64 0,.int .i64 0,.int .i64 0,.int .i64 0,.int .i64 0,.int .i64 0,.int .i64 0,.slice none 0 0,.slice none 0 0] rfl rfl _ _ _ (by kernel_rfl) (by kernel_rfl) (by kernel_rfl) ?_)
  |(guard_target=~ wpList _ _ _ _ _ _;refine wpList_load_row rfl 38 _ rfl (w.heap.size+1) (by kernel_rfl) _ _ (0,0) _ BB.out rfl rfl (by kernel_rfl) ?_)
  |(guard_target=~ wpList _ _ _ _ _ _;refine wpList_store_row rfl 38 _ _ rfl w.heap.size #[.int .i64 k,.int .i64 0,.int .i64 0,.int .i64 0,.int .i64 0,.int .i64 0,.int .i64 0,.int .i64 0,.int .i64 0,.int .i64 0,.bool false,.int .i64 0,.float .f64 0,.slice none 0 0,.slice none 0 0,.slice none 0 0,.slice none 0 0,.int .i64 0,.int .i64 0,.float .f64 0,.float .f64 0,.int .i64 0,.int .i64 0,.int .i64 0,.int .i64 0,.int .i64 0,.int .i64 0,.slice none 0 0,.slice none 0 0] (by kernel_rfl) (by kernel_rfl) _ _ BX.out (by kernel_rfl) (by kernel_rfl) (by kernel_rfl) ?_;refine ‹∀(a:Act) (w:World),Code.wp _ Code.ret _ a w→_› _ _ ?_;refine wp_ret ?_;refine post_cell (by rfl) (by rfl) HB1.out Tryz.underlying38 (by rfl) (by kernel_rfl) ?_;exact⟨⟨Hd.nil,Hd.nil,Hd.nil,Hd.nil,Hd.nil,Hd.nil⟩,rfl,okF,⟨capZ,capZ,capZ,capZ,capZ,capZ⟩,⟨Sl.nil,Sl.nil,Sl.nil,Sl.nil,Sl.nil,Sl.nil,(Nat.zero_le _),(Nat.zero_le _),(Nat.zero_le _),(Nat.zero_le _),(Nat.zero_le _),(Nat.zero_le _)⟩,B2,B3⟩)
  |fail)
theorem xFields (k:Int) (hki:i64ok k) (g:Nat) (A:Option Addr) (n c:Nat) (l:List UInt8) (s:RS) (w:World) (h:Rd 117 w g A n c l s):
 Calls Tryz.prog 66 #[.int .i64 k,.pointer (some ⟨g,0,none⟩)] w (XFP w g A n c l (rBody k l s)):=by
 by_cases hk:kindB k=true
 · unfold kindB at hk
   rw[decide_eq_true_eq]at hk
   have h12:k=1∨k=2∨k=3∨k=4∨k=5∨k=6∨k=7∨k=8∨k=9∨k=10∨k=11∨k=12:=by omega
   rcases h12 with rfl|rfl|rfl|rfl|rfl|rfl|rfl|rfl|rfl|rfl|rfl|rfl
   · exact xF_1K g A n c l s w h
   · exact xF_2K g A n c l s w h
   · exact xF_3K g A n c l s w h
   · exact xF_4K g A n c l s w h
   · exact xF_5K g A n c l s w h
   · exact xF_6K g A n c l s w h
   · exact xF_7K g A n c l s w h
   · exact xF_8K g A n c l s w h
   · exact xF_9K g A n c l s w h
   · exact xF_10K g A n c l s w h
   · exact xF_11K g A n c l s w h
   · exact xF_12K g A n c l s w h
 · exact xF_oK k hki (by simpa using hk) g A n c l s w h
end Go.Proofs.YthdmanadhbpogaaGreat
