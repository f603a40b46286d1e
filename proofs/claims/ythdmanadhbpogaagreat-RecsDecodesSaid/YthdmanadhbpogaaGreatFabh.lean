/- The document's reading: the walk of fields. -/
import Derived.Deep.CutRange
import Derived.Test.YthdmanadhbpogaaGreatFaab
import Derived.Test.YthdmanadhbpogaaGreatFabg
namespace Go.Proofs.YthdmanadhbpogaaGreat
set_option maxHeartbeats 8000000
set_option maxRecDepth 100000
set_option linter.unusedVariables false
open Go.RowKit Fl
attribute [local go_sem] run_store_float
abbrev n0:Value:=.slice none 0 0
abbrev rcU (k:Int) (t:Tx) (s pv:Sp) (cm:Bool) (n:Int) (pt:Nat) (a b c d:Value):Array Value:=#[.int .i64 k,.int .i64 t.c,.int .i64 t.l,.int .i64 t.s,.int .i64 s.w,.int .i64 s.l,.int .i64 s.n,.int .i64 pv.w,.int .i64 pv.l,.int .i64 pv.n,.bool cm,.int .i64 n,.float .f64 pt,a,b,c,d,.int .i64 0,.int .i64 0,.float .f64 0,.float .f64 0,.int .i64 0,.int .i64 0,.int .i64 0,.int .i64 0,.int .i64 0,.int .i64 0,.slice none 0 0,.slice none 0 0]
def XFP (w:World) (g:Nat) (A:Option Addr) (n c:Nat) (l:List UInt8) (x:Rc×RS):Ending→World→Prop:=fun e w'=>
 ∃h:Hds,e=.returned (.agg (x.1.vals h))∧x.1.ok∧h.caps∧RcLo (only (rng w.heap.size w'.heap.size) w') w'.heap.size x.1 h∧Rd 117 w' g A n c l x.2∧w.grownBy w' (some g)
theorem HdRel.hdU {α:Type} {R:Rel α} {size:Nat} {w:World} {B:Nat} {A:Option Addr} {n c:Nat} {l:List α} (h:HdRel R size w B (.slice A n c) l):Sl R size w B A n l∧n≤c∧c≤maxLen:=by
 obtain⟨_,_,_,e,h1,h2,h3⟩:=h
 injection e with e1 e2 e3
 subst e1 e2 e3
 exact⟨h3,h1,h2⟩
theorem setCells_sizeU:∀(us:List Value) (w:World) (g i:Nat),(w.setCells g i us).heap.size=w.heap.size
 |[],_,_,_=>rfl
 |u::us,w,g,i=>(setCells_sizeU us _ g (i+1)).trans (by simp[World.setCell])
theorem heap_setCells_ne:∀(us:List Value) (w:World) (g i q:Nat),q≠g→(w.setCells g i us).heap[q]?=w.heap[q]?
 |[],_,_,_,_,_=>rfl
 |u::us,w,g,i,q,h=>(heap_setCells_ne us _ g (i+1) q h).trans (Below.heap_setCell _ _ _ _ h)
theorem Sl.carry {α:Type} {R:Rel α} {size a b a' b' N N' n:Nat} {A:Option Addr} {l:List α} {w1 W':World} (h:Sl R size (only (rng a b) w1) N A n l) (hR:R.Kept) (hm:R.Mono) (ha:a'≤a) (hb:b≤b') (he:∀k,a≤k→k<b→W'.heap[k]?=w1.heap[k]?) (hN:N≤N'):Sl R size (only (rng a' b') W') N' A n l:=by
 refine(Sl.mono hm h fun p u _ hc=>?_).more hR hN
 obtain⟨hk,hw⟩:=only_cell hc
 rw[rng_iff]at hk
 rw[only_cell_in (rng_iff.2 ⟨by omega,by omega⟩),World.cell?_of_block (he _ hk.1 hk.2)]
 exact hw
theorem rBody_3E (l:List UInt8) (s:RS):rBody 3 l s=(⟨3,(rTx l s).1,(rSp l (rTx l s).2).1,zSp,false,0,0,(rLs rKey l (rSp l (rTx l s).2).2).1,(rLs rWt l (rLs rKey l (rSp l (rTx l s).2).2).2).1,(rLs rInt l (rLs rWt l (rLs rKey l (rSp l (rTx l s).2).2).2).2).1,[],zSt⟩,(rLs rInt l (rLs rWt l (rLs rKey l (rSp l (rTx l s).2).2).2).2).2):=by
 rw[rBody_3,rPn_eq]
theorem xF_2K (g:Nat) (A:Option Addr) (n c:Nat) (l:List UInt8) (s:RS) (w:World) (h:Rd 117 w g A n c l s):
 Calls Tryz.prog 66 #[.int .i64 2,.pointer (some ⟨g,0,none⟩)] w (XFP w g A n c l (rBody 2 l s)):=by
 rw[rBody_2]
 have gl:=h.blk.lt
 have al:=h.al
 have hb0:Below w.heap.size w ((w.alloc (.cells zRec 38)).alloc (.cells (rcU 2 zTx zSp zSp false 0 0 n0 n0 n0 n0) 38)):=by go_grown
 have S0:XSt w g A n c l 38 zRec w.heap.size (w.heap.size+1) (rcU 2 zTx zSp zSp false 0 0 n0 n0 n0 n0) s ((w.alloc (.cells zRec 38)).alloc (.cells (rcU 2 zTx zSp zSp false 0 0 n0 n0 n0 n0) 38)):=
  ⟨h.below hb0,(Blk.new _ _ _).alloc _,Blk.new' _ _ (by simp),below_grown hb0 _,gl,al,Nat.le_refl _,Nat.lt_succ_self _⟩
 clear hb0 h
 go_enter Tryz.func66,Tryz.ntmps66
 go_wp2_with (first
  |(guard_target=~ wpList _ _ _ _ _ _;refine wpList_store_second rfl 38 _ _ rfl (rcU 2 zTx zSp zSp false 0 0 n0 n0 n0 n0) rfl rfl _ _ _ (by kernel_rfl) (by kernel_rfl) (by kernel_rfl) ?_)
  |fail)
 refine(xRInt g A n c l s _ S0.rd).mono ?_
 rintro e w1 ⟨rfl,h1,hg1⟩
 have C1:=S0.call h1 hg1
 have z1a:=cl (C1.blk.cell 11)
 have f1a:=C1.blk.frozen 11
 have ok1:=rInt_ok l s
 generalize rInt l s=y1 at*
 have S1:XSt w g A n c l 38 zRec w.heap.size (w.heap.size+1) (rcU 2 zTx zSp zSp false y1.1 0 n0 n0 n0 n0) y1.2 _:=(C1.set 11 (.int .i64 y1.1))
 clear h1 hg1 C1 S0
 have BB:=Lib.hid S1.blk
 have BX:=Lib.hid S1.box
 obtain⟨b1,b2,b3⟩:=S1.tell (rcU 2 zTx zSp zSp false y1.1 0 n0 n0 n0 n0)
 have okF:Rc.ok ⟨2,zTx,zSp,zSp,false,y1.1,0,[],[],[],[],zSt⟩:=⟨(by unfold i64ok;omega:i64ok 2),zTx_ok,zSp_ok,zSp_ok,ok1,(by show 0<_;omega),zRg_ok,zSp_ok,zSp_ok⟩
 have HB1:=Lib.hid b1
 clear b1
 go_wp2_with (first
  |(guard_target=~ wpList _ _ _ _ _ _;refine wpList_load_row rfl 38 _ rfl (w.heap.size+1) (by kernel_rfl) _ _ (0,0) _ BB.out rfl rfl (by kernel_rfl) ?_)
  |(guard_target=~ wpList _ _ _ _ _ _;refine wpList_store_row rfl 38 _ _ rfl w.heap.size (rcU 2 zTx zSp zSp false y1.1 0 n0 n0 n0 n0) (by kernel_rfl) (by kernel_rfl) _ _ BX.out (by kernel_rfl) (by kernel_rfl) (by kernel_rfl) ?_;refine ‹∀(a:Act) (w:World),Code.wp _ Code.ret _ a w→_› _ _ ?_;refine wp_ret ?_;refine post_cell (by rfl) (by rfl) HB1.out Tryz.underlying38 (by rfl) (by kernel_rfl) ?_;exact⟨⟨Hd.nil,Hd.nil,Hd.nil,Hd.nil,Hd.nil,Hd.nil⟩,rfl,okF,⟨capZ,capZ,capZ,capZ,capZ,capZ⟩,⟨Sl.nil,Sl.nil,Sl.nil,Sl.nil,Sl.nil,Sl.nil,(Nat.zero_le _),(Nat.zero_le _),(Nat.zero_le _),(Nat.zero_le _),(Nat.zero_le _),(Nat.zero_le _)⟩,b2,b3⟩)
  |fail)
theorem xF_4K (g:Nat) (A:Option Addr) (n c:Nat) (l:List UInt8) (s:RS) (w:World) (h:Rd 117 w g A n c l s):
 Calls Tryz.prog 66 #[.int .i64 4,.pointer (some ⟨g,0,none⟩)] w (XFP w g A n c l (rBody 4 l s)):=by
 rw[rBody_4]
 have gl:=h.blk.lt
 have al:=h.al
 have hb0:Below w.heap.size w ((w.alloc (.cells zRec 38)).alloc (.cells (rcU 4 zTx zSp zSp false 0 0 n0 n0 n0 n0) 38)):=by go_grown
 have S0:XSt w g A n c l 38 zRec w.heap.size (w.heap.size+1) (rcU 4 zTx zSp zSp false 0 0 n0 n0 n0 n0) s ((w.alloc (.cells zRec 38)).alloc (.cells (rcU 4 zTx zSp zSp false 0 0 n0 n0 n0 n0) 38)):=
  ⟨h.below hb0,(Blk.new _ _ _).alloc _,Blk.new' _ _ (by simp),below_grown hb0 _,gl,al,Nat.le_refl _,Nat.lt_succ_self _⟩
 clear hb0 h
 go_enter Tryz.func66,Tryz.ntmps66
 go_wp2_with (first
  |(guard_target=~ wpList _ _ _ _ _ _;refine wpList_store_second rfl 38 _ _ rfl (rcU 4 zTx zSp zSp false 0 0 n0 n0 n0 n0) rfl rfl _ _ _ (by kernel_rfl) (by kernel_rfl) (by kernel_rfl) ?_)
  |fail)
 refine(xGTxn g A n c l s _ S0.rd).mono ?_
 rintro e w1 ⟨rfl,h1,hg1⟩
 have C1:=S0.call h1 hg1
 have z1a:=cl (C1.blk.cell 1)
 have f1a:=C1.blk.frozen 1
 have z1b:=cl (C1.blk.cell 2)
 have f1b:=C1.blk.frozen 2
 have z1c:=cl (C1.blk.cell 3)
 have f1c:=C1.blk.frozen 3
 have ok1:=rTx_ok l s
 generalize rTx l s=y1 at*
 have S1:XSt w g A n c l 38 zRec w.heap.size (w.heap.size+1) (rcU 4 y1.1 zSp zSp false 0 0 n0 n0 n0 n0) y1.2 _:=(((C1.set 1 (.int .i64 y1.1.c)).set 2 (.int .i64 y1.1.l)).set 3 (.int .i64 y1.1.s))
 clear h1 hg1 C1 S0
 go_wp2_with fail
 refine(xRFlag g A n c l y1.2 _ S1.rd).mono ?_
 rintro e w2 ⟨rfl,h2,hg2⟩
 have C2:=S1.call h2 hg2
 have z2a:=cl (C2.blk.cell 10)
 have f2a:=C2.blk.frozen 10
 generalize rFlag l y1.2=y2 at*
 have S2:XSt w g A n c l 38 zRec w.heap.size (w.heap.size+1) (rcU 4 y1.1 zSp zSp y2.1 0 0 n0 n0 n0 n0) y2.2 _:=(C2.set 10 (.bool y2.1))
 clear h2 hg2 C2 S1 z1a f1a z1b f1b z1c f1c
 go_wp2_with fail
 refine(xGStamp g A n c l y2.2 _ S2.rd).mono ?_
 rintro e w3 ⟨rfl,h3,hg3⟩
 have C3:=S2.call h3 hg3
 have z3a:=cl (C3.blk.cell 4)
 have f3a:=C3.blk.frozen 4
 have z3b:=cl (C3.blk.cell 5)
 have f3b:=C3.blk.frozen 5
 have z3c:=cl (C3.blk.cell 6)
 have f3c:=C3.blk.frozen 6
 have ok3:=rSp_ok l y2.2
 generalize rSp l y2.2=y3 at*
 have S3:XSt w g A n c l 38 zRec w.heap.size (w.heap.size+1) (rcU 4 y1.1 y3.1 zSp y2.1 0 0 n0 n0 n0 n0) y3.2 _:=(((C3.set 4 (.int .i64 y3.1.w)).set 5 (.int .i64 y3.1.l)).set 6 (.int .i64 y3.1.n))
 clear h3 hg3 C3 S2 z2a f2a
 have BB:=Lib.hid S3.blk
 have BX:=Lib.hid S3.box
 obtain⟨b1,b2,b3⟩:=S3.tell (rcU 4 y1.1 y3.1 zSp y2.1 0 0 n0 n0 n0 n0)
 have okF:Rc.ok ⟨4,y1.1,y3.1,zSp,y2.1,0,0,[],[],[],[],zSt⟩:=⟨(by unfold i64ok;omega:i64ok 4),ok1,ok3,zSp_ok,i64z,(by show 0<_;omega),zRg_ok,zSp_ok,zSp_ok⟩
 have HB1:=Lib.hid b1
 clear b1
 go_wp2_with (first
  |(guard_target=~ wpList _ _ _ _ _ _;refine wpList_load_row rfl 38 _ rfl (w.heap.size+1) (by kernel_rfl) _ _ (0,0) _ BB.out rfl rfl (by kernel_rfl) ?_)
  |(guard_target=~ wpList _ _ _ _ _ _;refine wpList_store_row rfl 38 _ _ rfl w.heap.size (rcU 4 y1.1 y3.1 zSp y2.1 0 0 n0 n0 n0 n0) (by kernel_rfl) (by kernel_rfl) _ _ BX.out (by kernel_rfl) (by kernel_rfl) (by kernel_rfl) ?_;refine ‹∀(a:Act) (w:World),Code.wp _ Code.ret _ a w→_› _ _ ?_;refine wp_ret ?_;refine post_cell (by rfl) (by rfl) HB1.out Tryz.underlying38 (by rfl) (by kernel_rfl) ?_;exact⟨⟨Hd.nil,Hd.nil,Hd.nil,Hd.nil,Hd.nil,Hd.nil⟩,rfl,okF,⟨capZ,capZ,capZ,capZ,capZ,capZ⟩,⟨Sl.nil,Sl.nil,Sl.nil,Sl.nil,Sl.nil,Sl.nil,(Nat.zero_le _),(Nat.zero_le _),(Nat.zero_le _),(Nat.zero_le _),(Nat.zero_le _),(Nat.zero_le _)⟩,b2,b3⟩)
  |fail)
theorem xF_5K (g:Nat) (A:Option Addr) (n c:Nat) (l:List UInt8) (s:RS) (w:World) (h:Rd 117 w g A n c l s):
 Calls Tryz.prog 66 #[.int .i64 5,.pointer (some ⟨g,0,none⟩)] w (XFP w g A n c l (rBody 5 l s)):=by
 rw[rBody_5]
 have gl:=h.blk.lt
 have al:=h.al
 have hb0:Below w.heap.size w ((w.alloc (.cells zRec 38)).alloc (.cells (rcU 5 zTx zSp zSp false 0 0 n0 n0 n0 n0) 38)):=by go_grown
 have S0:XSt w g A n c l 38 zRec w.heap.size (w.heap.size+1) (rcU 5 zTx zSp zSp false 0 0 n0 n0 n0 n0) s ((w.alloc (.cells zRec 38)).alloc (.cells (rcU 5 zTx zSp zSp false 0 0 n0 n0 n0 n0) 38)):=
  ⟨h.below hb0,(Blk.new _ _ _).alloc _,Blk.new' _ _ (by simp),below_grown hb0 _,gl,al,Nat.le_refl _,Nat.lt_succ_self _⟩
 clear hb0 h
 go_enter Tryz.func66,Tryz.ntmps66
 go_wp2_with (first
  |(guard_target=~ wpList _ _ _ _ _ _;refine wpList_store_second rfl 38 _ _ rfl (rcU 5 zTx zSp zSp false 0 0 n0 n0 n0 n0) rfl rfl _ _ _ (by kernel_rfl) (by kernel_rfl) (by kernel_rfl) ?_)
  |fail)
 refine(xGStamp g A n c l s _ S0.rd).mono ?_
 rintro e w1 ⟨rfl,h1,hg1⟩
 have C1:=S0.call h1 hg1
 have z1a:=cl (C1.blk.cell 4)
 have f1a:=C1.blk.frozen 4
 have z1b:=cl (C1.blk.cell 5)
 have f1b:=C1.blk.frozen 5
 have z1c:=cl (C1.blk.cell 6)
 have f1c:=C1.blk.frozen 6
 have ok1:=rSp_ok l s
 generalize rSp l s=y1 at*
 have S1:XSt w g A n c l 38 zRec w.heap.size (w.heap.size+1) (rcU 5 zTx y1.1 zSp false 0 0 n0 n0 n0 n0) y1.2 _:=(((C1.set 4 (.int .i64 y1.1.w)).set 5 (.int .i64 y1.1.l)).set 6 (.int .i64 y1.1.n))
 clear h1 hg1 C1 S0
 have BB:=Lib.hid S1.blk
 have BX:=Lib.hid S1.box
 obtain⟨b1,b2,b3⟩:=S1.tell (rcU 5 zTx y1.1 zSp false 0 0 n0 n0 n0 n0)
 have okF:Rc.ok ⟨5,zTx,y1.1,zSp,false,0,0,[],[],[],[],zSt⟩:=⟨(by unfold i64ok;omega:i64ok 5),zTx_ok,ok1,zSp_ok,i64z,(by show 0<_;omega),zRg_ok,zSp_ok,zSp_ok⟩
 have HB1:=Lib.hid b1
 clear b1
 go_wp2_with (first
  |(guard_target=~ wpList _ _ _ _ _ _;refine wpList_load_row rfl 38 _ rfl (w.heap.size+1) (by kernel_rfl) _ _ (0,0) _ BB.out rfl rfl (by kernel_rfl) ?_)
  |(guard_target=~ wpList _ _ _ _ _ _;refine wpList_store_row rfl 38 _ _ rfl w.heap.size (rcU 5 zTx y1.1 zSp false 0 0 n0 n0 n0 n0) (by kernel_rfl) (by kernel_rfl) _ _ BX.out (by kernel_rfl) (by kernel_rfl) (by kernel_rfl) ?_;refine ‹∀(a:Act) (w:World),Code.wp _ Code.ret _ a w→_› _ _ ?_;refine wp_ret ?_;refine post_cell (by rfl) (by rfl) HB1.out Tryz.underlying38 (by rfl) (by kernel_rfl) ?_;exact⟨⟨Hd.nil,Hd.nil,Hd.nil,Hd.nil,Hd.nil,Hd.nil⟩,rfl,okF,⟨capZ,capZ,capZ,capZ,capZ,capZ⟩,⟨Sl.nil,Sl.nil,Sl.nil,Sl.nil,Sl.nil,Sl.nil,(Nat.zero_le _),(Nat.zero_le _),(Nat.zero_le _),(Nat.zero_le _),(Nat.zero_le _),(Nat.zero_le _)⟩,b2,b3⟩)
  |fail)
theorem xF_6K (g:Nat) (A:Option Addr) (n c:Nat) (l:List UInt8) (s:RS) (w:World) (h:Rd 117 w g A n c l s):
 Calls Tryz.prog 66 #[.int .i64 6,.pointer (some ⟨g,0,none⟩)] w (XFP w g A n c l (rBody 6 l s)):=by
 rw[rBody_6]
 have gl:=h.blk.lt
 have al:=h.al
 have hb0:Below w.heap.size w ((w.alloc (.cells zRec 38)).alloc (.cells (rcU 6 zTx zSp zSp false 0 0 n0 n0 n0 n0) 38)):=by go_grown
 have S0:XSt w g A n c l 38 zRec w.heap.size (w.heap.size+1) (rcU 6 zTx zSp zSp false 0 0 n0 n0 n0 n0) s ((w.alloc (.cells zRec 38)).alloc (.cells (rcU 6 zTx zSp zSp false 0 0 n0 n0 n0 n0) 38)):=
  ⟨h.below hb0,(Blk.new _ _ _).alloc _,Blk.new' _ _ (by simp),below_grown hb0 _,gl,al,Nat.le_refl _,Nat.lt_succ_self _⟩
 clear hb0 h
 go_enter Tryz.func66,Tryz.ntmps66
 go_wp2_with (first
  |(guard_target=~ wpList _ _ _ _ _ _;refine wpList_store_second rfl 38 _ _ rfl (rcU 6 zTx zSp zSp false 0 0 n0 n0 n0 n0) rfl rfl _ _ _ (by kernel_rfl) (by kernel_rfl) (by kernel_rfl) ?_)
  |fail)
 refine(xRFloat g A n c l s _ S0.rd).mono ?_
 rintro e w1 ⟨rfl,h1,hg1⟩
 have C1:=S0.call h1 hg1
 have z1a:=cl (C1.blk.cell 12)
 have f1a:=C1.blk.frozen 12
 have ok1:=rFloat_ok l s
 generalize rFloat l s=y1 at*
 have S1:XSt w g A n c l 38 zRec w.heap.size (w.heap.size+1) (rcU 6 zTx zSp zSp false 0 y1.1 n0 n0 n0 n0) y1.2 _:=(C1.set 12 (.float .f64 y1.1))
 clear h1 hg1 C1 S0
 go_wp2_with fail
 refine(xRInt g A n c l y1.2 _ S1.rd).mono ?_
 rintro e w2 ⟨rfl,h2,hg2⟩
 have C2:=S1.call h2 hg2
 have z2a:=cl (C2.blk.cell 11)
 have f2a:=C2.blk.frozen 11
 have ok2:=rInt_ok l y1.2
 generalize rInt l y1.2=y2 at*
 have S2:XSt w g A n c l 38 zRec w.heap.size (w.heap.size+1) (rcU 6 zTx zSp zSp false y2.1 y1.1 n0 n0 n0 n0) y2.2 _:=(C2.set 11 (.int .i64 y2.1))
 clear h2 hg2 C2 S1 z1a f1a
 go_wp2_with fail
 refine(xGStamp g A n c l y2.2 _ S2.rd).mono ?_
 rintro e w3 ⟨rfl,h3,hg3⟩
 have C3:=S2.call h3 hg3
 have z3a:=cl (C3.blk.cell 4)
 have f3a:=C3.blk.frozen 4
 have z3b:=cl (C3.blk.cell 5)
 have f3b:=C3.blk.frozen 5
 have z3c:=cl (C3.blk.cell 6)
 have f3c:=C3.blk.frozen 6
 have ok3:=rSp_ok l y2.2
 generalize rSp l y2.2=y3 at*
 have S3:XSt w g A n c l 38 zRec w.heap.size (w.heap.size+1) (rcU 6 zTx y3.1 zSp false y2.1 y1.1 n0 n0 n0 n0) y3.2 _:=(((C3.set 4 (.int .i64 y3.1.w)).set 5 (.int .i64 y3.1.l)).set 6 (.int .i64 y3.1.n))
 clear h3 hg3 C3 S2 z2a f2a
 have BB:=Lib.hid S3.blk
 have BX:=Lib.hid S3.box
 obtain⟨b1,b2,b3⟩:=S3.tell (rcU 6 zTx y3.1 zSp false y2.1 y1.1 n0 n0 n0 n0)
 have okF:Rc.ok ⟨6,zTx,y3.1,zSp,false,y2.1,y1.1,[],[],[],[],zSt⟩:=⟨(by unfold i64ok;omega:i64ok 6),zTx_ok,ok3,zSp_ok,ok2,ok1,zRg_ok,zSp_ok,zSp_ok⟩
 have HB1:=Lib.hid b1
 clear b1
 go_wp2_with (first
  |(guard_target=~ wpList _ _ _ _ _ _;refine wpList_load_row rfl 38 _ rfl (w.heap.size+1) (by kernel_rfl) _ _ (0,0) _ BB.out rfl rfl (by kernel_rfl) ?_)
  |(guard_target=~ wpList _ _ _ _ _ _;refine wpList_store_row rfl 38 _ _ rfl w.heap.size (rcU 6 zTx y3.1 zSp false y2.1 y1.1 n0 n0 n0 n0) (by kernel_rfl) (by kernel_rfl) _ _ BX.out (by kernel_rfl) (by kernel_rfl) (by kernel_rfl) ?_;refine ‹∀(a:Act) (w:World),Code.wp _ Code.ret _ a w→_› _ _ ?_;refine wp_ret ?_;refine post_cell (by rfl) (by rfl) HB1.out Tryz.underlying38 (by rfl) (by kernel_rfl) ?_;exact⟨⟨Hd.nil,Hd.nil,Hd.nil,Hd.nil,Hd.nil,Hd.nil⟩,rfl,okF,⟨capZ,capZ,capZ,capZ,capZ,capZ⟩,⟨Sl.nil,Sl.nil,Sl.nil,Sl.nil,Sl.nil,Sl.nil,(Nat.zero_le _),(Nat.zero_le _),(Nat.zero_le _),(Nat.zero_le _),(Nat.zero_le _),(Nat.zero_le _)⟩,b2,b3⟩)
  |fail)
theorem xF_7K (g:Nat) (A:Option Addr) (n c:Nat) (l:List UInt8) (s:RS) (w:World) (h:Rd 117 w g A n c l s):
 Calls Tryz.prog 66 #[.int .i64 7,.pointer (some ⟨g,0,none⟩)] w (XFP w g A n c l (rBody 7 l s)):=by
 rw[rBody_7]
 have gl:=h.blk.lt
 have al:=h.al
 have hb0:Below w.heap.size w ((w.alloc (.cells zRec 38)).alloc (.cells (rcU 7 zTx zSp zSp false 0 0 n0 n0 n0 n0) 38)):=by go_grown
 have S0:XSt w g A n c l 38 zRec w.heap.size (w.heap.size+1) (rcU 7 zTx zSp zSp false 0 0 n0 n0 n0 n0) s ((w.alloc (.cells zRec 38)).alloc (.cells (rcU 7 zTx zSp zSp false 0 0 n0 n0 n0 n0) 38)):=
  ⟨h.below hb0,(Blk.new _ _ _).alloc _,Blk.new' _ _ (by simp),below_grown hb0 _,gl,al,Nat.le_refl _,Nat.lt_succ_self _⟩
 clear hb0 h
 go_enter Tryz.func66,Tryz.ntmps66
 go_wp2_with (first
  |(guard_target=~ wpList _ _ _ _ _ _;refine wpList_store_second rfl 38 _ _ rfl (rcU 7 zTx zSp zSp false 0 0 n0 n0 n0 n0) rfl rfl _ _ _ (by kernel_rfl) (by kernel_rfl) (by kernel_rfl) ?_)
  |fail)
 refine(xRInt g A n c l s _ S0.rd).mono ?_
 rintro e w1 ⟨rfl,h1,hg1⟩
 have C1:=S0.call h1 hg1
 have z1a:=cl (C1.blk.cell 11)
 have f1a:=C1.blk.frozen 11
 have ok1:=rInt_ok l s
 generalize rInt l s=y1 at*
 have S1:XSt w g A n c l 38 zRec w.heap.size (w.heap.size+1) (rcU 7 zTx zSp zSp false y1.1 0 n0 n0 n0 n0) y1.2 _:=(C1.set 11 (.int .i64 y1.1))
 clear h1 hg1 C1 S0
 have BB:=Lib.hid S1.blk
 have BX:=Lib.hid S1.box
 obtain⟨b1,b2,b3⟩:=S1.tell (rcU 7 zTx zSp zSp false y1.1 0 n0 n0 n0 n0)
 have okF:Rc.ok ⟨7,zTx,zSp,zSp,false,y1.1,0,[],[],[],[],zSt⟩:=⟨(by unfold i64ok;omega:i64ok 7),zTx_ok,zSp_ok,zSp_ok,ok1,(by show 0<_;omega),zRg_ok,zSp_ok,zSp_ok⟩
 have HB1:=Lib.hid b1
 clear b1
 go_wp2_with (first
  |(guard_target=~ wpList _ _ _ _ _ _;refine wpList_load_row rfl 38 _ rfl (w.heap.size+1) (by kernel_rfl) _ _ (0,0) _ BB.out rfl rfl (by kernel_rfl) ?_)
  |(guard_target=~ wpList _ _ _ _ _ _;refine wpList_store_row rfl 38 _ _ rfl w.heap.size (rcU 7 zTx zSp zSp false y1.1 0 n0 n0 n0 n0) (by kernel_rfl) (by kernel_rfl) _ _ BX.out (by kernel_rfl) (by kernel_rfl) (by kernel_rfl) ?_;refine ‹∀(a:Act) (w:World),Code.wp _ Code.ret _ a w→_› _ _ ?_;refine wp_ret ?_;refine post_cell (by rfl) (by rfl) HB1.out Tryz.underlying38 (by rfl) (by kernel_rfl) ?_;exact⟨⟨Hd.nil,Hd.nil,Hd.nil,Hd.nil,Hd.nil,Hd.nil⟩,rfl,okF,⟨capZ,capZ,capZ,capZ,capZ,capZ⟩,⟨Sl.nil,Sl.nil,Sl.nil,Sl.nil,Sl.nil,Sl.nil,(Nat.zero_le _),(Nat.zero_le _),(Nat.zero_le _),(Nat.zero_le _),(Nat.zero_le _),(Nat.zero_le _)⟩,b2,b3⟩)
  |fail)
theorem xF_8K (g:Nat) (A:Option Addr) (n c:Nat) (l:List UInt8) (s:RS) (w:World) (h:Rd 117 w g A n c l s):
 Calls Tryz.prog 66 #[.int .i64 8,.pointer (some ⟨g,0,none⟩)] w (XFP w g A n c l (rBody 8 l s)):=by
 rw[rBody_8]
 have gl:=h.blk.lt
 have al:=h.al
 have hb0:Below w.heap.size w ((w.alloc (.cells zRec 38)).alloc (.cells (rcU 8 zTx zSp zSp false 0 0 n0 n0 n0 n0) 38)):=by go_grown
 have S0:XSt w g A n c l 38 zRec w.heap.size (w.heap.size+1) (rcU 8 zTx zSp zSp false 0 0 n0 n0 n0 n0) s ((w.alloc (.cells zRec 38)).alloc (.cells (rcU 8 zTx zSp zSp false 0 0 n0 n0 n0 n0) 38)):=
  ⟨h.below hb0,(Blk.new _ _ _).alloc _,Blk.new' _ _ (by simp),below_grown hb0 _,gl,al,Nat.le_refl _,Nat.lt_succ_self _⟩
 clear hb0 h
 go_enter Tryz.func66,Tryz.ntmps66
 go_wp2_with (first
  |(guard_target=~ wpList _ _ _ _ _ _;refine wpList_store_second rfl 38 _ _ rfl (rcU 8 zTx zSp zSp false 0 0 n0 n0 n0 n0) rfl rfl _ _ _ (by kernel_rfl) (by kernel_rfl) (by kernel_rfl) ?_)
  |fail)
 refine(xRInt g A n c l s _ S0.rd).mono ?_
 rintro e w1 ⟨rfl,h1,hg1⟩
 have C1:=S0.call h1 hg1
 have z1a:=cl (C1.blk.cell 11)
 have f1a:=C1.blk.frozen 11
 have ok1:=rInt_ok l s
 generalize rInt l s=y1 at*
 have S1:XSt w g A n c l 38 zRec w.heap.size (w.heap.size+1) (rcU 8 zTx zSp zSp false y1.1 0 n0 n0 n0 n0) y1.2 _:=(C1.set 11 (.int .i64 y1.1))
 clear h1 hg1 C1 S0
 have BB:=Lib.hid S1.blk
 have BX:=Lib.hid S1.box
 obtain⟨b1,b2,b3⟩:=S1.tell (rcU 8 zTx zSp zSp false y1.1 0 n0 n0 n0 n0)
 have okF:Rc.ok ⟨8,zTx,zSp,zSp,false,y1.1,0,[],[],[],[],zSt⟩:=⟨(by unfold i64ok;omega:i64ok 8),zTx_ok,zSp_ok,zSp_ok,ok1,(by show 0<_;omega),zRg_ok,zSp_ok,zSp_ok⟩
 have HB1:=Lib.hid b1
 clear b1
 go_wp2_with (first
  |(guard_target=~ wpList _ _ _ _ _ _;refine wpList_load_row rfl 38 _ rfl (w.heap.size+1) (by kernel_rfl) _ _ (0,0) _ BB.out rfl rfl (by kernel_rfl) ?_)
  |(guard_target=~ wpList _ _ _ _ _ _;refine wpList_store_row rfl 38 _ _ rfl w.heap.size (rcU 8 zTx zSp zSp false y1.1 0 n0 n0 n0 n0) (by kernel_rfl) (by kernel_rfl) _ _ BX.out (by kernel_rfl) (by kernel_rfl) (by kernel_rfl) ?_;refine ‹∀(a:Act) (w:World),Code.wp _ Code.ret _ a w→_› _ _ ?_;refine wp_ret ?_;refine post_cell (by rfl) (by rfl) HB1.out Tryz.underlying38 (by rfl) (by kernel_rfl) ?_;exact⟨⟨Hd.nil,Hd.nil,Hd.nil,Hd.nil,Hd.nil,Hd.nil⟩,rfl,okF,⟨capZ,capZ,capZ,capZ,capZ,capZ⟩,⟨Sl.nil,Sl.nil,Sl.nil,Sl.nil,Sl.nil,Sl.nil,(Nat.zero_le _),(Nat.zero_le _),(Nat.zero_le _),(Nat.zero_le _),(Nat.zero_le _),(Nat.zero_le _)⟩,b2,b3⟩)
  |fail)
theorem xF_10K (g:Nat) (A:Option Addr) (n c:Nat) (l:List UInt8) (s:RS) (w:World) (h:Rd 117 w g A n c l s):
 Calls Tryz.prog 66 #[.int .i64 10,.pointer (some ⟨g,0,none⟩)] w (XFP w g A n c l (rBody 10 l s)):=by
 rw[rBody_10]
 have gl:=h.blk.lt
 have al:=h.al
 have hb0:Below w.heap.size w ((w.alloc (.cells zRec 38)).alloc (.cells (rcU 10 zTx zSp zSp false 0 0 n0 n0 n0 n0) 38)):=by go_grown
 have S0:XSt w g A n c l 38 zRec w.heap.size (w.heap.size+1) (rcU 10 zTx zSp zSp false 0 0 n0 n0 n0 n0) s ((w.alloc (.cells zRec 38)).alloc (.cells (rcU 10 zTx zSp zSp false 0 0 n0 n0 n0 n0) 38)):=
  ⟨h.below hb0,(Blk.new _ _ _).alloc _,Blk.new' _ _ (by simp),below_grown hb0 _,gl,al,Nat.le_refl _,Nat.lt_succ_self _⟩
 clear hb0 h
 go_enter Tryz.func66,Tryz.ntmps66
 go_wp2_with (first
  |(guard_target=~ wpList _ _ _ _ _ _;refine wpList_store_second rfl 38 _ _ rfl (rcU 10 zTx zSp zSp false 0 0 n0 n0 n0 n0) rfl rfl _ _ _ (by kernel_rfl) (by kernel_rfl) (by kernel_rfl) ?_)
  |fail)
 refine(xGTxn g A n c l s _ S0.rd).mono ?_
 rintro e w1 ⟨rfl,h1,hg1⟩
 have C1:=S0.call h1 hg1
 have z1a:=cl (C1.blk.cell 1)
 have f1a:=C1.blk.frozen 1
 have z1b:=cl (C1.blk.cell 2)
 have f1b:=C1.blk.frozen 2
 have z1c:=cl (C1.blk.cell 3)
 have f1c:=C1.blk.frozen 3
 have ok1:=rTx_ok l s
 generalize rTx l s=y1 at*
 have S1:XSt w g A n c l 38 zRec w.heap.size (w.heap.size+1) (rcU 10 y1.1 zSp zSp false 0 0 n0 n0 n0 n0) y1.2 _:=(((C1.set 1 (.int .i64 y1.1.c)).set 2 (.int .i64 y1.1.l)).set 3 (.int .i64 y1.1.s))
 clear h1 hg1 C1 S0
 have BB:=Lib.hid S1.blk
 have BX:=Lib.hid S1.box
 obtain⟨b1,b2,b3⟩:=S1.tell (rcU 10 y1.1 zSp zSp false 0 0 n0 n0 n0 n0)
 have okF:Rc.ok ⟨10,y1.1,zSp,zSp,false,0,0,[],[],[],[],zSt⟩:=⟨(by unfold i64ok;omega:i64ok 10),ok1,zSp_ok,zSp_ok,i64z,(by show 0<_;omega),zRg_ok,zSp_ok,zSp_ok⟩
 have HB1:=Lib.hid b1
 clear b1
 go_wp2_with (first
  |(guard_target=~ wpList _ _ _ _ _ _;refine wpList_load_row rfl 38 _ rfl (w.heap.size+1) (by kernel_rfl) _ _ (0,0) _ BB.out rfl rfl (by kernel_rfl) ?_)
  |(guard_target=~ wpList _ _ _ _ _ _;refine wpList_store_row rfl 38 _ _ rfl w.heap.size (rcU 10 y1.1 zSp zSp false 0 0 n0 n0 n0 n0) (by kernel_rfl) (by kernel_rfl) _ _ BX.out (by kernel_rfl) (by kernel_rfl) (by kernel_rfl) ?_;refine ‹∀(a:Act) (w:World),Code.wp _ Code.ret _ a w→_› _ _ ?_;refine wp_ret ?_;refine post_cell (by rfl) (by rfl) HB1.out Tryz.underlying38 (by rfl) (by kernel_rfl) ?_;exact⟨⟨Hd.nil,Hd.nil,Hd.nil,Hd.nil,Hd.nil,Hd.nil⟩,rfl,okF,⟨capZ,capZ,capZ,capZ,capZ,capZ⟩,⟨Sl.nil,Sl.nil,Sl.nil,Sl.nil,Sl.nil,Sl.nil,(Nat.zero_le _),(Nat.zero_le _),(Nat.zero_le _),(Nat.zero_le _),(Nat.zero_le _),(Nat.zero_le _)⟩,b2,b3⟩)
  |fail)
theorem xF_9K (g:Nat) (A:Option Addr) (n c:Nat) (l:List UInt8) (s:RS) (w:World) (h:Rd 117 w g A n c l s):
 Calls Tryz.prog 66 #[.int .i64 9,.pointer (some ⟨g,0,none⟩)] w (XFP w g A n c l (rBody 9 l s)):=by
 rw[rBody_9]
 have gl:=h.blk.lt
 have al:=h.al
 have hb0:Below w.heap.size w ((w.alloc (.cells zRec 38)).alloc (.cells (rcU 9 zTx zSp zSp false 0 0 n0 n0 n0 n0) 38)):=by go_grown
 have S0:XSt w g A n c l 38 zRec w.heap.size (w.heap.size+1) (rcU 9 zTx zSp zSp false 0 0 n0 n0 n0 n0) s ((w.alloc (.cells zRec 38)).alloc (.cells (rcU 9 zTx zSp zSp false 0 0 n0 n0 n0 n0) 38)):=
  ⟨h.below hb0,(Blk.new _ _ _).alloc _,Blk.new' _ _ (by simp),below_grown hb0 _,gl,al,Nat.le_refl _,Nat.lt_succ_self _⟩
 clear hb0 h
 go_enter Tryz.func66,Tryz.ntmps66
 go_wp2_with (first
  |(guard_target=~ wpList _ _ _ _ _ _;refine wpList_store_second rfl 38 _ _ rfl (rcU 9 zTx zSp zSp false 0 0 n0 n0 n0 n0) rfl rfl _ _ _ (by kernel_rfl) (by kernel_rfl) (by kernel_rfl) ?_)
  |fail)
 refine(xGTxn g A n c l s _ S0.rd).mono ?_
 rintro e w1 ⟨rfl,h1,hg1⟩
 have C1:=S0.call h1 hg1
 have z1a:=cl (C1.blk.cell 1)
 have f1a:=C1.blk.frozen 1
 have z1b:=cl (C1.blk.cell 2)
 have f1b:=C1.blk.frozen 2
 have z1c:=cl (C1.blk.cell 3)
 have f1c:=C1.blk.frozen 3
 have ok1:=rTx_ok l s
 generalize rTx l s=y1 at*
 have S1:XSt w g A n c l 38 zRec w.heap.size (w.heap.size+1) (rcU 9 y1.1 zSp zSp false 0 0 n0 n0 n0 n0) y1.2 _:=(((C1.set 1 (.int .i64 y1.1.c)).set 2 (.int .i64 y1.1.l)).set 3 (.int .i64 y1.1.s))
 clear h1 hg1 C1 S0
 go_wp2_with fail
 refine(xGStamp g A n c l y1.2 _ S1.rd).mono ?_
 rintro e w2 ⟨rfl,h2,hg2⟩
 have C2:=S1.call h2 hg2
 have z2a:=cl (C2.blk.cell 4)
 have f2a:=C2.blk.frozen 4
 have z2b:=cl (C2.blk.cell 5)
 have f2b:=C2.blk.frozen 5
 have z2c:=cl (C2.blk.cell 6)
 have f2c:=C2.blk.frozen 6
 have ok2:=rSp_ok l y1.2
 generalize rSp l y1.2=y2 at*
 have S2:XSt w g A n c l 38 zRec w.heap.size (w.heap.size+1) (rcU 9 y1.1 y2.1 zSp false 0 0 n0 n0 n0 n0) y2.2 _:=(((C2.set 4 (.int .i64 y2.1.w)).set 5 (.int .i64 y2.1.l)).set 6 (.int .i64 y2.1.n))
 clear h2 hg2 C2 S1 z1a f1a z1b f1b z1c f1c
 go_wp2_with fail
 refine(xGInts g A n c l y2.2 _ S2.rd).mono ?_
 rintro e w3 ⟨v3,rfl,row3,h3,hg3⟩
 have C3:=S2.call h3 hg3
 have bP3:=S2.blk.lt
 have gP3:=S2.rd.blk.lt
 generalize rLs rInt l y2.2=y3 at*
 obtain⟨A3,q3,rfl,hq3,hm3⟩:=Single.form row3
 obtain⟨n3,hn3⟩:∃m,m=y3.1.length:=⟨_,rfl⟩
 rw[←hn3]at row3 hq3 ⊢
 replace hn3:=Lib.hid hn3
 have z3a:=cl (C3.blk.cell 15)
 have f3a:=C3.blk.frozen 15
 have S3:XSt w g A n c l 38 zRec w.heap.size (w.heap.size+1) (rcU 9 y1.1 y2.1 zSp false 0 0 n0 n0 (.slice A3 n3 q3) n0) y3.2 _:=C3.set 15 (.slice A3 n3 q3)
 have hs3:=grown_set w3 (w.heap.size+1) 15 (.slice A3 n3 q3)
 replace row3:=Single.two NmRel.kept NmRel.mono row3 (Two2.right hs3 g) gP3 bP3
 clear h3 hg3 C3 S2 hs3 z2a f2a z2b f2b z2c f2c
 have BB:=Lib.hid S3.blk
 have BX:=Lib.hid S3.box
 obtain⟨b1,b2,b3⟩:=S3.tell (rcU 9 y1.1 y2.1 zSp false 0 0 n0 n0 (.slice A3 n3 q3) n0)
 obtain⟨sl3,hj3,hk3⟩:=(Pair.held NmRel.mono (by omega) (Single.base NmRel.kept NmRel.mono (Single.row NmRel.kept NmRel.mono row3 (g:=w.heap.size) (by omega) (rcU 9 y1.1 y2.1 zSp false 0 0 n0 n0 (.slice A3 n3 q3) n0)) (b2:=w.heap.size) (by omega))).1.hdU
 have okF:Rc.ok ⟨9,y1.1,y2.1,zSp,false,0,0,[],[],y3.1,[],zSt⟩:=⟨(by unfold i64ok;omega:i64ok 9),ok1,ok2,zSp_ok,i64z,(by show 0<_;omega),zRg_ok,zSp_ok,zSp_ok⟩
 have HB1:=Lib.hid b1
 clear b1
 go_wp2_with (first
  |(guard_target=~ wpList _ _ _ _ _ _;refine wpList_load_row rfl 38 _ rfl (w.heap.size+1) (by kernel_rfl) _ _ (0,0) _ BB.out rfl rfl (by kernel_rfl) ?_)
  |(guard_target=~ wpList _ _ _ _ _ _;refine wpList_store_row rfl 38 _ _ rfl w.heap.size (rcU 9 y1.1 y2.1 zSp false 0 0 n0 n0 (.slice A3 n3 q3) n0) (by kernel_rfl) (by kernel_rfl) _ _ BX.out (by kernel_rfl) (by kernel_rfl) (by kernel_rfl) ?_;refine ‹∀(a:Act) (w:World),Code.wp _ Code.ret _ a w→_› _ _ ?_;refine wp_ret ?_;refine post_cell (by rfl) (by rfl) HB1.out Tryz.underlying38 (by rfl) (by kernel_rfl) ?_;exact⟨⟨Hd.nil,Hd.nil,⟨A3,n3,q3⟩,Hd.nil,Hd.nil,Hd.nil⟩,rfl,okF,⟨capZ,capZ,⟨hj3,hk3⟩,capZ,capZ,capZ⟩,⟨Sl.nil,Sl.nil,sl3,Sl.nil,Sl.nil,Sl.nil,(Nat.zero_le _),(Nat.zero_le _),(Nat.le_trans hj3 hk3),(Nat.zero_le _),(Nat.zero_le _),(Nat.zero_le _)⟩,b2,b3⟩)
  |fail)
theorem xF_11K (g:Nat) (A:Option Addr) (n c:Nat) (l:List UInt8) (s:RS) (w:World) (h:Rd 117 w g A n c l s):
 Calls Tryz.prog 66 #[.int .i64 11,.pointer (some ⟨g,0,none⟩)] w (XFP w g A n c l (rBody 11 l s)):=by
 rw[rBody_11]
 have gl:=h.blk.lt
 have al:=h.al
 have hb0:Below w.heap.size w ((w.alloc (.cells zRec 38)).alloc (.cells (rcU 11 zTx zSp zSp false 0 0 n0 n0 n0 n0) 38)):=by go_grown
 have S0:XSt w g A n c l 38 zRec w.heap.size (w.heap.size+1) (rcU 11 zTx zSp zSp false 0 0 n0 n0 n0 n0) s ((w.alloc (.cells zRec 38)).alloc (.cells (rcU 11 zTx zSp zSp false 0 0 n0 n0 n0 n0) 38)):=
  ⟨h.below hb0,(Blk.new _ _ _).alloc _,Blk.new' _ _ (by simp),below_grown hb0 _,gl,al,Nat.le_refl _,Nat.lt_succ_self _⟩
 clear hb0 h
 go_enter Tryz.func66,Tryz.ntmps66
 go_wp2_with (first
  |(guard_target=~ wpList _ _ _ _ _ _;refine wpList_store_second rfl 38 _ _ rfl (rcU 11 zTx zSp zSp false 0 0 n0 n0 n0 n0) rfl rfl _ _ _ (by kernel_rfl) (by kernel_rfl) (by kernel_rfl) ?_)
  |fail)
 refine(xGStamp g A n c l s _ S0.rd).mono ?_
 rintro e w1 ⟨rfl,h1,hg1⟩
 have C1:=S0.call h1 hg1
 have z1a:=cl (C1.blk.cell 7)
 have f1a:=C1.blk.frozen 7
 have z1b:=cl (C1.blk.cell 8)
 have f1b:=C1.blk.frozen 8
 have z1c:=cl (C1.blk.cell 9)
 have f1c:=C1.blk.frozen 9
 have ok1:=rSp_ok l s
 generalize rSp l s=y1 at*
 have S1:XSt w g A n c l 38 zRec w.heap.size (w.heap.size+1) (rcU 11 zTx zSp y1.1 false 0 0 n0 n0 n0 n0) y1.2 _:=(((C1.set 7 (.int .i64 y1.1.w)).set 8 (.int .i64 y1.1.l)).set 9 (.int .i64 y1.1.n))
 clear h1 hg1 C1 S0
 go_wp2_with fail
 refine(xGStamp g A n c l y1.2 _ S1.rd).mono ?_
 rintro e w2 ⟨rfl,h2,hg2⟩
 have C2:=S1.call h2 hg2
 have z2a:=cl (C2.blk.cell 4)
 have f2a:=C2.blk.frozen 4
 have z2b:=cl (C2.blk.cell 5)
 have f2b:=C2.blk.frozen 5
 have z2c:=cl (C2.blk.cell 6)
 have f2c:=C2.blk.frozen 6
 have ok2:=rSp_ok l y1.2
 generalize rSp l y1.2=y2 at*
 have S2:XSt w g A n c l 38 zRec w.heap.size (w.heap.size+1) (rcU 11 zTx y2.1 y1.1 false 0 0 n0 n0 n0 n0) y2.2 _:=(((C2.set 4 (.int .i64 y2.1.w)).set 5 (.int .i64 y2.1.l)).set 6 (.int .i64 y2.1.n))
 clear h2 hg2 C2 S1 z1a f1a z1b f1b z1c f1c
 go_wp2_with fail
 refine(xGTxn g A n c l y2.2 _ S2.rd).mono ?_
 rintro e w3 ⟨rfl,h3,hg3⟩
 have C3:=S2.call h3 hg3
 have z3a:=cl (C3.blk.cell 1)
 have f3a:=C3.blk.frozen 1
 have z3b:=cl (C3.blk.cell 2)
 have f3b:=C3.blk.frozen 2
 have z3c:=cl (C3.blk.cell 3)
 have f3c:=C3.blk.frozen 3
 have ok3:=rTx_ok l y2.2
 generalize rTx l y2.2=y3 at*
 have S3:XSt w g A n c l 38 zRec w.heap.size (w.heap.size+1) (rcU 11 y3.1 y2.1 y1.1 false 0 0 n0 n0 n0 n0) y3.2 _:=(((C3.set 1 (.int .i64 y3.1.c)).set 2 (.int .i64 y3.1.l)).set 3 (.int .i64 y3.1.s))
 clear h3 hg3 C3 S2 z2a f2a z2b f2b z2c f2c
 go_wp2_with fail
 refine(xGWrites g A n c l y3.2 _ S3.rd).mono ?_
 rintro e w4 ⟨v4,rfl,row4,h4,hg4⟩
 have C4:=S3.call h4 hg4
 have bP4:=S3.blk.lt
 have gP4:=S3.rd.blk.lt
 generalize rLs rWt l y3.2=y4 at*
 obtain⟨A4,q4,rfl,hq4,hm4⟩:=Single.form row4
 obtain⟨n4,hn4⟩:∃m,m=y4.1.length:=⟨_,rfl⟩
 rw[←hn4]at row4 hq4 ⊢
 replace hn4:=Lib.hid hn4
 have z4a:=cl (C4.blk.cell 14)
 have f4a:=C4.blk.frozen 14
 have S4:XSt w g A n c l 38 zRec w.heap.size (w.heap.size+1) (rcU 11 y3.1 y2.1 y1.1 false 0 0 n0 (.slice A4 n4 q4) n0 n0) y4.2 _:=C4.set 14 (.slice A4 n4 q4)
 have hs4:=grown_set w4 (w.heap.size+1) 14 (.slice A4 n4 q4)
 replace row4:=Single.two WtRel.kept WtRel.mono row4 (Two2.right hs4 g) gP4 bP4
 clear h4 hg4 C4 S3 hs4 z3a f3a z3b f3b z3c f3c
 have BB:=Lib.hid S4.blk
 have BX:=Lib.hid S4.box
 obtain⟨b1,b2,b3⟩:=S4.tell (rcU 11 y3.1 y2.1 y1.1 false 0 0 n0 (.slice A4 n4 q4) n0 n0)
 obtain⟨sl4,hj4,hk4⟩:=(Pair.held WtRel.mono (by omega) (Single.base WtRel.kept WtRel.mono (Single.row WtRel.kept WtRel.mono row4 (g:=w.heap.size) (by omega) (rcU 11 y3.1 y2.1 y1.1 false 0 0 n0 (.slice A4 n4 q4) n0 n0)) (b2:=w.heap.size) (by omega))).1.hdU
 have okF:Rc.ok ⟨11,y3.1,y2.1,y1.1,false,0,0,[],y4.1,[],[],zSt⟩:=⟨(by unfold i64ok;omega:i64ok 11),ok3,ok2,ok1,i64z,(by show 0<_;omega),zRg_ok,zSp_ok,zSp_ok⟩
 have HB1:=Lib.hid b1
 clear b1
 go_wp2_with (first
  |(guard_target=~ wpList _ _ _ _ _ _;refine wpList_load_row rfl 38 _ rfl (w.heap.size+1) (by kernel_rfl) _ _ (0,0) _ BB.out rfl rfl (by kernel_rfl) ?_)
  |(guard_target=~ wpList _ _ _ _ _ _;refine wpList_store_row rfl 38 _ _ rfl w.heap.size (rcU 11 y3.1 y2.1 y1.1 false 0 0 n0 (.slice A4 n4 q4) n0 n0) (by kernel_rfl) (by kernel_rfl) _ _ BX.out (by kernel_rfl) (by kernel_rfl) (by kernel_rfl) ?_;refine ‹∀(a:Act) (w:World),Code.wp _ Code.ret _ a w→_› _ _ ?_;refine wp_ret ?_;refine post_cell (by rfl) (by rfl) HB1.out Tryz.underlying38 (by rfl) (by kernel_rfl) ?_;exact⟨⟨Hd.nil,⟨A4,n4,q4⟩,Hd.nil,Hd.nil,Hd.nil,Hd.nil⟩,rfl,okF,⟨capZ,⟨hj4,hk4⟩,capZ,capZ,capZ,capZ⟩,⟨Sl.nil,sl4,Sl.nil,Sl.nil,Sl.nil,Sl.nil,(Nat.zero_le _),(Nat.le_trans hj4 hk4),(Nat.zero_le _),(Nat.zero_le _),(Nat.zero_le _),(Nat.zero_le _)⟩,b2,b3⟩)
  |fail)
theorem xF_3K (g:Nat) (A:Option Addr) (n c:Nat) (l:List UInt8) (s:RS) (w:World) (h:Rd 117 w g A n c l s):
 Calls Tryz.prog 66 #[.int .i64 3,.pointer (some ⟨g,0,none⟩)] w (XFP w g A n c l (rBody 3 l s)):=by
 rw[rBody_3E]
 have gl:=h.blk.lt
 have al:=h.al
 have hb0:Below w.heap.size w ((w.alloc (.cells zRec 38)).alloc (.cells (rcU 3 zTx zSp zSp false 0 0 n0 n0 n0 n0) 38)):=by go_grown
 have S0:XSt w g A n c l 38 zRec w.heap.size (w.heap.size+1) (rcU 3 zTx zSp zSp false 0 0 n0 n0 n0 n0) s ((w.alloc (.cells zRec 38)).alloc (.cells (rcU 3 zTx zSp zSp false 0 0 n0 n0 n0 n0) 38)):=
  ⟨h.below hb0,(Blk.new _ _ _).alloc _,Blk.new' _ _ (by simp),below_grown hb0 _,gl,al,Nat.le_refl _,Nat.lt_succ_self _⟩
 clear hb0 h
 go_enter Tryz.func66,Tryz.ntmps66
 go_wp2_with (first
  |(guard_target=~ wpList _ _ _ _ _ _;refine wpList_store_second rfl 38 _ _ rfl (rcU 3 zTx zSp zSp false 0 0 n0 n0 n0 n0) rfl rfl _ _ _ (by kernel_rfl) (by kernel_rfl) (by kernel_rfl) ?_)
  |fail)
 refine(xGTxn g A n c l s _ S0.rd).mono ?_
 rintro e w1 ⟨rfl,h1,hg1⟩
 have C1:=S0.call h1 hg1
 have z1a:=cl (C1.blk.cell 1)
 have f1a:=C1.blk.frozen 1
 have z1b:=cl (C1.blk.cell 2)
 have f1b:=C1.blk.frozen 2
 have z1c:=cl (C1.blk.cell 3)
 have f1c:=C1.blk.frozen 3
 have ok1:=rTx_ok l s
 generalize rTx l s=y1 at*
 have S1:XSt w g A n c l 38 zRec w.heap.size (w.heap.size+1) (rcU 3 y1.1 zSp zSp false 0 0 n0 n0 n0 n0) y1.2 _:=(((C1.set 1 (.int .i64 y1.1.c)).set 2 (.int .i64 y1.1.l)).set 3 (.int .i64 y1.1.s))
 clear h1 hg1 C1 S0
 go_wp2_with fail
 refine(xGStamp g A n c l y1.2 _ S1.rd).mono ?_
 rintro e w2 ⟨rfl,h2,hg2⟩
 have C2:=S1.call h2 hg2
 have z2a:=cl (C2.blk.cell 4)
 have f2a:=C2.blk.frozen 4
 have z2b:=cl (C2.blk.cell 5)
 have f2b:=C2.blk.frozen 5
 have z2c:=cl (C2.blk.cell 6)
 have f2c:=C2.blk.frozen 6
 have ok2:=rSp_ok l y1.2
 generalize rSp l y1.2=y2 at*
 have S2:XSt w g A n c l 38 zRec w.heap.size (w.heap.size+1) (rcU 3 y1.1 y2.1 zSp false 0 0 n0 n0 n0 n0) y2.2 _:=(((C2.set 4 (.int .i64 y2.1.w)).set 5 (.int .i64 y2.1.l)).set 6 (.int .i64 y2.1.n))
 clear h2 hg2 C2 S1 z1a f1a z1b f1b z1c f1c
 go_wp2_with fail
 refine(xGTexts g A n c l y2.2 _ S2.rd).mono ?_
 rintro e w3 ⟨v3,rfl,row3,h3,hg3⟩
 have C3:=S2.call h3 hg3
 have bP3:=S2.blk.lt
 have gP3:=S2.rd.blk.lt
 generalize rLs rKey l y2.2=y3 at*
 obtain⟨A3,q3,rfl,hq3,hm3⟩:=Single.form row3
 obtain⟨n3,hn3⟩:∃m,m=y3.1.length:=⟨_,rfl⟩
 rw[←hn3]at row3 hq3 ⊢
 replace hn3:=Lib.hid hn3
 have z3a:=cl (C3.blk.cell 13)
 have f3a:=C3.blk.frozen 13
 have S3:XSt w g A n c l 38 zRec w.heap.size (w.heap.size+1) (rcU 3 y1.1 y2.1 zSp false 0 0 (.slice A3 n3 q3) n0 n0 n0) y3.2 _:=C3.set 13 (.slice A3 n3 q3)
 have hs3:=grown_set w3 (w.heap.size+1) 13 (.slice A3 n3 q3)
 replace row3:=Single.two KyRel.kept KyRel.mono row3 (Two2.right hs3 g) gP3 bP3
 clear h3 hg3 C3 S2 hs3 z2a f2a z2b f2b z2c f2c
 go_wp2_with fail
 refine(xGWrites g A n c l y3.2 _ S3.rd).mono ?_
 rintro e w4 ⟨v4,rfl,row4,h4,hg4⟩
 have C4:=S3.call h4 hg4
 have bP4:=S3.blk.lt
 have gP4:=S3.rd.blk.lt
 generalize rLs rWt l y3.2=y4 at*
 obtain⟨A4,q4,rfl,hq4,hm4⟩:=Single.form row4
 obtain⟨n4,hn4⟩:∃m,m=y4.1.length:=⟨_,rfl⟩
 rw[←hn4]at row4 hq4 ⊢
 replace hn4:=Lib.hid hn4
 have z4a:=cl (C4.blk.cell 14)
 have f4a:=C4.blk.frozen 14
 have S4:XSt w g A n c l 38 zRec w.heap.size (w.heap.size+1) (rcU 3 y1.1 y2.1 zSp false 0 0 (.slice A3 n3 q3) (.slice A4 n4 q4) n0 n0) y4.2 _:=C4.set 14 (.slice A4 n4 q4)
 have hs4:=grown_set w4 (w.heap.size+1) 14 (.slice A4 n4 q4)
 replace row4:=Single.two WtRel.kept WtRel.mono row4 (Two2.right hs4 g) gP4 bP4
 replace row3:=Single.two KyRel.kept KyRel.mono row3 ((Two2.left hg4 (w.heap.size+1)).trans (Two2.right hs4 g)) gP3 bP3
 clear h4 hg4 C4 S3 hs4 z3a f3a
 go_wp2_with fail
 refine(xGInts g A n c l y4.2 _ S4.rd).mono ?_
 rintro e w5 ⟨v5,rfl,row5,h5,hg5⟩
 have C5:=S4.call h5 hg5
 have bP5:=S4.blk.lt
 have gP5:=S4.rd.blk.lt
 generalize rLs rInt l y4.2=y5 at*
 obtain⟨A5,q5,rfl,hq5,hm5⟩:=Single.form row5
 obtain⟨n5,hn5⟩:∃m,m=y5.1.length:=⟨_,rfl⟩
 rw[←hn5]at row5 hq5 ⊢
 replace hn5:=Lib.hid hn5
 have z5a:=cl (C5.blk.cell 15)
 have f5a:=C5.blk.frozen 15
 have S5:XSt w g A n c l 38 zRec w.heap.size (w.heap.size+1) (rcU 3 y1.1 y2.1 zSp false 0 0 (.slice A3 n3 q3) (.slice A4 n4 q4) (.slice A5 n5 q5) n0) y5.2 _:=C5.set 15 (.slice A5 n5 q5)
 have hs5:=grown_set w5 (w.heap.size+1) 15 (.slice A5 n5 q5)
 replace row5:=Single.two NmRel.kept NmRel.mono row5 (Two2.right hs5 g) gP5 bP5
 replace row3:=Single.two KyRel.kept KyRel.mono row3 ((Two2.left hg5 (w.heap.size+1)).trans (Two2.right hs5 g)) gP3 bP3
 replace row4:=Single.two WtRel.kept WtRel.mono row4 ((Two2.left hg5 (w.heap.size+1)).trans (Two2.right hs5 g)) gP4 bP4
 clear h5 hg5 C5 S4 hs5 z4a f4a
 have BB:=Lib.hid S5.blk
 have BX:=Lib.hid S5.box
 obtain⟨b1,b2,b3⟩:=S5.tell (rcU 3 y1.1 y2.1 zSp false 0 0 (.slice A3 n3 q3) (.slice A4 n4 q4) (.slice A5 n5 q5) n0)
 obtain⟨sl3,hj3,hk3⟩:=(Pair.held KyRel.mono (by omega) (Single.base KyRel.kept KyRel.mono (Single.row KyRel.kept KyRel.mono row3 (g:=w.heap.size) (by omega) (rcU 3 y1.1 y2.1 zSp false 0 0 (.slice A3 n3 q3) (.slice A4 n4 q4) (.slice A5 n5 q5) n0)) (b2:=w.heap.size) (by omega))).1.hdU
 obtain⟨sl4,hj4,hk4⟩:=(Pair.held WtRel.mono (by omega) (Single.base WtRel.kept WtRel.mono (Single.row WtRel.kept WtRel.mono row4 (g:=w.heap.size) (by omega) (rcU 3 y1.1 y2.1 zSp false 0 0 (.slice A3 n3 q3) (.slice A4 n4 q4) (.slice A5 n5 q5) n0)) (b2:=w.heap.size) (by omega))).1.hdU
 obtain⟨sl5,hj5,hk5⟩:=(Pair.held NmRel.mono (by omega) (Single.base NmRel.kept NmRel.mono (Single.row NmRel.kept NmRel.mono row5 (g:=w.heap.size) (by omega) (rcU 3 y1.1 y2.1 zSp false 0 0 (.slice A3 n3 q3) (.slice A4 n4 q4) (.slice A5 n5 q5) n0)) (b2:=w.heap.size) (by omega))).1.hdU
 have okF:Rc.ok ⟨3,y1.1,y2.1,zSp,false,0,0,y3.1,y4.1,y5.1,[],zSt⟩:=⟨(by unfold i64ok;omega:i64ok 3),ok1,ok2,zSp_ok,i64z,(by show 0<_;omega),zRg_ok,zSp_ok,zSp_ok⟩
 have HB1:=Lib.hid b1
 clear b1
 go_wp2_with (first
  |(guard_target=~ wpList _ _ _ _ _ _;refine wpList_load_row rfl 38 _ rfl (w.heap.size+1) (by kernel_rfl) _ _ (0,0) _ BB.out rfl rfl (by kernel_rfl) ?_)
  |(guard_target=~ wpList _ _ _ _ _ _;refine wpList_store_row rfl 38 _ _ rfl w.heap.size (rcU 3 y1.1 y2.1 zSp false 0 0 (.slice A3 n3 q3) (.slice A4 n4 q4) (.slice A5 n5 q5) n0) (by kernel_rfl) (by kernel_rfl) _ _ BX.out (by kernel_rfl) (by kernel_rfl) (by kernel_rfl) ?_;refine ‹∀(a:Act) (w:World),Code.wp _ Code.ret _ a w→_› _ _ ?_;refine wp_ret ?_;refine post_cell (by rfl) (by rfl) HB1.out Tryz.underlying38 (by rfl) (by kernel_rfl) ?_;exact⟨⟨⟨A3,n3,q3⟩,⟨A4,n4,q4⟩,⟨A5,n5,q5⟩,Hd.nil,Hd.nil,Hd.nil⟩,rfl,okF,⟨⟨hj3,hk3⟩,⟨hj4,hk4⟩,⟨hj5,hk5⟩,capZ,capZ,capZ⟩,⟨sl3,sl4,sl5,Sl.nil,Sl.nil,Sl.nil,(Nat.le_trans hj3 hk3),(Nat.le_trans hj4 hk4),(Nat.le_trans hj5 hk5),(Nat.zero_le _),(Nat.zero_le _),(Nat.zero_le _)⟩,b2,b3⟩)
  |fail)
theorem xF_1K (g:Nat) (A:Option Addr) (n c:Nat) (l:List UInt8) (s:RS) (w:World) (h:Rd 117 w g A n c l s):
 Calls Tryz.prog 66 #[.int .i64 1,.pointer (some ⟨g,0,none⟩)] w (XFP w g A n c l (rBody 1 l s)):=by
 rw[rBody_1]
 have gl:=h.blk.lt
 have al:=h.al
 have hb0:Below w.heap.size w ((w.alloc (.cells zRec 38)).alloc (.cells (rcU 1 zTx zSp zSp false 0 0 n0 n0 n0 n0) 38)):=by go_grown
 have S0:XSt w g A n c l 38 zRec w.heap.size (w.heap.size+1) (rcU 1 zTx zSp zSp false 0 0 n0 n0 n0 n0) s ((w.alloc (.cells zRec 38)).alloc (.cells (rcU 1 zTx zSp zSp false 0 0 n0 n0 n0 n0) 38)):=
  ⟨h.below hb0,(Blk.new _ _ _).alloc _,Blk.new' _ _ (by simp),below_grown hb0 _,gl,al,Nat.le_refl _,Nat.lt_succ_self _⟩
 clear hb0 h
 go_enter Tryz.func66,Tryz.ntmps66
 go_wp2_with (first
  |(guard_target=~ wpList _ _ _ _ _ _;refine wpList_store_second rfl 38 _ _ rfl (rcU 1 zTx zSp zSp false 0 0 n0 n0 n0 n0) rfl rfl _ _ _ (by kernel_rfl) (by kernel_rfl) (by kernel_rfl) ?_)
  |fail)
 refine(xGState g A n c l s _ S0.rd).mono ?_
 rintro e w1 ⟨v1,v2,rfl,ok1,ok2,ok3,H1,H2,h1,hg1⟩
 have C1:=S0.call h1 hg1
 have bP:=S0.blk.lt
 generalize rSt l s=y1 at*
 obtain⟨P1,m1,d1,rfl,c1,c2,o1⟩:=H1
 obtain⟨P2,m2,d2,rfl,c3,c4,o2⟩:=H2
 have hp:put (rcU 1 zTx zSp zSp false 0 0 n0 n0 n0 n0) 17 [.int .i64 y1.1.r.id,.int .i64 y1.1.r.ep,.float .f64 y1.1.r.lo,.float .f64 y1.1.r.hi,.int .i64 y1.1.f.w,.int .i64 y1.1.f.l,.int .i64 y1.1.f.n,.int .i64 y1.1.c.w,.int .i64 y1.1.c.l,.int .i64 y1.1.c.n,.slice P1 m1 d1,.slice P2 m2 d2]=#[.int .i64 1,.int .i64 0,.int .i64 0,.int .i64 0,.int .i64 0,.int .i64 0,.int .i64 0,.int .i64 0,.int .i64 0,.int .i64 0,.bool false,.int .i64 0,.float .f64 0,.slice none 0 0,.slice none 0 0,.slice none 0 0,.slice none 0 0,.int .i64 y1.1.r.id,.int .i64 y1.1.r.ep,.float .f64 y1.1.r.lo,.float .f64 y1.1.r.hi,.int .i64 y1.1.f.w,.int .i64 y1.1.f.l,.int .i64 y1.1.f.n,.int .i64 y1.1.c.w,.int .i64 y1.1.c.l,.int .i64 y1.1.c.n,.slice P1 m1 d1,.slice P2 m2 d2]:=by simp only[put,List.setIfInBounds_toArray,List.set_cons_succ,List.set_cons_zero]
 have S1:=C1.puts [.int .i64 y1.1.r.id,.int .i64 y1.1.r.ep,.float .f64 y1.1.r.lo,.float .f64 y1.1.r.hi,.int .i64 y1.1.f.w,.int .i64 y1.1.f.l,.int .i64 y1.1.f.n,.int .i64 y1.1.c.w,.int .i64 y1.1.c.l,.int .i64 y1.1.c.n,.slice P1 m1 d1,.slice P2 m2 d2] 17
 rw[hp]at S1
 clear hp
 clear h1 hg1 S0
 go_upto_region 43 with (first
  |(guard_target=~ wpList _ _ _ _ _ _;refine wpList_store_mid rfl 36 _ _ rfl (w.heap.size+1) 17 #[.int .i64 y1.1.r.id,.int .i64 y1.1.r.ep,.float .f64 y1.1.r.lo,.float .f64 y1.1.r.hi,.int .i64 y1.1.f.w,.int .i64 y1.1.f.l,.int .i64 y1.1.f.n,.int .i64 y1.1.c.w,.int .i64 y1.1.c.l,.int .i64 y1.1.c.n,.slice P1 m1 d1,.slice P2 m2 d2] (by kernel_rfl) (by kernel_rfl) (there_of C1.blk (by simp)) (by kernel_rfl) (by kernel_rfl) ?_
    obtain⟨W1,hW1⟩:∃W1:World,W1=w1.setCells (w.heap.size+1) 17 [.int .i64 y1.1.r.id,.int .i64 y1.1.r.ep,.float .f64 y1.1.r.lo,.float .f64 y1.1.r.hi,.int .i64 y1.1.f.w,.int .i64 y1.1.f.l,.int .i64 y1.1.f.n,.int .i64 y1.1.c.w,.int .i64 y1.1.c.l,.int .i64 y1.1.c.n,.slice P1 m1 d1,.slice P2 m2 d2]:=⟨_,rfl⟩
    have hW1':W1=w1.setCells (w.heap.size+1) 17 (Array.toList #[.int .i64 y1.1.r.id,.int .i64 y1.1.r.ep,.float .f64 y1.1.r.lo,.float .f64 y1.1.r.hi,.int .i64 y1.1.f.w,.int .i64 y1.1.f.l,.int .i64 y1.1.f.n,.int .i64 y1.1.c.w,.int .i64 y1.1.c.l,.int .i64 y1.1.c.n,.slice P1 m1 d1,.slice P2 m2 d2]):=hW1
    rw[←hW1'])
  |fail)
 rw[←hW1]at S1
 have BB:=Lib.hid S1.blk
 have BX:=Lib.hid S1.box
 obtain⟨b1,b2,b3⟩:=S1.tell #[.int .i64 1,.int .i64 0,.int .i64 0,.int .i64 0,.int .i64 0,.int .i64 0,.int .i64 0,.int .i64 0,.int .i64 0,.int .i64 0,.bool false,.int .i64 0,.float .f64 0,.slice none 0 0,.slice none 0 0,.slice none 0 0,.slice none 0 0,.int .i64 y1.1.r.id,.int .i64 y1.1.r.ep,.float .f64 y1.1.r.lo,.float .f64 y1.1.r.hi,.int .i64 y1.1.f.w,.int .i64 y1.1.f.l,.int .i64 y1.1.f.n,.int .i64 y1.1.c.w,.int .i64 y1.1.c.l,.int .i64 y1.1.c.n,.slice P1 m1 d1,.slice P2 m2 d2]
 have hz1:W1.heap.size=w1.heap.size:=by rw[hW1];exact setCells_sizeU _ _ _ _
 have hke:∀k,w.heap.size+1<k→W1.heap[k]?=w1.heap[k]?:=fun k hk=>by rw[hW1];exact heap_setCells_ne _ _ _ _ _ (by omega)
 have sl1:=o1.carry HsRel.kept HsRel.mono (W':=W1.setRow w.heap.size #[.int .i64 1,.int .i64 0,.int .i64 0,.int .i64 0,.int .i64 0,.int .i64 0,.int .i64 0,.int .i64 0,.int .i64 0,.int .i64 0,.bool false,.int .i64 0,.float .f64 0,.slice none 0 0,.slice none 0 0,.slice none 0 0,.slice none 0 0,.int .i64 y1.1.r.id,.int .i64 y1.1.r.ep,.float .f64 y1.1.r.lo,.float .f64 y1.1.r.hi,.int .i64 y1.1.f.w,.int .i64 y1.1.f.l,.int .i64 y1.1.f.n,.int .i64 y1.1.c.w,.int .i64 y1.1.c.l,.int .i64 y1.1.c.n,.slice P1 m1 d1,.slice P2 m2 d2]) (a':=w.heap.size) (b':=(W1.setRow w.heap.size #[.int .i64 1,.int .i64 0,.int .i64 0,.int .i64 0,.int .i64 0,.int .i64 0,.int .i64 0,.int .i64 0,.int .i64 0,.int .i64 0,.bool false,.int .i64 0,.float .f64 0,.slice none 0 0,.slice none 0 0,.slice none 0 0,.slice none 0 0,.int .i64 y1.1.r.id,.int .i64 y1.1.r.ep,.float .f64 y1.1.r.lo,.float .f64 y1.1.r.hi,.int .i64 y1.1.f.w,.int .i64 y1.1.f.l,.int .i64 y1.1.f.n,.int .i64 y1.1.c.w,.int .i64 y1.1.c.l,.int .i64 y1.1.c.n,.slice P1 m1 d1,.slice P2 m2 d2]).heap.size) (by omega) (by simp;omega) (fun k h1 h2=>(setRow_other _ _ _ _ (by omega)).trans (hke k (by omega))) (N':=(W1.setRow w.heap.size #[.int .i64 1,.int .i64 0,.int .i64 0,.int .i64 0,.int .i64 0,.int .i64 0,.int .i64 0,.int .i64 0,.int .i64 0,.int .i64 0,.bool false,.int .i64 0,.float .f64 0,.slice none 0 0,.slice none 0 0,.slice none 0 0,.slice none 0 0,.int .i64 y1.1.r.id,.int .i64 y1.1.r.ep,.float .f64 y1.1.r.lo,.float .f64 y1.1.r.hi,.int .i64 y1.1.f.w,.int .i64 y1.1.f.l,.int .i64 y1.1.f.n,.int .i64 y1.1.c.w,.int .i64 y1.1.c.l,.int .i64 y1.1.c.n,.slice P1 m1 d1,.slice P2 m2 d2]).heap.size) (by simp;omega)
 have sl2:=o2.carry PnRel.kept PnRel.mono (W':=W1.setRow w.heap.size #[.int .i64 1,.int .i64 0,.int .i64 0,.int .i64 0,.int .i64 0,.int .i64 0,.int .i64 0,.int .i64 0,.int .i64 0,.int .i64 0,.bool false,.int .i64 0,.float .f64 0,.slice none 0 0,.slice none 0 0,.slice none 0 0,.slice none 0 0,.int .i64 y1.1.r.id,.int .i64 y1.1.r.ep,.float .f64 y1.1.r.lo,.float .f64 y1.1.r.hi,.int .i64 y1.1.f.w,.int .i64 y1.1.f.l,.int .i64 y1.1.f.n,.int .i64 y1.1.c.w,.int .i64 y1.1.c.l,.int .i64 y1.1.c.n,.slice P1 m1 d1,.slice P2 m2 d2]) (a':=w.heap.size) (b':=(W1.setRow w.heap.size #[.int .i64 1,.int .i64 0,.int .i64 0,.int .i64 0,.int .i64 0,.int .i64 0,.int .i64 0,.int .i64 0,.int .i64 0,.int .i64 0,.bool false,.int .i64 0,.float .f64 0,.slice none 0 0,.slice none 0 0,.slice none 0 0,.slice none 0 0,.int .i64 y1.1.r.id,.int .i64 y1.1.r.ep,.float .f64 y1.1.r.lo,.float .f64 y1.1.r.hi,.int .i64 y1.1.f.w,.int .i64 y1.1.f.l,.int .i64 y1.1.f.n,.int .i64 y1.1.c.w,.int .i64 y1.1.c.l,.int .i64 y1.1.c.n,.slice P1 m1 d1,.slice P2 m2 d2]).heap.size) (by omega) (by simp;omega) (fun k h1 h2=>(setRow_other _ _ _ _ (by omega)).trans (hke k (by omega))) (N':=(W1.setRow w.heap.size #[.int .i64 1,.int .i64 0,.int .i64 0,.int .i64 0,.int .i64 0,.int .i64 0,.int .i64 0,.int .i64 0,.int .i64 0,.int .i64 0,.bool false,.int .i64 0,.float .f64 0,.slice none 0 0,.slice none 0 0,.slice none 0 0,.slice none 0 0,.int .i64 y1.1.r.id,.int .i64 y1.1.r.ep,.float .f64 y1.1.r.lo,.float .f64 y1.1.r.hi,.int .i64 y1.1.f.w,.int .i64 y1.1.f.l,.int .i64 y1.1.f.n,.int .i64 y1.1.c.w,.int .i64 y1.1.c.l,.int .i64 y1.1.c.n,.slice P1 m1 d1,.slice P2 m2 d2]).heap.size) (by simp;omega)
 have okF:Rc.ok ⟨1,zTx,zSp,zSp,false,0,0,[],[],[],[],y1.1⟩:=⟨(by unfold i64ok;omega:i64ok 1),zTx_ok,zSp_ok,zSp_ok,i64z,(by show 0<_;omega),ok1,ok2,ok3⟩
 have HB1:=Lib.hid b1
 clear b1
 go_wp2_with (first
  |(guard_target=~ wpList _ _ _ _ _ _;refine wpList_load_row rfl 38 _ rfl (w.heap.size+1) (by kernel_rfl) _ _ (0,0) _ BB.out rfl rfl (by kernel_rfl) ?_)
  |(guard_target=~ wpList _ _ _ _ _ _;refine wpList_store_row rfl 38 _ _ rfl w.heap.size #[.int .i64 1,.int .i64 0,.int .i64 0,.int .i64 0,.int .i64 0,.int .i64 0,.int .i64 0,.int .i64 0,.int .i64 0,.int .i64 0,.bool false,.int .i64 0,.float .f64 0,.slice none 0 0,.slice none 0 0,.slice none 0 0,.slice none 0 0,.int .i64 y1.1.r.id,.int .i64 y1.1.r.ep,.float .f64 y1.1.r.lo,.float .f64 y1.1.r.hi,.int .i64 y1.1.f.w,.int .i64 y1.1.f.l,.int .i64 y1.1.f.n,.int .i64 y1.1.c.w,.int .i64 y1.1.c.l,.int .i64 y1.1.c.n,.slice P1 m1 d1,.slice P2 m2 d2] (by kernel_rfl) (by kernel_rfl) _ _ BX.out (by kernel_rfl) (by kernel_rfl) (by kernel_rfl) ?_;refine ‹∀(a:Act) (w:World),Code.wp _ Code.ret _ a w→_› _ _ ?_;refine wp_ret ?_;refine post_cell (by rfl) (by rfl) HB1.out Tryz.underlying38 (by rfl) (by kernel_rfl) ?_;exact⟨⟨Hd.nil,Hd.nil,Hd.nil,Hd.nil,⟨P1,m1,d1⟩,⟨P2,m2,d2⟩⟩,rfl,okF,⟨capZ,capZ,capZ,capZ,⟨c1,c2⟩,⟨c3,c4⟩⟩,⟨Sl.nil,Sl.nil,Sl.nil,Sl.nil,sl1,sl2,(Nat.zero_le _),(Nat.zero_le _),(Nat.zero_le _),(Nat.zero_le _),(Nat.le_trans c1 c2),(Nat.le_trans c3 c4)⟩,b2,b3⟩)
  |fail)
end Go.Proofs.YthdmanadhbpogaaGreat
