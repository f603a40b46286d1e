/- The walks of Point and Mid, of the program and of the document's answer. -/
import Derived.Test.YthdmanadhbpogaaGreatDaad
import Derived.Test.YthdmanadhbpogaaGreatDabe
import Derived.Test.YthdmanadhbpogaaGreatDabi
import Derived.Test.YthdmanadhbpogaaGreatDaca
namespace Go.Proofs.YthdmanadhbpogaaGreat
open Go.RowKit Fl
theorem ret_fi {a b:Nat} {x y:Int} (h:a=b) (h':x=y):Ending.returned (.tuple #[.float .f64 a,.int .i64 x])=.returned (.tuple #[.float .f64 b,.int .i64 y]):=by rw[h,h']
theorem pv_yes {a:Nat} (h:ptB a=true):pointV a=a:=by unfold pointV;rw[if_pos h]
theorem pe_yes {a:Nat} (h:ptB a=true):pointE a=0:=by unfold pointE;rw[h];rfl
theorem pv_no {a:Nat} (h:ptB a=false):pointV a=0:=by unfold pointV;rw[h];rfl
theorem pe_no {a:Nat} (h:ptB a=false) (h':¬a=9223372036854775808):pointE a=1:=by unfold pointE;rw[h,decide_eq_false h'];rfl
set_option maxHeartbeats 400000 in
theorem point (a:Nat) (w:World) (ha:a<18446744073709551616):
 Calls Tryz.prog 93 #[.float .f64 a] w fun e w'=>e=.returned (.tuple #[.float .f64 (pointV a),.int .i64 (pointE a)])∧w=w':=by
 have h4:=class4 a ha
 generalize hk:classI (canonB a)=k at h4
 have H:=Lib.hid hk;clear hk
 by_cases hz:a=9223372036854775808
 · subst hz
   have g4:(k==4)=true:=by rw[h4];rfl
   clear h4
   go_enter Tryz.func93,Tryz.ntmps93
   go_wp2_with ((with_reducible refine(class_any _ _).mono ?_);rw[H.out];rintro e w' ⟨rfl,rfl⟩)
   go_ret2
   exact⟨rfl,rfl⟩
 · have g4:(k==4)=false:=by rw[h4];exact decide_eq_false hz
   clear h4
   have HZ:=Lib.hid hz;clear hz
   rcases Bool.eq_false_or_eq_true (ptB a) with h1|h1
   all_goals
    have H1:=Lib.hid h1
    go_enter Tryz.func93,Tryz.ntmps93
    go_wp2_with (first|((with_reducible refine(class_any _ _).mono ?_);rw[H.out];rintro e w' ⟨rfl,rfl⟩)|((with_reducible refine(point_any _ _ ha).mono ?_);rintro e w' ⟨rfl,rfl⟩))
    go_ret2
   · exact⟨ret_fi (pv_yes H1.out).symm (pe_yes H1.out).symm,rfl⟩
   · exact⟨ret_fi (pv_no H1.out).symm (pe_no H1.out HZ.out).symm,rfl⟩
end Go.Proofs.YthdmanadhbpogaaGreat
/- The walks of recs' ranges, moment, decided, Apply. -/
namespace Go.Proofs.YthdmanadhbpogaaGreat
set_option maxHeartbeats 4000000
set_option maxRecDepth 100000
set_option linter.unusedVariables false
open Go.RowKit Fl
attribute [local go_sem] run_store_float
theorem hmayB (s:Sp) (w:World):Calls Tryz.prog 47 #[s.val] w fun e w'=>e=.returned (.bool s.may)∧Below w.heap.size w w':=by
 refine(hmay_any s w).mono ?_
 rintro e w' ⟨rfl,rfl⟩
 exact⟨rfl,(Below.refl _ _).alloc (Nat.le_refl _) _⟩
def rangesB (n:Int):Bool:=decide (1≤n)&&decide (n≤12)
theorem ranges_any (n:Int) (w:World):Calls Tryz.prog 94 #[.int .i64 n] w fun e w'=>e=.returned (.bool (rangesB n))∧w=w':=by
 go_enter Tryz.func94,Tryz.ntmps94
 go_wp2
 all_goals go_ret
 all_goals refine⟨ret_bool ?_,rfl⟩
 all_goals unfold rangesB
 all_goals simp_all<;>omega
def Sp.mom (s:Sp):Bool:=s.may&& !s.zero
theorem moment_any (s:Sp) (w:World):Calls Tryz.prog 95 #[s.val] w fun e w'=>e=.returned (.bool s.mom)∧Below w.heap.size w w':=by
 have z1:=fun w=>zero_run s w
 have z2:∀w,(binOp .neq 25 (.agg #[.int .i64 s.w,.int .i64 s.l,.int .i64 s.n]) (.agg #[.int .i64 0,.int .i64 0,.int .i64 0])).run Tryz.prog w=.ok (.bool (!s.zero)) w:=fun w=>by simp[go_sem,z1]
 have hM:=fun w=>hmayB s w
 have HZ:=Lib.hid (show s.mom=(s.may&& !s.zero) from rfl)
 have hX:Below w.heap.size w (w.alloc (.cells s.arr 25)):=by go_grown
 have B0:=Blk.new w 25 s.arr
 generalize s.may=b1 at*
 generalize s.zero=b2 at*
 go_enter Tryz.func95,Tryz.ntmps95
 go_wp2_with ((with_reducible refine(hM _).mono ?_);rintro e w1 ⟨rfl,hb1⟩;obtain⟨g1,x0,x1,x2⟩:=(B0.below hb1 B0.lt).three)
 all_goals go_ret
 all_goals refine⟨ret_bool ?_,hX.trans (hb1.mono hX.size)⟩
 all_goals rw[HZ.out]
 all_goals simp_all
def decB (c:Bool) (s:Sp):Bool:=if c then s.mom else s.zero
theorem decided_any (c:Bool) (s:Sp) (w:World):Calls Tryz.prog 92 #[.bool c,s.val] w fun e w'=>e=.returned (.bool (decB c s))∧Below w.heap.size w w':=by
 have z1:=fun w=>zero_run s w
 have hM:=fun w=>moment_any s w
 have hX:Below w.heap.size w (w.alloc (.cells s.arr 25)):=by go_grown
 have HZ:=Lib.hid (show decB c s=(if c then s.mom else s.zero) from rfl)
 generalize s.mom=b1 at*
 generalize s.zero=b2 at*
 cases c
 · go_enter Tryz.func92,Tryz.ntmps92
   go_wp2
   all_goals go_ret
   exact⟨ret_bool (by rw[HZ.out];rfl),hX⟩
 · go_enter Tryz.func92,Tryz.ntmps92
   go_wp2_with ((with_reducible refine(hM _).mono ?_);rintro e w1 ⟨rfl,hb1⟩)
   all_goals go_ret
   exact⟨ret_bool (by rw[HZ.out];rfl),hX.trans (hb1.mono hX.size)⟩
def applyB (pv s:Sp) (t:Tx) (l:List Wt):Bool:=pv.may&&decide (pv.cmp s<0)&&decide (0<l.length)&&(pendE ⟨t,s,[],l⟩==0)
theorem apply_any (pv s:Sp) (t:Tx) (A:Option Addr) (n c:Nat) (l:List Wt) (w:World) (h:Sl WtRel 4 w w.heap.size A n l) (hn:n≤1000000):
 Calls Tryz.prog 96 #[pv.val,s.val,t.val,.slice A n c] w fun e w'=>e=.returned (.bool (applyB pv s t l))∧Below w.heap.size w w':=by
 have hM:=fun w=>hmayB pv w
 have hC:=fun w=>cmp_any pv s w
 have hP:=fun w' (hb:Below w.heap.size w w')=>pend_any ⟨t,s,[],l⟩ none A 0 n 0 c w' Sl.nil ((h.below WtRel.kept hb).more WtRel.kept hb.size) (Nat.zero_le _) hn
 have HZ:=Lib.hid (show applyB pv s t l=(pv.may&&decide (pv.cmp s<0)&&decide (0<n)&&(pendE ⟨t,s,[],l⟩==0)) by unfold applyB;rw[h.1])
 have hX:Below w.heap.size w (((w.alloc (.cells pv.arr 25)).alloc (.cells s.arr 25)).alloc (.cells #[.int .i64 t.c,.int .i64 t.l,.int .i64 t.s] 23)):=by go_grown
 have B0:=((Blk.new w 25 pv.arr).alloc (.cells s.arr 25)).alloc (.cells #[.int .i64 t.c,.int .i64 t.l,.int .i64 t.s] 23)
 have B1:=(Blk.new' (w:=w.alloc (.cells pv.arr 25)) (g:=w.heap.size+1) 25 s.arr (by simp)).alloc (.cells #[.int .i64 t.c,.int .i64 t.l,.int .i64 t.s] 23)
 have B2:=Blk.new' (w:=(w.alloc (.cells pv.arr 25)).alloc (.cells s.arr 25)) (g:=w.heap.size+1+1) 23 #[.int .i64 t.c,.int .i64 t.l,.int .i64 t.s] (by simp)
 clear h
 generalize pv.may=b1 at*
 generalize pv.cmp s=z at*
 generalize pendE ⟨t,s,[],l⟩=p at*
 go_enter Tryz.func96,Tryz.ntmps96
 go_wp2_with (first
  |((with_reducible refine(hM _).mono ?_);rintro e w1 ⟨rfl,hb1⟩
    have C0:=B0.below hb1 B0.lt
    have C1:=B1.below hb1 B1.lt
    have C2:=B2.below hb1 B2.lt
    have hY:=hX.trans (hb1.mono hX.size)
    obtain⟨g0,x0,x1,x2⟩:=C0.three
    obtain⟨g1,y0,y1,y2⟩:=C1.three
    obtain⟨g2,t0,t1,t2⟩:=C2.three)
  |((with_reducible refine(hC _).mono ?_);rintro e w2 ⟨rfl,hb2⟩
    have D1:=C1.below hb2 C1.lt
    have D2:=C2.below hb2 C2.lt
    have hZ:=hY.trans (hb2.mono hY.size)
    obtain⟨k1,u0,u1,u2⟩:=D1.three
    obtain⟨k2,v0,v1,v2⟩:=D2.three)
  |((with_reducible refine(hP _ hZ).mono ?_);rintro e w3 ⟨rfl,hb3⟩))
 all_goals go_ret
 all_goals refine⟨ret_bool ?_,by first|exact hZ.trans (hb3.mono hZ.size)|exact hZ|exact hY⟩
 all_goals rw[HZ.out]
 all_goals simp_all<;>omega
end Go.Proofs.YthdmanadhbpogaaGreat
