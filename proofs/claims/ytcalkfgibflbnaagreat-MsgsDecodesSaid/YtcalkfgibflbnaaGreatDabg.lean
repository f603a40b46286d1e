/- The walks of Point and Mid, of the program and of the document's answer. -/
import Derived.Test.YtcalkfgibflbnaaGreatDaba
import Derived.Test.YtcalkfgibflbnaaGreatDabb
import Derived.Test.YtcalkfgibflbnaaGreatDabc
import Derived.Test.YtcalkfgibflbnaaGreatDabf
namespace Go.Proofs.YtcalkfgibflbnaaGreat
open Go.RowKit Fl
theorem ret_fi {a b:Nat} {x y:Int} (h:a=b) (h':x=y):Ending.returned (.tuple #[.float .f64 a,.int .i64 x])=.returned (.tuple #[.float .f64 b,.int .i64 y]):=by rw[h,h']
theorem pv_yes {a:Nat} (h:ptB a=true):pointV a=a:=by unfold pointV;rw[if_pos h]
theorem pe_yes {a:Nat} (h:ptB a=true):pointE a=0:=by unfold pointE;rw[h];rfl
theorem pv_no {a:Nat} (h:ptB a=false):pointV a=0:=by unfold pointV;rw[h];rfl
theorem pe_no {a:Nat} (h:ptB a=false) (h':¬a=9223372036854775808):pointE a=1:=by unfold pointE;rw[h,decide_eq_false h'];rfl
set_option maxHeartbeats 400000 in
theorem point (a:Nat) (w:World) (ha:a<18446744073709551616):
 Calls Tryz.prog 225 #[.float .f64 a] w fun e w'=>e=.returned (.tuple #[.float .f64 (pointV a),.int .i64 (pointE a)])∧w=w':=by
 have h4:=class4 a ha
 generalize hk:classI (canonB a)=k at h4
 have H:=Lib.hid hk;clear hk
 by_cases hz:a=9223372036854775808
 · subst hz
   have g4:(k==4)=true:=by rw[h4];rfl
   clear h4
   go_enter Tryz.func225,Tryz.ntmps225
   go_wp2_with ((with_reducible refine(class_any _ _).mono ?_);rw[H.out];rintro e w' ⟨rfl,rfl⟩)
   go_ret2
   exact⟨rfl,rfl⟩
 · have g4:(k==4)=false:=by rw[h4];exact decide_eq_false hz
   clear h4
   have HZ:=Lib.hid hz;clear hz
   rcases Bool.eq_false_or_eq_true (ptB a) with h1|h1
   all_goals
    have H1:=Lib.hid h1
    go_enter Tryz.func225,Tryz.ntmps225
    go_wp2_with (first|((with_reducible refine(class_any _ _).mono ?_);rw[H.out];rintro e w' ⟨rfl,rfl⟩)|((with_reducible refine(point_any _ _ ha).mono ?_);rintro e w' ⟨rfl,rfl⟩))
    go_ret2
   · exact⟨ret_fi (pv_yes H1.out).symm (pe_yes H1.out).symm,rfl⟩
   · exact⟨ret_fi (pv_no H1.out).symm (pe_no H1.out HZ.out).symm,rfl⟩
end Go.Proofs.YtcalkfgibflbnaaGreat
namespace Go.Proofs.YtcalkfgibflbnaaGreat
set_option maxHeartbeats 4000000
set_option maxRecDepth 100000
set_option linter.unusedVariables false
open Go.RowKit Fl
attribute [local go_sem] run_store_float
theorem hmayB (s:Sp) (w:World):Calls Tryz.prog 60 #[s.val] w fun e w'=>e=.returned (.bool s.may)∧Below w.heap.size w w':=by
 refine(hmay_any s w).mono ?_
 rintro e w' ⟨rfl,rfl⟩
 exact⟨rfl,(Below.refl _ _).alloc (Nat.le_refl _) _⟩
def rangesB (n:Int):Bool:=decide (1≤n)&&decide (n≤12)
theorem ranges_any (n:Int) (w:World):Calls Tryz.prog 226 #[.int .i64 n] w fun e w'=>e=.returned (.bool (rangesB n))∧w=w':=by
 go_enter Tryz.func226,Tryz.ntmps226
 go_wp2
 all_goals go_ret
 all_goals refine⟨ret_bool ?_,rfl⟩
 all_goals unfold rangesB
 all_goals simp_all<;>omega
def Sp.mom (s:Sp):Bool:=s.may&& !s.zero
theorem moment_any (s:Sp) (w:World):Calls Tryz.prog 227 #[s.val] w fun e w'=>e=.returned (.bool s.mom)∧Below w.heap.size w w':=by
 have z1:=fun w=>zero_run s w
 have z2:∀w,(binOp .neq 26 (.agg #[.int .i64 s.w,.int .i64 s.l,.int .i64 s.n]) (.agg #[.int .i64 0,.int .i64 0,.int .i64 0])).run Tryz.prog w=.ok (.bool (!s.zero)) w:=fun w=>by simp[go_sem,z1]
 have hM:=fun w=>hmayB s w
 have HZ:=Lib.hid (show s.mom=(s.may&& !s.zero) from rfl)
 have hX:Below w.heap.size w (w.alloc (.cells s.arr 26)):=by go_grown
 have B0:=Blk.new w 26 s.arr
 generalize s.may=b1 at*
 generalize s.zero=b2 at*
 go_enter Tryz.func227,Tryz.ntmps227
 go_wp2_with ((with_reducible refine(hM _).mono ?_);rintro e w1 ⟨rfl,hb1⟩;obtain⟨g1,x0,x1,x2⟩:=(B0.below hb1 B0.lt).three)
 all_goals go_ret
 all_goals refine⟨ret_bool ?_,hX.trans (hb1.mono hX.size)⟩
 all_goals rw[HZ.out]
 all_goals simp_all
def decB (c:Bool) (s:Sp):Bool:=if c then s.mom else s.zero
theorem decided_any (c:Bool) (s:Sp) (w:World):Calls Tryz.prog 224 #[.bool c,s.val] w fun e w'=>e=.returned (.bool (decB c s))∧Below w.heap.size w w':=by
 have z1:=fun w=>zero_run s w
 have hM:=fun w=>moment_any s w
 have hX:Below w.heap.size w (w.alloc (.cells s.arr 26)):=by go_grown
 have HZ:=Lib.hid (show decB c s=(if c then s.mom else s.zero) from rfl)
 generalize s.mom=b1 at*
 generalize s.zero=b2 at*
 cases c
 · go_enter Tryz.func224,Tryz.ntmps224
   go_wp2
   all_goals go_ret
   exact⟨ret_bool (by rw[HZ.out];rfl),hX⟩
 · go_enter Tryz.func224,Tryz.ntmps224
   go_wp2_with ((with_reducible refine(hM _).mono ?_);rintro e w1 ⟨rfl,hb1⟩)
   all_goals go_ret
   exact⟨ret_bool (by rw[HZ.out];rfl),hX.trans (hb1.mono hX.size)⟩
def applyB (pv s:Sp) (t:Tx) (l:List Wt):Bool:=pv.may&&decide (pv.cmp s<0)&&decide (0<l.length)&&(pendE ⟨t,s,[],l⟩==0)
theorem apply_any (pv s:Sp) (t:Tx) (A:Option Addr) (n c:Nat) (l:List Wt) (w:World) (h:Sl WtRel 4 w w.heap.size A n l) (hn:n≤1000000):
 Calls Tryz.prog 63 #[pv.val,s.val,t.val,.slice A n c] w fun e w'=>e=.returned (.bool (applyB pv s t l))∧Below w.heap.size w w':=by
 have hM:=fun w=>hmayB pv w
 have hC:=fun w=>cmp_any pv s w
 have hP:=fun w' (hb:Below w.heap.size w w')=>pend_any ⟨t,s,[],l⟩ none A 0 n 0 c w' Sl.nil ((h.below WtRel.kept hb).more WtRel.kept hb.size) (Nat.zero_le _) hn
 have HZ:=Lib.hid (show applyB pv s t l=(pv.may&&decide (pv.cmp s<0)&&decide (0<n)&&(pendE ⟨t,s,[],l⟩==0)) by unfold applyB;rw[h.1])
 have hX:Below w.heap.size w (((w.alloc (.cells pv.arr 26)).alloc (.cells s.arr 26)).alloc (.cells #[.int .i64 t.c,.int .i64 t.l,.int .i64 t.s] 23)):=by go_grown
 have B0:=((Blk.new w 26 pv.arr).alloc (.cells s.arr 26)).alloc (.cells #[.int .i64 t.c,.int .i64 t.l,.int .i64 t.s] 23)
 have B1:=(Blk.new' (w:=w.alloc (.cells pv.arr 26)) (g:=w.heap.size+1) 26 s.arr (by simp)).alloc (.cells #[.int .i64 t.c,.int .i64 t.l,.int .i64 t.s] 23)
 have B2:=Blk.new' (w:=(w.alloc (.cells pv.arr 26)).alloc (.cells s.arr 26)) (g:=w.heap.size+1+1) 23 #[.int .i64 t.c,.int .i64 t.l,.int .i64 t.s] (by simp)
 clear h
 generalize pv.may=b1 at*
 generalize pv.cmp s=z at*
 generalize pendE ⟨t,s,[],l⟩=p at*
 go_enter Tryz.func63,Tryz.ntmps63
 go_wp2_with (first
  |((with_reducible refine(hM _).mono ?_);rintro e w1 ⟨rfl,hb1⟩
    have C0:=B0.below hb1 B0.lt
    have C1:=B1.below hb1 B1.lt
    have C2:=B2.below hb1 B2.lt
    have hY:=hX.trans (hb1.mono hX.size)
    obtain⟨g0,x0,x1,x2⟩:=C0.three
    obtain⟨g1,y0,y1,y2⟩:=C1.three
    obtain⟨g2,t0,t1,t2⟩:=C2.three)
  |((with_reducible refine(hC _).mono ?_);rintro e w2 ⟨rfl,hb2⟩
    have D1:=C1.below hb2 C1.lt
    have D2:=C2.below hb2 C2.lt
    have hZ:=hY.trans (hb2.mono hY.size)
    obtain⟨k1,u0,u1,u2⟩:=D1.three
    obtain⟨k2,v0,v1,v2⟩:=D2.three)
  |((with_reducible refine(hP _ hZ).mono ?_);rintro e w3 ⟨rfl,hb3⟩))
 all_goals go_ret
 all_goals refine⟨ret_bool ?_,by first|exact hZ.trans (hb3.mono hZ.size)|exact hZ|exact hY⟩
 all_goals rw[HZ.out]
 all_goals simp_all<;>omega
structure RcSm (r:Rc) (h:Hds):Prop where
 a:h.a.n≤1000000
 b:h.b.n≤1000000
 c:h.c.n≤1000000
 d:h.d.n≤1000000
 h:SmallH r.st.h
 p:SmallP r.st.p
def fieldsB (r:Rc):Bool:=
 if r.k=1 then (mayS r.st) else
 if r.k=2 then (decide (0≤r.n)&&decide (r.n≤281474976710656)) else
 if r.k=3 then ((pendE ⟨r.t,r.s,r.rd,r.wr⟩==0)&&partsB r.ps) else
 if r.k=4 then (r.t.may&&decB r.cm r.s) else
 if r.k=5 then r.s.may else
 if r.k=6 then ((pointE r.pt==0)&&fgt (pointV r.pt) 0&&flt (pointV r.pt) 4607182418800017408&&rangesB r.n&&r.s.may) else
 if r.k=7 then (rangesB r.n) else
 if r.k=8 then (decide (1≤r.n)) else
 if r.k=9 then (r.t.may&&r.s.mom&&partsB r.ps) else
 if r.k=10 then r.t.may else
 if r.k=11 then (applyB r.pv r.s r.t r.wr) else
 if r.k=12 then (r.s.may&&prsB r.pr) else
 false
theorem fields_1 (r:Rc) (h:Hds) (w:World) (hk:r.k=1) (ok:r.ok) (i:RcIn w r h) (sm:RcSm r h):
 Calls Tryz.prog 199 #[.agg (r.vals h)] w fun e w'=>e=.returned (.bool (mayS r.st))∧Below w.heap.size w w':=by
 obtain⟨k,t,s,pv,cm,n,pt,rd,wr,ps,pr,st⟩:=r
 change k=1 at hk
 subst hk
 have hS:=fun w' (hb:Below w.heap.size w w')=>stateMay_any st h.e.A h.f.A h.e.n h.f.n h.e.c h.f.c w' ok.rg (i.below hb).hs (i.below hb).pn sm.h sm.p
 have hX:Below w.heap.size w (w.alloc (.cells (Rc.vals ⟨1,t,s,pv,cm,n,pt,rd,wr,ps,pr,st⟩ h) 69)):=by go_grown
 have B0:Blk (w.alloc (.cells (Rc.vals ⟨1,t,s,pv,cm,n,pt,rd,wr,ps,pr,st⟩ h) 69)) w.heap.size 69 (Rc.vals ⟨1,t,s,pv,cm,n,pt,rd,wr,ps,pr,st⟩ h):=Blk.new _ _ _
 have HV:=Lib.hid (show (mayS st)=(mayS st) from rfl)
 clear ok i sm
 generalize hg0:mayS st=g0 at*
 clear hg0
 go_enter Tryz.func199,Tryz.ntmps199
 go_wp2_with (first
  |((with_reducible refine(hS _ hX).mono ?_);rintro e w1 ⟨rfl,hb1⟩
    have hY:=hX.trans (hb1.mono hX.size)))
 all_goals go_ret
 all_goals refine⟨ret_bool ?_,by first|exact hY|exact hX⟩
 all_goals first|rfl|(simp_all;done)|(simp_all;omega)
theorem fields_2 (r:Rc) (h:Hds) (w:World) (hk:r.k=2) (ok:r.ok) (i:RcIn w r h) (sm:RcSm r h):
 Calls Tryz.prog 199 #[.agg (r.vals h)] w fun e w'=>e=.returned (.bool (decide (0≤r.n)&&decide (r.n≤281474976710656)))∧Below w.heap.size w w':=by
 obtain⟨k,t,s,pv,cm,n,pt,rd,wr,ps,pr,st⟩:=r
 change k=2 at hk
 subst hk
 have hX:Below w.heap.size w (w.alloc (.cells (Rc.vals ⟨2,t,s,pv,cm,n,pt,rd,wr,ps,pr,st⟩ h) 69)):=by go_grown
 have B0:Blk (w.alloc (.cells (Rc.vals ⟨2,t,s,pv,cm,n,pt,rd,wr,ps,pr,st⟩ h) 69)) w.heap.size 69 (Rc.vals ⟨2,t,s,pv,cm,n,pt,rd,wr,ps,pr,st⟩ h):=Blk.new _ _ _
 have HV:=Lib.hid (show (decide (0≤n)&&decide (n≤281474976710656))=(decide (0≤n)&&decide (n≤281474976710656)) from rfl)
 clear ok i sm
 go_enter Tryz.func199,Tryz.ntmps199
 go_wp2
 all_goals go_ret
 all_goals refine⟨ret_bool ?_,hX⟩
 all_goals first|rfl|(simp_all;done)|(simp_all;omega)
theorem fields_3 (r:Rc) (h:Hds) (w:World) (hk:r.k=3) (ok:r.ok) (i:RcIn w r h) (sm:RcSm r h):
 Calls Tryz.prog 199 #[.agg (r.vals h)] w fun e w'=>e=.returned (.bool ((pendE ⟨r.t,r.s,r.rd,r.wr⟩==0)&&partsB r.ps))∧Below w.heap.size w w':=by
 obtain⟨k,t,s,pv,cm,n,pt,rd,wr,ps,pr,st⟩:=r
 change k=3 at hk
 subst hk
 have hS:=fun w' (hb:Below w.heap.size w w')=>pend_any ⟨t,s,rd,wr⟩ h.a.A h.b.A h.a.n h.b.n h.a.c h.b.c w' (i.below hb).rd (i.below hb).wr i.na sm.b
 have hQ:=fun w' (hb:Below w.heap.size w w')=>parts_any h.c.A h.c.n h.c.c ps w' (i.below hb).ps i.nc
 have hX:Below w.heap.size w (w.alloc (.cells (Rc.vals ⟨3,t,s,pv,cm,n,pt,rd,wr,ps,pr,st⟩ h) 69)):=by go_grown
 have B0:Blk (w.alloc (.cells (Rc.vals ⟨3,t,s,pv,cm,n,pt,rd,wr,ps,pr,st⟩ h) 69)) w.heap.size 69 (Rc.vals ⟨3,t,s,pv,cm,n,pt,rd,wr,ps,pr,st⟩ h):=Blk.new _ _ _
 have HV:=Lib.hid (show ((pendE ⟨t,s,rd,wr⟩==0)&&partsB ps)=((pendE ⟨t,s,rd,wr⟩==0)&&partsB ps) from rfl)
 clear ok i sm
 generalize hg0:pendE ⟨t,s,rd,wr⟩=g0 at*
 generalize hg1:partsB ps=g1 at*
 clear hg0 hg1
 go_enter Tryz.func199,Tryz.ntmps199
 go_wp2_with (first
  |((with_reducible refine(hS _ hX).mono ?_);rintro e w1 ⟨rfl,hb1⟩
    have hY:=hX.trans (hb1.mono hX.size)
    have C0:=B0.below hb1 B0.lt
    have l0:=C0.lt
    have x0_15:=C0.cell 15
    simp only[List.getElem?_toArray,List.getElem?_cons_succ,List.getElem?_cons_zero]at x0_15)
  |((with_reducible refine(hQ _ hY).mono ?_);rintro e w2 ⟨rfl,rfl⟩))
 all_goals go_ret
 all_goals refine⟨ret_bool ?_,by first|exact hY|exact hX⟩
 all_goals first|rfl|(simp_all;done)|(simp_all;omega)
theorem fields_4 (r:Rc) (h:Hds) (w:World) (hk:r.k=4) (ok:r.ok) (i:RcIn w r h) (sm:RcSm r h):
 Calls Tryz.prog 199 #[.agg (r.vals h)] w fun e w'=>e=.returned (.bool (r.t.may&&decB r.cm r.s))∧Below w.heap.size w w':=by
 obtain⟨k,t,s,pv,cm,n,pt,rd,wr,ps,pr,st⟩:=r
 change k=4 at hk
 subst hk
 have hS:=fun w' (hb:Below w.heap.size w w')=>txnMay_any t w'
 have hQ:=fun w' (hb:Below w.heap.size w w')=>decided_any cm s w'
 have hX:Below w.heap.size w (w.alloc (.cells (Rc.vals ⟨4,t,s,pv,cm,n,pt,rd,wr,ps,pr,st⟩ h) 69)):=by go_grown
 have B0:Blk (w.alloc (.cells (Rc.vals ⟨4,t,s,pv,cm,n,pt,rd,wr,ps,pr,st⟩ h) 69)) w.heap.size 69 (Rc.vals ⟨4,t,s,pv,cm,n,pt,rd,wr,ps,pr,st⟩ h):=Blk.new _ _ _
 have HV:=Lib.hid (show (t.may&&decB cm s)=(t.may&&decB cm s) from rfl)
 clear ok i sm
 generalize hg0:t.may=g0 at*
 generalize hg1:decB cm s=g1 at*
 clear hg0 hg1
 go_enter Tryz.func199,Tryz.ntmps199
 go_wp2_with (first
  |((with_reducible refine(hS _ hX).mono ?_);rintro e w1 ⟨rfl,hb1⟩
    have hY:=hX.trans (hb1.mono hX.size)
    have C0:=B0.below hb1 B0.lt
    have l0:=C0.lt
    have x0_4:=C0.cell 4
    have x0_5:=C0.cell 5
    have x0_6:=C0.cell 6
    have x0_10:=C0.cell 10
    simp only[List.getElem?_toArray,List.getElem?_cons_succ,List.getElem?_cons_zero]at x0_4 x0_5 x0_6 x0_10)
  |((with_reducible refine(hQ _ hY).mono ?_);rintro e w2 ⟨rfl,hb2⟩
    have hZ:=hY.trans (hb2.mono hY.size)))
 all_goals go_ret
 all_goals refine⟨ret_bool ?_,by first|exact hZ|exact hY|exact hX⟩
 all_goals first|rfl|(simp_all;done)|(simp_all;omega)
theorem fields_5 (r:Rc) (h:Hds) (w:World) (hk:r.k=5) (ok:r.ok) (i:RcIn w r h) (sm:RcSm r h):
 Calls Tryz.prog 199 #[.agg (r.vals h)] w fun e w'=>e=.returned (.bool r.s.may)∧Below w.heap.size w w':=by
 obtain⟨k,t,s,pv,cm,n,pt,rd,wr,ps,pr,st⟩:=r
 change k=5 at hk
 subst hk
 have hS:=fun w' (hb:Below w.heap.size w w')=>hmayB s w'
 have hX:Below w.heap.size w (w.alloc (.cells (Rc.vals ⟨5,t,s,pv,cm,n,pt,rd,wr,ps,pr,st⟩ h) 69)):=by go_grown
 have B0:Blk (w.alloc (.cells (Rc.vals ⟨5,t,s,pv,cm,n,pt,rd,wr,ps,pr,st⟩ h) 69)) w.heap.size 69 (Rc.vals ⟨5,t,s,pv,cm,n,pt,rd,wr,ps,pr,st⟩ h):=Blk.new _ _ _
 have HV:=Lib.hid (show s.may=s.may from rfl)
 clear ok i sm
 generalize hg0:s.may=g0 at*
 clear hg0
 go_enter Tryz.func199,Tryz.ntmps199
 go_wp2_with (first
  |((with_reducible refine(hS _ hX).mono ?_);rintro e w1 ⟨rfl,hb1⟩
    have hY:=hX.trans (hb1.mono hX.size)))
 all_goals go_ret
 all_goals refine⟨ret_bool ?_,by first|exact hY|exact hX⟩
 all_goals first|rfl|(simp_all;done)|(simp_all;omega)
theorem fields_6 (r:Rc) (h:Hds) (w:World) (hk:r.k=6) (ok:r.ok) (i:RcIn w r h) (sm:RcSm r h):
 Calls Tryz.prog 199 #[.agg (r.vals h)] w fun e w'=>e=.returned (.bool ((pointE r.pt==0)&&fgt (pointV r.pt) 0&&flt (pointV r.pt) 4607182418800017408&&rangesB r.n&&r.s.may))∧Below w.heap.size w w':=by
 obtain⟨k,t,s,pv,cm,n,pt,rd,wr,ps,pr,st⟩:=r
 change k=6 at hk
 subst hk
 have hS:=fun w' (hb:Below w.heap.size w w')=>point pt w' ok.pt
 have hQ:=fun w' (hb:Below w.heap.size w w')=>ranges_any n w'
 have hR:=fun w' (hb:Below w.heap.size w w')=>hmayB s w'
 have hX:Below w.heap.size w (w.alloc (.cells (Rc.vals ⟨6,t,s,pv,cm,n,pt,rd,wr,ps,pr,st⟩ h) 69)):=by go_grown
 have B0:Blk (w.alloc (.cells (Rc.vals ⟨6,t,s,pv,cm,n,pt,rd,wr,ps,pr,st⟩ h) 69)) w.heap.size 69 (Rc.vals ⟨6,t,s,pv,cm,n,pt,rd,wr,ps,pr,st⟩ h):=Blk.new _ _ _
 have HV:=Lib.hid (show ((pointE pt==0)&&fgt (pointV pt) 0&&flt (pointV pt) 4607182418800017408&&rangesB n&&s.may)=((pointE pt==0)&&fgt (pointV pt) 0&&flt (pointV pt) 4607182418800017408&&rangesB n&&s.may) from rfl)
 clear ok i sm
 generalize hg0:rangesB n=g0 at*
 generalize hg1:s.may=g1 at*
 clear hg0 hg1
 go_enter Tryz.func199,Tryz.ntmps199
 go_wp2_with (first
  |((with_reducible refine(hS _ hX).mono ?_);rintro e w1 ⟨rfl,rfl⟩)
  |((with_reducible refine(hQ _ hX).mono ?_);rintro e w2 ⟨rfl,rfl⟩)
  |((with_reducible refine(hR _ hX).mono ?_);rintro e w3 ⟨rfl,hb3⟩
    have hW:=hX.trans (hb3.mono hX.size)))
 all_goals go_ret
 all_goals refine⟨ret_bool ?_,by first|exact hW|exact hX⟩
 all_goals first|rfl|(simp_all [fgt,flt];done)|(simp_all;omega)
theorem fields_7 (r:Rc) (h:Hds) (w:World) (hk:r.k=7) (ok:r.ok) (i:RcIn w r h) (sm:RcSm r h):
 Calls Tryz.prog 199 #[.agg (r.vals h)] w fun e w'=>e=.returned (.bool (rangesB r.n))∧Below w.heap.size w w':=by
 obtain⟨k,t,s,pv,cm,n,pt,rd,wr,ps,pr,st⟩:=r
 change k=7 at hk
 subst hk
 have hS:=fun w' (hb:Below w.heap.size w w')=>ranges_any n w'
 have hX:Below w.heap.size w (w.alloc (.cells (Rc.vals ⟨7,t,s,pv,cm,n,pt,rd,wr,ps,pr,st⟩ h) 69)):=by go_grown
 have B0:Blk (w.alloc (.cells (Rc.vals ⟨7,t,s,pv,cm,n,pt,rd,wr,ps,pr,st⟩ h) 69)) w.heap.size 69 (Rc.vals ⟨7,t,s,pv,cm,n,pt,rd,wr,ps,pr,st⟩ h):=Blk.new _ _ _
 have HV:=Lib.hid (show (rangesB n)=(rangesB n) from rfl)
 clear ok i sm
 generalize hg0:rangesB n=g0 at*
 clear hg0
 go_enter Tryz.func199,Tryz.ntmps199
 go_wp2_with (first
  |((with_reducible refine(hS _ hX).mono ?_);rintro e w1 ⟨rfl,rfl⟩))
 all_goals go_ret
 all_goals refine⟨ret_bool ?_,by first|exact hX⟩
 all_goals first|rfl|(simp_all;done)|(simp_all;omega)
theorem fields_8 (r:Rc) (h:Hds) (w:World) (hk:r.k=8) (ok:r.ok) (i:RcIn w r h) (sm:RcSm r h):
 Calls Tryz.prog 199 #[.agg (r.vals h)] w fun e w'=>e=.returned (.bool (decide (1≤r.n)))∧Below w.heap.size w w':=by
 obtain⟨k,t,s,pv,cm,n,pt,rd,wr,ps,pr,st⟩:=r
 change k=8 at hk
 subst hk
 have hX:Below w.heap.size w (w.alloc (.cells (Rc.vals ⟨8,t,s,pv,cm,n,pt,rd,wr,ps,pr,st⟩ h) 69)):=by go_grown
 have B0:Blk (w.alloc (.cells (Rc.vals ⟨8,t,s,pv,cm,n,pt,rd,wr,ps,pr,st⟩ h) 69)) w.heap.size 69 (Rc.vals ⟨8,t,s,pv,cm,n,pt,rd,wr,ps,pr,st⟩ h):=Blk.new _ _ _
 have HV:=Lib.hid (show (decide (1≤n))=(decide (1≤n)) from rfl)
 clear ok i sm
 go_enter Tryz.func199,Tryz.ntmps199
 go_wp2
 all_goals go_ret
 all_goals refine⟨ret_bool ?_,hX⟩
 all_goals first|rfl|(simp_all;done)|(simp_all;omega)
theorem fields_9 (r:Rc) (h:Hds) (w:World) (hk:r.k=9) (ok:r.ok) (i:RcIn w r h) (sm:RcSm r h):
 Calls Tryz.prog 199 #[.agg (r.vals h)] w fun e w'=>e=.returned (.bool (r.t.may&&r.s.mom&&partsB r.ps))∧Below w.heap.size w w':=by
 obtain⟨k,t,s,pv,cm,n,pt,rd,wr,ps,pr,st⟩:=r
 change k=9 at hk
 subst hk
 have hS:=fun w' (hb:Below w.heap.size w w')=>txnMay_any t w'
 have hQ:=fun w' (hb:Below w.heap.size w w')=>moment_any s w'
 have hR:=fun w' (hb:Below w.heap.size w w')=>parts_any h.c.A h.c.n h.c.c ps w' (i.below hb).ps i.nc
 have hX:Below w.heap.size w (w.alloc (.cells (Rc.vals ⟨9,t,s,pv,cm,n,pt,rd,wr,ps,pr,st⟩ h) 69)):=by go_grown
 have B0:Blk (w.alloc (.cells (Rc.vals ⟨9,t,s,pv,cm,n,pt,rd,wr,ps,pr,st⟩ h) 69)) w.heap.size 69 (Rc.vals ⟨9,t,s,pv,cm,n,pt,rd,wr,ps,pr,st⟩ h):=Blk.new _ _ _
 have HV:=Lib.hid (show (t.may&&s.mom&&partsB ps)=(t.may&&s.mom&&partsB ps) from rfl)
 clear ok i sm
 generalize hg0:t.may=g0 at*
 generalize hg1:s.mom=g1 at*
 generalize hg2:partsB ps=g2 at*
 clear hg0 hg1 hg2
 go_enter Tryz.func199,Tryz.ntmps199
 go_wp2_with (first
  |((with_reducible refine(hS _ hX).mono ?_);rintro e w1 ⟨rfl,hb1⟩
    have hY:=hX.trans (hb1.mono hX.size)
    have C0:=B0.below hb1 B0.lt
    have l0:=C0.lt
    have x0_4:=C0.cell 4
    have x0_5:=C0.cell 5
    have x0_6:=C0.cell 6
    have x0_15:=C0.cell 15
    simp only[List.getElem?_toArray,List.getElem?_cons_succ,List.getElem?_cons_zero]at x0_4 x0_5 x0_6 x0_15)
  |((with_reducible refine(hQ _ hY).mono ?_);rintro e w2 ⟨rfl,hb2⟩
    have hZ:=hY.trans (hb2.mono hY.size)
    have C1:=C0.below hb2 C0.lt
    have l1:=C1.lt
    have x1_4:=C1.cell 4
    have x1_5:=C1.cell 5
    have x1_6:=C1.cell 6
    have x1_15:=C1.cell 15
    simp only[List.getElem?_toArray,List.getElem?_cons_succ,List.getElem?_cons_zero]at x1_4 x1_5 x1_6 x1_15)
  |((with_reducible refine(hR _ hZ).mono ?_);rintro e w3 ⟨rfl,rfl⟩))
 all_goals go_ret
 all_goals refine⟨ret_bool ?_,by first|exact hZ|exact hY|exact hX⟩
 all_goals first|rfl|(simp_all;done)|(simp_all;omega)
theorem fields_10 (r:Rc) (h:Hds) (w:World) (hk:r.k=10) (ok:r.ok) (i:RcIn w r h) (sm:RcSm r h):
 Calls Tryz.prog 199 #[.agg (r.vals h)] w fun e w'=>e=.returned (.bool r.t.may)∧Below w.heap.size w w':=by
 obtain⟨k,t,s,pv,cm,n,pt,rd,wr,ps,pr,st⟩:=r
 change k=10 at hk
 subst hk
 have hS:=fun w' (hb:Below w.heap.size w w')=>txnMay_any t w'
 have hX:Below w.heap.size w (w.alloc (.cells (Rc.vals ⟨10,t,s,pv,cm,n,pt,rd,wr,ps,pr,st⟩ h) 69)):=by go_grown
 have B0:Blk (w.alloc (.cells (Rc.vals ⟨10,t,s,pv,cm,n,pt,rd,wr,ps,pr,st⟩ h) 69)) w.heap.size 69 (Rc.vals ⟨10,t,s,pv,cm,n,pt,rd,wr,ps,pr,st⟩ h):=Blk.new _ _ _
 have HV:=Lib.hid (show t.may=t.may from rfl)
 clear ok i sm
 generalize hg0:t.may=g0 at*
 clear hg0
 go_enter Tryz.func199,Tryz.ntmps199
 go_wp2_with (first
  |((with_reducible refine(hS _ hX).mono ?_);rintro e w1 ⟨rfl,hb1⟩
    have hY:=hX.trans (hb1.mono hX.size)))
 all_goals go_ret
 all_goals refine⟨ret_bool ?_,by first|exact hY|exact hX⟩
 all_goals first|rfl|(simp_all;done)|(simp_all;omega)
theorem fields_11 (r:Rc) (h:Hds) (w:World) (hk:r.k=11) (ok:r.ok) (i:RcIn w r h) (sm:RcSm r h):
 Calls Tryz.prog 199 #[.agg (r.vals h)] w fun e w'=>e=.returned (.bool (applyB r.pv r.s r.t r.wr))∧Below w.heap.size w w':=by
 obtain⟨k,t,s,pv,cm,n,pt,rd,wr,ps,pr,st⟩:=r
 change k=11 at hk
 subst hk
 have hS:=fun w' (hb:Below w.heap.size w w')=>apply_any pv s t h.b.A h.b.n h.b.c wr w' (i.below hb).wr sm.b
 have hX:Below w.heap.size w (w.alloc (.cells (Rc.vals ⟨11,t,s,pv,cm,n,pt,rd,wr,ps,pr,st⟩ h) 69)):=by go_grown
 have B0:Blk (w.alloc (.cells (Rc.vals ⟨11,t,s,pv,cm,n,pt,rd,wr,ps,pr,st⟩ h) 69)) w.heap.size 69 (Rc.vals ⟨11,t,s,pv,cm,n,pt,rd,wr,ps,pr,st⟩ h):=Blk.new _ _ _
 have HV:=Lib.hid (show (applyB pv s t wr)=(applyB pv s t wr) from rfl)
 clear ok i sm
 generalize hg0:applyB pv s t wr=g0 at*
 clear hg0
 go_enter Tryz.func199,Tryz.ntmps199
 go_wp2_with (first
  |((with_reducible refine(hS _ hX).mono ?_);rintro e w1 ⟨rfl,hb1⟩
    have hY:=hX.trans (hb1.mono hX.size)))
 all_goals go_ret
 all_goals refine⟨ret_bool ?_,by first|exact hY|exact hX⟩
 all_goals first|rfl|(simp_all;done)|(simp_all;omega)
theorem fields_12 (r:Rc) (h:Hds) (w:World) (hk:r.k=12) (ok:r.ok) (i:RcIn w r h) (sm:RcSm r h):
 Calls Tryz.prog 199 #[.agg (r.vals h)] w fun e w'=>e=.returned (.bool (r.s.may&&prsB r.pr))∧Below w.heap.size w w':=by
 obtain⟨k,t,s,pv,cm,n,pt,rd,wr,ps,pr,st⟩:=r
 change k=12 at hk
 subst hk
 have hS:=fun w' (hb:Below w.heap.size w w')=>hmayB s w'
 have hQ:=fun w' (hb:Below w.heap.size w w')=>prs_any h.d.A h.d.n h.d.c pr w' (i.below hb).pr i.nd
 have hX:Below w.heap.size w (w.alloc (.cells (Rc.vals ⟨12,t,s,pv,cm,n,pt,rd,wr,ps,pr,st⟩ h) 69)):=by go_grown
 have B0:Blk (w.alloc (.cells (Rc.vals ⟨12,t,s,pv,cm,n,pt,rd,wr,ps,pr,st⟩ h) 69)) w.heap.size 69 (Rc.vals ⟨12,t,s,pv,cm,n,pt,rd,wr,ps,pr,st⟩ h):=Blk.new _ _ _
 have HV:=Lib.hid (show (s.may&&prsB pr)=(s.may&&prsB pr) from rfl)
 clear ok i sm
 generalize hg0:s.may=g0 at*
 generalize hg1:prsB pr=g1 at*
 clear hg0 hg1
 go_enter Tryz.func199,Tryz.ntmps199
 go_wp2_with (first
  |((with_reducible refine(hS _ hX).mono ?_);rintro e w1 ⟨rfl,hb1⟩
    have hY:=hX.trans (hb1.mono hX.size)
    have C0:=B0.below hb1 B0.lt
    have l0:=C0.lt
    have x0_16:=C0.cell 16
    simp only[List.getElem?_toArray,List.getElem?_cons_succ,List.getElem?_cons_zero]at x0_16)
  |((with_reducible refine(hQ _ hY).mono ?_);rintro e w2 ⟨rfl,hb2⟩
    have hZ:=hY.trans (hb2.mono hY.size)))
 all_goals go_ret
 all_goals refine⟨ret_bool ?_,by first|exact hZ|exact hY|exact hX⟩
 all_goals first|rfl|(simp_all;done)|(simp_all;omega)
theorem fields_any (r:Rc) (h:Hds) (w:World) (hk:kindB r.k=true) (ok:r.ok) (i:RcIn w r h) (sm:RcSm r h):
 Calls Tryz.prog 199 #[.agg (r.vals h)] w fun e w'=>e=.returned (.bool (fieldsB r))∧Below w.heap.size w w':=by
 unfold kindB at hk
 rw[decide_eq_true_eq]at hk
 have hc:r.k=1∨r.k=2∨r.k=3∨r.k=4∨r.k=5∨r.k=6∨r.k=7∨r.k=8∨r.k=9∨r.k=10∨r.k=11∨r.k=12:=by omega
 rcases hc with e|e|e|e|e|e|e|e|e|e|e|e
 · have e1:fieldsB r=(mayS r.st):=by unfold fieldsB;simp only[e];rfl
   rw[e1];exact fields_1 r h w e ok i sm
 · have e1:fieldsB r=(decide (0≤r.n)&&decide (r.n≤281474976710656)):=by unfold fieldsB;simp only[e];rfl
   rw[e1];exact fields_2 r h w e ok i sm
 · have e1:fieldsB r=((pendE ⟨r.t,r.s,r.rd,r.wr⟩==0)&&partsB r.ps):=by unfold fieldsB;simp only[e];rfl
   rw[e1];exact fields_3 r h w e ok i sm
 · have e1:fieldsB r=(r.t.may&&decB r.cm r.s):=by unfold fieldsB;simp only[e];rfl
   rw[e1];exact fields_4 r h w e ok i sm
 · have e1:fieldsB r=r.s.may:=by unfold fieldsB;simp only[e];rfl
   rw[e1];exact fields_5 r h w e ok i sm
 · have e1:fieldsB r=((pointE r.pt==0)&&fgt (pointV r.pt) 0&&flt (pointV r.pt) 4607182418800017408&&rangesB r.n&&r.s.may):=by unfold fieldsB;simp only[e];rfl
   rw[e1];exact fields_6 r h w e ok i sm
 · have e1:fieldsB r=(rangesB r.n):=by unfold fieldsB;simp only[e];rfl
   rw[e1];exact fields_7 r h w e ok i sm
 · have e1:fieldsB r=(decide (1≤r.n)):=by unfold fieldsB;simp only[e];rfl
   rw[e1];exact fields_8 r h w e ok i sm
 · have e1:fieldsB r=(r.t.may&&r.s.mom&&partsB r.ps):=by unfold fieldsB;simp only[e];rfl
   rw[e1];exact fields_9 r h w e ok i sm
 · have e1:fieldsB r=r.t.may:=by unfold fieldsB;simp only[e];rfl
   rw[e1];exact fields_10 r h w e ok i sm
 · have e1:fieldsB r=(applyB r.pv r.s r.t r.wr):=by unfold fieldsB;simp only[e];rfl
   rw[e1];exact fields_11 r h w e ok i sm
 · have e1:fieldsB r=(r.s.may&&prsB r.pr):=by unfold fieldsB;simp only[e];rfl
   rw[e1];exact fields_12 r h w e ok i sm
theorem wpList_load_row_g {P:Program} {w:World} {ops:Array Oper} {rest:List Oper} {o:Oper} {a:Act} {Q:Exit→Act→World→Prop} (hw:Region.wanted o (yielded ops a.tmps)=true) (ty:TypeId) (x:Operand) (ho:o.op=.load ty x)
 (g:Nat) (hx:a.eval x=.pointer (some ⟨g,0,none⟩)) (t:TypeId) (cs:Array Value) (fr:Nat×Nat) (d:TypeDesc) (hg:w.heap[g]?=some (.cells cs t fr))
 (hu:P.underlying ty=some d) (hd:(match d with| .struct _| .array _ _=>true|_=>false)=true) (hi:(P.info? ty).map (·.size)=some cs.size)
 (h:wpList P ops Q rest (a.put o.dst (.agg cs)) w):wpList P ops Q (o::rest) a w:=
 wpList_step fun _ hK=>by rw[if_pos hw];exact wp_load_row ty x ho g hx t cs fr d hg hu hd hi (hK _ _ h)
theorem wipe_len (r:Rc) (h:Hds) (h1:r.rd.length=h.a.n) (h2:r.wr.length=h.b.n) (h3:r.ps.length=h.c.n) (h4:r.pr.length=h.d.n) (h5:r.st.h.length=h.e.n) (h6:r.st.p.length=h.f.n):
 (wipe r).rd.length=(wipeH r.k h).a.n∧(wipe r).wr.length=(wipeH r.k h).b.n∧(wipe r).ps.length=(wipeH r.k h).c.n∧(wipe r).pr.length=(wipeH r.k h).d.n∧(wipe r).st.h.length=(wipeH r.k h).e.n∧(wipe r).st.p.length=(wipeH r.k h).f.n:=by
 by_cases hk:kindB r.k=true
 · unfold kindB at hk
   rw[decide_eq_true_eq]at hk
   have hc:r.k=1∨r.k=2∨r.k=3∨r.k=4∨r.k=5∨r.k=6∨r.k=7∨r.k=8∨r.k=9∨r.k=10∨r.k=11∨r.k=12:=by omega
   rcases hc with e|e|e|e|e|e|e|e|e|e|e|e
   all_goals simp[wipe,wipeH,e,h1,h2,h3,h4,h5,h6,zeroS]
 · unfold kindB at hk
   rw[decide_eq_true_eq]at hk
   have e1:wipe r=r:=by unfold wipe;repeat (rw[if_neg (by omega)])
   have e2:wipeH r.k h=h:=by unfold wipeH;repeat (rw[if_neg (by omega)])
   rw[e1,e2]
   exact⟨h1,h2,h3,h4,h5,h6⟩
def recMay (r:Rc):Int:=if kindB r.k=false then 7 else if (wipe r).zeroB=false then 4 else if fieldsB r=false then 4 else 0
set_option maxRecDepth 100000 in
set_option maxHeartbeats 4000000 in
theorem recMay_any (r:Rc) (h:Hds) (w:World) (ok:r.ok) (i:RcIn w r h) (sm:RcSm r h):
 Calls Tryz.prog 158 #[.agg (r.vals h)] w fun e w'=>e=.returned (.int .i64 (recMay r))∧Below w.heap.size w w':=by
 have hW:=fun w'=>without_any r h w'
 obtain⟨l1,l2,l3,l4,l5,l6⟩:=wipe_len r h i.rd.1 i.wr.1 i.ps.1 i.pr.1 i.hs.1 i.pn.1
 have hZ0:=fun w'=>zero_any (wipe r) (wipeH r.k h) w' l1 l2 l3 l4 l5 l6
 have hF:=fun (hk:kindB r.k=true) w' (hb:Below w.heap.size w w')=>fields_any r h w' hk ok (i.below hb) sm
 have HV:=Lib.hid (show recMay r=(if kindB r.k=false then 7 else if (wipe r).zeroB=false then 4 else if fieldsB r=false then 4 else 0) from rfl)
 clear l1 l2 l3 l4 l5 l6 ok i sm
 have hX:Below w.heap.size w (w.alloc (.cells (r.vals h) 69)):=by go_grown
 have B0:Blk (w.alloc (.cells (r.vals h) 69)) w.heap.size 69 (r.vals h):=Blk.new _ _ _
 generalize (wipe r).zeroB=bz at*
 generalize fieldsB r=bf at*
 generalize wipe r=q at*
 generalize wipeH r.k h=g at*
 cases hk:kindB r.k
 · rw[hk]at hW HV
   clear hF hk
   go_enter Tryz.func158,Tryz.ntmps158
   go_wp2_with (first
    |(refine wpList_load_row rfl 69 _ rfl _ rfl _ _ (0,0) _ (Blk.new _ _ _) rfl rfl (by kernel_rfl) ?_)
    |((with_reducible refine(hW _).mono ?_);rintro e w1 ⟨rfl,hb1⟩)
    |(refine wpList_store_new rfl 69 _ _ rfl _ rfl rfl _ _ (by kernel_rfl) (by kernel_rfl) (by kernel_rfl) ?_))
   all_goals go_ret
   exact⟨ret_int (by rw[HV.out];rfl),(hX.trans (hb1.mono hX.size)).alloc (hX.trans (hb1.mono hX.size)).size _⟩
 · have hF:=hF hk
   rw[hk]at hW HV
   clear hk
   cases bz
   · clear hF
     go_enter Tryz.func158,Tryz.ntmps158
     go_wp2_with (first
        |(refine wpList_load_row rfl 69 _ rfl _ rfl _ _ (0,0) _ (Blk.new _ _ _) rfl rfl (by kernel_rfl) ?_)
        |((with_reducible refine(hW _).mono ?_);rintro e w1 ⟨rfl,hb1⟩
          have hY:=hX.trans (hb1.mono hX.size)
          have hY2:=hY.alloc hY.size (.cells (q.vals g) 69))
        |((with_reducible refine(hZ0 _).mono ?_);rintro e w2 ⟨rfl,hb2⟩
          have hZ:=hY2.trans (hb2.mono hY2.size))
        |(refine wpList_store_new rfl 69 _ _ rfl _ rfl rfl _ _ (by kernel_rfl) (by kernel_rfl) (by kernel_rfl) ?_))
     all_goals go_ret
     exact⟨ret_int (by rw[HV.out];rfl),hZ⟩
   · go_enter Tryz.func158,Tryz.ntmps158
     go_wp2_with (first
        |(refine wpList_load_row rfl 69 _ rfl _ rfl _ _ (0,0) _ (Blk.new _ _ _) rfl rfl (by kernel_rfl) ?_)
        |(refine wpList_load_row_g (by rfl) 69 _ rfl _ rfl _ _ (0,0) _ C2 rfl rfl (by kernel_rfl) ?_)
        |((with_reducible refine(hW _).mono ?_);rintro e w1 ⟨rfl,hb1⟩
          have hY:=hX.trans (hb1.mono hX.size)
          have C1:=B0.below hb1 B0.lt
          have hY2:=hY.alloc hY.size (.cells (q.vals g) 69)
          replace C1:=C1.alloc (.cells (q.vals g) 69))
        |((with_reducible refine(hZ0 _).mono ?_);rintro e w2 ⟨rfl,hb2⟩
          have C2:=C1.below hb2 C1.lt
          have hZ:=hY2.trans (hb2.mono hY2.size))
        |((with_reducible refine(hF _ hZ).mono ?_);rintro e w3 ⟨rfl,hb3⟩)
        |(refine wpList_store_new rfl 69 _ _ rfl _ rfl rfl _ _ (by kernel_rfl) (by kernel_rfl) (by kernel_rfl) ?_))
     all_goals go_ret
     all_goals refine⟨ret_int ?_,hZ.trans (hb3.mono hZ.size)⟩
     all_goals rw[HV.out]
     all_goals simp_all
theorem kind_cases {k:Int} (h:kindB k=true):k=1∨k=2∨k=3∨k=4∨k=5∨k=6∨k=7∨k=8∨k=9∨k=10∨k=11∨k=12:=by
 unfold kindB at h
 rw[decide_eq_true_eq]at h
 omega
theorem walk_any (r:Rc) (h:Hds) (w:World) (B g:Nat) (v:Value) (bs:List UInt8) (gc gr:Nat) (hk:kindB r.k=true) (hc:CW w B g v bs gc) (hp:Apt w g v gr) (hb:Blk w gr 69 (r.vals h)) (ok:r.ok) (i:RcLo w B r h) (cp:h.caps)
 (hlen:bs.length+(encRc r).length+10≤1000000000000):
 Calls Tryz.prog 159 #[.pointer (some ⟨gc,0,none⟩),.pointer (some ⟨gr,0,none⟩)] w (CPost w B g v bs gc (encRc r)):=by
 rcases kind_cases hk with e|e|e|e|e|e|e|e|e|e|e|e
 · exact walk_1 r h w B g v bs gc gr e hc hp hb ok i cp hlen
 · exact walk_2 r h w B g v bs gc gr e hc hp hb ok i cp hlen
 · exact walk_3 r h w B g v bs gc gr e hc hp hb ok i cp hlen
 · exact walk_4 r h w B g v bs gc gr e hc hp hb ok i cp hlen
 · exact walk_5 r h w B g v bs gc gr e hc hp hb ok i cp hlen
 · exact walk_6 r h w B g v bs gc gr e hc hp hb ok i cp hlen
 · exact walk_7 r h w B g v bs gc gr e hc hp hb ok i cp hlen
 · exact walk_8 r h w B g v bs gc gr e hc hp hb ok i cp hlen
 · exact walk_9 r h w B g v bs gc gr e hc hp hb ok i cp hlen
 · exact walk_10 r h w B g v bs gc gr e hc hp hb ok i cp hlen
 · exact walk_11 r h w B g v bs gc gr e hc hp hb ok i cp hlen
 · exact walk_12 r h w B g v bs gc gr e hc hp hb ok i cp hlen
theorem owns_down {w:World} {base base':Nat} {e:TypeId} {size n:Nat} {v:Value} {xs:List Value} (h:w.ownsRow base e size v n xs) (hB:base'≤base):w.ownsRow base' e size v n xs:=by
 obtain⟨h6,h7⟩:=h
 refine⟨h6,?_⟩
 rcases h7 with h7|⟨k,cap,cur,e,hk,r⟩
 · exact .inl h7
 · exact .inr ⟨k,cap,cur,e,Nat.le_trans hB hk,r⟩
def encE (r:Rc):Int:=if recMay r=0 then (if 262144<(encRc r).length then 2 else 0) else recMay r
def encOut (r:Rc):List UInt8:=if encE r=0 then encRc r else []
def RowE (w:World) (bs:List UInt8) (er:Int):Ending→World→Prop:=fun e w'=>
 ∃A c,e=.returned (.tuple #[.slice A bs.length c,.int .i64 er])∧bs.length≤c∧c≤maxLen∧w'.ownsRow w.heap.size 5 1 (.slice A bs.length c) bs.length (bytesV bs)∧Below w.heap.size w w'
theorem RowE.nil {w w':World} (er:Int) (hb:Below w.heap.size w w'):RowE w [] er (.returned (.tuple #[.slice none 0 0,.int .i64 er])) w':=
 ⟨none,0,rfl,Nat.le_refl _,by unfold maxLen;omega,World.ownsRow_nil _ _ _ _,hb⟩
set_option maxRecDepth 100000 in
set_option maxHeartbeats 4000000 in
theorem encode_any (r:Rc) (h:Hds) (w:World) (ok:r.ok) (i:RcIn w r h) (cp:h.caps) (sm:RcSm r h) (hlen:(encRc r).length+10≤1000000000000):
 Calls Tryz.prog 108 #[.agg (r.vals h)] w (RowE w (encOut r) (encE r)):=by
 have hM:=fun w' (hb:Below w.heap.size w w')=>recMay_any r h w' ok (i.below hb) sm
 have hX:Below w.heap.size w (w.alloc (.cells (r.vals h) 69)):=by go_grown
 have B0:Blk (w.alloc (.cells (r.vals h) 69)) w.heap.size 69 (r.vals h):=Blk.new _ _ _
 by_cases hm:recMay r=0
 · have hk:kindB r.k=true:=by
    cases hq:kindB r.k
    · unfold recMay at hm;rw[hq]at hm;cases hm
    · rfl
   have HE:=Lib.hid (show encE r=if 262144<(encRc r).length then 2 else 0 by unfold encE;rw[if_pos hm])
   have HO:=Lib.hid (show encOut r=if 262144<(encRc r).length then [] else encRc r by unfold encOut;rw[HE.out];by_cases hq:262144<(encRc r).length<;>simp[hq])
   rw[hm]at hM
   clear hm
   go_enter Tryz.func108,Tryz.ntmps108
   go_wp2_with (first
    |(refine wpList_load_row rfl 69 _ rfl w.heap.size rfl _ _ (0,0) _ B0 rfl rfl (by kernel_rfl) ?_)
    |((with_reducible refine(hM _ hX).mono ?_);rintro e w1 ⟨rfl,hb1⟩
      have hX1:=hX.trans (hb1.mono hX.size)
      have B1:=B0.below hb1 B0.lt)
    |((with_reducible refine(wnew _).mono ?_);rintro e w2 ⟨rfl,rfl⟩))
   have hW:=Wr.new w1
   have hD:Below (w1.alloc (.cells #[.slice none 0 0] 129)).heap.size (w1.alloc (.cells #[.slice none 0 0] 129)) ((w1.alloc (.cells #[.slice none 0 0] 129)).alloc (.cells #[.pointer (some ⟨w1.heap.size,0,none⟩),.pointer none] 87)):=(Below.refl _ _).alloc (Nat.le_refl _) _
   have hY1:Below w1.heap.size w1 ((w1.alloc (.cells #[.slice none 0 0] 129)).alloc (.cells #[.pointer (some ⟨w1.heap.size,0,none⟩),.pointer none] 87)):=by go_grown
   have kC:Blk ((w1.alloc (.cells #[.slice none 0 0] 129)).alloc (.cells #[.pointer (some ⟨w1.heap.size,0,none⟩),.pointer none] 87)) (w1.heap.size+1) 87 #[.pointer (some ⟨w1.heap.size,0,none⟩),.pointer none]:=Blk.new' _ _ (by simp)
   have hc:CW ((w1.alloc (.cells #[.slice none 0 0] 129)).alloc (.cells #[.pointer (some ⟨w1.heap.size,0,none⟩),.pointer none] 87)) w1.heap.size w1.heap.size (.slice none 0 0) [] (w1.heap.size+1):=
    ⟨hW.below hD,hY1.size,kC,kC.lt,by omega,by intro e;cases e⟩
   have B2:=B1.below hY1 B1.lt
   have hlo:RcLo w1 w1.heap.size r h:=RcLo.of (i.below hX1)
   have hl0:w.heap.size<w1.heap.size:=B1.lt
   have HX1:=Lib.hid hX1
   have HY1:=Lib.hid hY1
   clear hX hX1 hM B0 i sm hb1 kC hD hW
   go_wp2_with fail
   refine(walk_any r h _ w1.heap.size w1.heap.size (.slice none 0 0) [] (w1.heap.size+1) w.heap.size hk hc (Apt.low hc hl0) B2 ok (hlo.below hY1) cp (by simpa using hlen)).mono ?_
   rintro e w2 ⟨rfl,v2,hc2,hf2⟩
   rw[List.nil_append]at hc2
   have HZ:=Lib.hid (hY1.trans (hc.lo hf2))
   have hl1:=B2.lt
   clear hc hlo B2 hf2 hY1
   go_wp2_with ((with_reducible refine(wbytes _ v2 (encRc r) w1.heap.size w2 hc2.wr (by omega)).mono ?_);rintro e w3 ⟨A,c,rfl,q1,q2,q3,q4⟩)
   all_goals have hB2:=HX1.out.trans (HZ.out.mono HX1.out.size)
   all_goals have hB3:=hB2.trans (q4.mono hB2.size)
   · have hgt:262144<(encRc r).length:=by
        have hz:decide (262144<((encRc r).length:Int))=true:=by simp;omega
        simp at hz;omega
     go_ret2
     rw[HE.out,HO.out,if_pos hgt,if_pos hgt]
     exact RowE.nil 2 hB3
   · have hgt:¬262144<(encRc r).length:=by omega
     go_ret2
     rw[HE.out,HO.out,if_neg hgt,if_neg hgt]
     exact⟨A,c,rfl,q1,q2,owns_down q3 hB2.size,hB3⟩
 · have h1:encE r=recMay r:=by unfold encE;rw[if_neg hm]
   have h2:encOut r=[]:=by unfold encOut;rw[h1,if_neg hm]
   rw[h1,h2]
   have hb0:(recMay r !=0)=true:=by simp[hm]
   generalize recMay r=m at*
   clear h1 h2 hm
   go_enter Tryz.func108,Tryz.ntmps108
   go_wp2_with (first
    |(refine wpList_load_row rfl 69 _ rfl w.heap.size rfl _ _ (0,0) _ B0 rfl rfl (by kernel_rfl) ?_)
    |((with_reducible refine(hM _ hX).mono ?_);rintro e w1 ⟨rfl,hb1⟩))
   go_ret2
   exact RowE.nil m (hX.trans (hb1.mono hX.size))
end Go.Proofs.YtcalkfgibflbnaaGreat
namespace Go.Proofs.YtcalkfgibflbnaaGreat
set_option linter.unusedVariables false
open Go.RowKit Fl
def RF.en:RF→Rc→List UInt8
 | .k,x=>encI x.k
 | .t,x=>encTx x.t
 | .s,x=>encSp x.s
 | .pv,x=>encSp x.pv
 | .cm,x=>encB x.cm
 | .n,x=>encI x.n
 | .pt,x=>encF64 x.pt
 | .wr,x=>encLs encWt x.wr
 | .ps,x=>encLs encI x.ps
 | .pr,x=>encLs encWt x.pr
 | .st,x=>encSt x.st
 | .pn,x=>encPn ⟨x.t,x.s,x.rd,x.wr⟩
def RF.no:RF→Nat
 | .k=>1
 | .t=>2
 | .s=>4
 | .pv=>8
 | .cm=>16
 | .n=>32
 | .pt=>64
 | .wr=>128
 | .ps=>256
 | .pr=>512
 | .st=>1024
 | .pn=>134
def RF.ap (d d':RF):Bool:=d.no&&&d'.no==0
theorem RF.encS:EncS RF.rd RF.en:=fun d x l s hs h=>match d with
 | .k=>rInt_enc' l s hs h
 | .t=>rTx_enc l s hs h
 | .s=>rSp_enc l s hs h
 | .pv=>rSp_enc l s hs h
 | .cm=>rFlag_enc' l s hs h
 | .n=>rInt_enc' l s hs h
 | .pt=>rFloat_enc' l s hs h
 | .wr=>rLs_enc rWt_enc l s hs h
 | .ps=>rLs_enc rInt_enc' l s hs h
 | .pr=>rLs_enc rWt_enc l s hs h
 | .st=>rSt_enc l s hs h
 | .pn=>rPn_enc l s hs h
theorem RF.apS:ApS RF.rd RF.en RF.ap:=fun d d' h x l s=>by
 cases d<;>cases d'<;>first
  |rfl
  |exact absurd h (by decide)
theorem bodyF_ap (k:Int):(RF.k::bodyF k).Pairwise (fun d d'=>RF.ap d d'=true):=by
 unfold bodyF
 repeat' split
 all_goals decide
theorem encRc_eq (r:Rc):encRc r=(RF.k::bodyF r.k).flatMap fun d=>RF.en d r:=by
 obtain⟨k,t,s,pv,cm,n,pt,rd,wr,ps,pr,st⟩:=r
 rcases (by omega:k=1∨k=2∨k=3∨k=4∨k=5∨k=6∨k=7∨k=8∨k=9∨k=10∨k=11∨k=12∨(¬k=1∧¬k=2∧¬k=3∧¬k=4∧¬k=5∧¬k=6∧¬k=7∧¬k=8∧¬k=9∧¬k=10∧¬k=11∧¬k=12)) with rfl|rfl|rfl|rfl|rfl|rfl|rfl|rfl|rfl|rfl|rfl|rfl|⟨h1,h2,h3,h4,h5,h6,h7,h8,h9,h10,h11,h12⟩
 all_goals simp[encRc,encBody,bodyF,RF.en, *]
theorem rRec_k (l:List UInt8) (s:RS):(rRec l s).1.k=(rInt l s).1:=by
 have h:∀d∈bodyF (rInt l s).1,∀x l' s',(RF.rd d x l' s').1.k=x.k:=fun d hd x l' s'=>by
  have hk:d.no≠1:=by
   intro e
   have:=(List.pairwise_cons.1 (bodyF_ap (rInt l s).1)).1 d hd
   unfold RF.ap at this
   rw[e]at this
   exact absurd this (by decide)
  cases d<;>first
   |rfl
   |exact absurd rfl hk
 have h2:∀ds:List RF,(∀d∈ds,∀x l' s',(RF.rd d x l' s').1.k=x.k)→∀x l' s',(rSeq RF.rd ds x l' s').1.k=x.k:=by
  intro ds
  induction ds with
  |nil=>intro _ x l' s';rfl
  |cons d ds ih=>
   intro hd x l' s'
   exact(ih (fun y hy=>hd y (List.mem_cons_of_mem _ hy)) _ _ _).trans (hd d List.mem_cons_self x l' s')
 exact h2 _ h _ _ _
theorem rRec_enc:RdEnc rRec encRc:=fun l s hs h=>by
 obtain⟨a,b⟩:=rSeq_enc RF.encS RF.stk RF.apS _ zRc l s (bodyF_ap _) hs h
 refine⟨a,b.trans ?_⟩
 rw[encRc_eq,rRec_k]
 rfl
structure RcCnt (N:Nat) (r:Rc):Prop where
 rd:r.rd.length≤N
 wr:r.wr.length≤N
 ps:r.ps.length≤N
 pr:r.pr.length≤N
 h:r.st.h.length≤N∧∀h∈r.st.h,h.vs.length≤N
 p:r.st.p.length≤N∧∀p∈r.st.p,p.r.length≤N∧p.w.length≤N
theorem rSt_cnt (l:List UInt8) (s:RS):((rSt l s).1.h.length≤l.length∧∀h∈(rSt l s).1.h,h.vs.length≤l.length)∧((rSt l s).1.p.length≤l.length∧∀p∈(rSt l s).1.p,p.r.length≤l.length∧p.w.length≤l.length):=
 ⟨⟨rLs_le l _,rLs_all (Q:=fun h:Hs=>h.vs.length≤l.length) l _ fun s=>rLs_le l _⟩,rLs_le l _,rLs_all (Q:=fun p:Pn=>p.r.length≤l.length∧p.w.length≤l.length) l _ fun s=>⟨rLs_le l _,rLs_le l _⟩⟩
theorem rRec_cnt (l:List UInt8) (s:RS):RcCnt l.length (rRec l s).1:=
 rSeq_inv (P:=RcCnt l.length) (fun d x s i=>match d with
  | .k=>⟨i.rd,i.wr,i.ps,i.pr,i.h,i.p⟩
  | .t=>⟨i.rd,i.wr,i.ps,i.pr,i.h,i.p⟩
  | .s=>⟨i.rd,i.wr,i.ps,i.pr,i.h,i.p⟩
  | .pv=>⟨i.rd,i.wr,i.ps,i.pr,i.h,i.p⟩
  | .cm=>⟨i.rd,i.wr,i.ps,i.pr,i.h,i.p⟩
  | .n=>⟨i.rd,i.wr,i.ps,i.pr,i.h,i.p⟩
  | .pt=>⟨i.rd,i.wr,i.ps,i.pr,i.h,i.p⟩
  | .wr=>⟨i.rd,rLs_le l _,i.ps,i.pr,i.h,i.p⟩
  | .ps=>⟨i.rd,i.wr,rLs_le l _,i.pr,i.h,i.p⟩
  | .pr=>⟨i.rd,i.wr,i.ps,rLs_le l _,i.h,i.p⟩
  | .st=>⟨i.rd,i.wr,i.ps,i.pr,(rSt_cnt l s).1,(rSt_cnt l s).2⟩
  | .pn=>⟨rLs_le l _,rLs_le l _,i.ps,i.pr,i.h,i.p⟩) _ _ _
  ⟨Nat.zero_le _,Nat.zero_le _,Nat.zero_le _,Nat.zero_le _,⟨Nat.zero_le _,fun h hh=>by cases hh⟩,Nat.zero_le _,fun h hh=>by cases hh⟩
theorem RcCnt.sm {N:Nat} {r:Rc} {h:Hds} (hc:RcCnt N r) (hN:N≤1000000) (h1:r.rd.length=h.a.n) (h2:r.wr.length=h.b.n) (h3:r.ps.length=h.c.n) (h4:r.pr.length=h.d.n):RcSm r h:=
 ⟨by rw[←h1];exact Nat.le_trans hc.rd hN,by rw[←h2];exact Nat.le_trans hc.wr hN,by rw[←h3];exact Nat.le_trans hc.ps hN,by rw[←h4];exact Nat.le_trans hc.pr hN,
  ⟨Nat.le_trans hc.h.1 hN,fun x hx=>Nat.le_trans (hc.h.2 x hx) hN⟩,⟨Nat.le_trans hc.p.1 hN,fun x hx=>⟨Nat.le_trans (hc.p.2 x hx).1 hN,Nat.le_trans (hc.p.2 x hx).2 hN⟩⟩⟩
def decE (l:List UInt8):Int:=
 if 262144<l.length then 4 else if (rRec l ⟨0,0,0⟩).2.e≠0 then 4 else if (rEnd l (rRec l ⟨0,0,0⟩).2).1≠0 then 4 else if encE (rRec l ⟨0,0,0⟩).1≠0 then 4 else if encOut (rRec l ⟨0,0,0⟩).1≠l then 4 else 0
def decR (l:List UInt8):Rc:=if decE l=0 then (rRec l ⟨0,0,0⟩).1 else zRc
end Go.Proofs.YtcalkfgibflbnaaGreat
