/- The walks of Point and Mid, of the program and of the document's answer. -/
import Derived.Test.YtcalkfgibflbnaaGreatKaac
import Derived.Test.YtcalkfgibflbnaaGreatKaaf
import Derived.Test.YtcalkfgibflbnaaGreatKaag
import Derived.Test.YtcalkfgibflbnaaGreatKaaj
import Derived.Test.YtcalkfgibflbnaaGreatKacd
import Derived.Test.YtcalkfgibflbnaaGreatKacj
namespace Go.Proofs.YtcalkfgibflbnaaGreat
open Go.RowKit Fl
theorem ret_fi {a b:Nat} {x y:Int} (h:a=b) (h':x=y):Ending.returned (.tuple #[.float .f64 a,.int .i64 x])=.returned (.tuple #[.float .f64 b,.int .i64 y]):=by rw[h,h']
theorem pv_yes {a:Nat} (h:ptB a=true):pointV a=a:=by unfold pointV;rw[if_pos h]
theorem pe_yes {a:Nat} (h:ptB a=true):pointE a=0:=by unfold pointE;rw[h];rfl
theorem pv_no {a:Nat} (h:ptB a=false):pointV a=0:=by unfold pointV;rw[h];rfl
theorem pe_no {a:Nat} (h:ptB a=false) (h':¬a=9223372036854775808):pointE a=1:=by unfold pointE;rw[h,decide_eq_false h'];rfl
set_option maxHeartbeats 400000 in
theorem point (a:Nat) (w:World) (ha:a<18446744073709551616):
 Calls Tryz.prog 225 #[.float .f64 a] w fun e w'=>e=.returned (.tuple #[.float .f64 (pointV a),.int .i64 (pointE a)])∧w=w':=by
 have h4:=class4 a ha
 generalize hk:classI (canonB a)=k at h4
 have H:=Lib.hid hk;clear hk
 by_cases hz:a=9223372036854775808
 · subst hz
   have g4:(k==4)=true:=by rw[h4];rfl
   clear h4
   go_enter Tryz.func225,Tryz.ntmps225
   go_wp2_with ((with_reducible refine(class_any _ _).mono ?_);rw[H.out];rintro e w' ⟨rfl,rfl⟩)
   go_ret2
   exact⟨rfl,rfl⟩
 · have g4:(k==4)=false:=by rw[h4];exact decide_eq_false hz
   clear h4
   have HZ:=Lib.hid hz;clear hz
   rcases Bool.eq_false_or_eq_true (ptB a) with h1|h1
   all_goals
    have H1:=Lib.hid h1
    go_enter Tryz.func225,Tryz.ntmps225
    go_wp2_with (first|((with_reducible refine(class_any _ _).mono ?_);rw[H.out];rintro e w' ⟨rfl,rfl⟩)|((with_reducible refine(point_any _ _ ha).mono ?_);rintro e w' ⟨rfl,rfl⟩))
    go_ret2
   · exact⟨ret_fi (pv_yes H1.out).symm (pe_yes H1.out).symm,rfl⟩
   · exact⟨ret_fi (pv_no H1.out).symm (pe_no H1.out HZ.out).symm,rfl⟩
end Go.Proofs.YtcalkfgibflbnaaGreat
/- The walks of recs' ranges, moment, decided, Apply. -/
namespace Go.Proofs.YtcalkfgibflbnaaGreat
set_option maxHeartbeats 4000000
set_option maxRecDepth 100000
set_option linter.unusedVariables false
open Go.RowKit Fl
attribute [local go_sem] run_store_float
theorem hmayB (s:Sp) (w:World):Calls Tryz.prog 60 #[s.val] w fun e w'=>e=.returned (.bool s.may)∧Below w.heap.size w w':=by
 refine(hmay_any s w).mono ?_
 rintro e w' ⟨rfl,rfl⟩
 exact⟨rfl,(Below.refl _ _).alloc (Nat.le_refl _) _⟩
def rangesB (n:Int):Bool:=decide (1≤n)&&decide (n≤12)
theorem ranges_any (n:Int) (w:World):Calls Tryz.prog 226 #[.int .i64 n] w fun e w'=>e=.returned (.bool (rangesB n))∧w=w':=by
 go_enter Tryz.func226,Tryz.ntmps226
 go_wp2
 all_goals go_ret
 all_goals refine⟨ret_bool ?_,rfl⟩
 all_goals unfold rangesB
 all_goals simp_all<;>omega
def Sp.mom (s:Sp):Bool:=s.may&& !s.zero
theorem moment_any (s:Sp) (w:World):Calls Tryz.prog 227 #[s.val] w fun e w'=>e=.returned (.bool s.mom)∧Below w.heap.size w w':=by
 have z1:=fun w=>zero_run s w
 have z2:∀w,(binOp .neq 26 (.agg #[.int .i64 s.w,.int .i64 s.l,.int .i64 s.n]) (.agg #[.int .i64 0,.int .i64 0,.int .i64 0])).run Tryz.prog w=.ok (.bool (!s.zero)) w:=fun w=>by simp[go_sem,z1]
 have hM:=fun w=>hmayB s w
 have HZ:=Lib.hid (show s.mom=(s.may&& !s.zero) from rfl)
 have hX:Below w.heap.size w (w.alloc (.cells s.arr 26)):=by go_grown
 have B0:=Blk.new w 26 s.arr
 generalize s.may=b1 at*
 generalize s.zero=b2 at*
 go_enter Tryz.func227,Tryz.ntmps227
 go_wp2_with ((with_reducible refine(hM _).mono ?_);rintro e w1 ⟨rfl,hb1⟩;obtain⟨g1,x0,x1,x2⟩:=(B0.below hb1 B0.lt).three)
 all_goals go_ret
 all_goals refine⟨ret_bool ?_,hX.trans (hb1.mono hX.size)⟩
 all_goals rw[HZ.out]
 all_goals simp_all
def decB (c:Bool) (s:Sp):Bool:=if c then s.mom else s.zero
theorem decided_any (c:Bool) (s:Sp) (w:World):Calls Tryz.prog 224 #[.bool c,s.val] w fun e w'=>e=.returned (.bool (decB c s))∧Below w.heap.size w w':=by
 have z1:=fun w=>zero_run s w
 have hM:=fun w=>moment_any s w
 have hX:Below w.heap.size w (w.alloc (.cells s.arr 26)):=by go_grown
 have HZ:=Lib.hid (show decB c s=(if c then s.mom else s.zero) from rfl)
 generalize s.mom=b1 at*
 generalize s.zero=b2 at*
 cases c
 · go_enter Tryz.func224,Tryz.ntmps224
   go_wp2
   all_goals go_ret
   exact⟨ret_bool (by rw[HZ.out];rfl),hX⟩
 · go_enter Tryz.func224,Tryz.ntmps224
   go_wp2_with ((with_reducible refine(hM _).mono ?_);rintro e w1 ⟨rfl,hb1⟩)
   all_goals go_ret
   exact⟨ret_bool (by rw[HZ.out];rfl),hX.trans (hb1.mono hX.size)⟩
def applyB (pv s:Sp) (t:Tx) (l:List Wt):Bool:=pv.may&&decide (pv.cmp s<0)&&decide (0<l.length)&&(pendE ⟨t,s,[],l⟩==0)
theorem apply_any (pv s:Sp) (t:Tx) (A:Option Addr) (n c:Nat) (l:List Wt) (w:World) (h:Sl WtRel 4 w w.heap.size A n l) (hn:n≤1000000):
 Calls Tryz.prog 63 #[pv.val,s.val,t.val,.slice A n c] w fun e w'=>e=.returned (.bool (applyB pv s t l))∧Below w.heap.size w w':=by
 have hM:=fun w=>hmayB pv w
 have hC:=fun w=>cmp_any pv s w
 have hP:=fun w' (hb:Below w.heap.size w w')=>pend_any ⟨t,s,[],l⟩ none A 0 n 0 c w' Sl.nil ((h.below WtRel.kept hb).more WtRel.kept hb.size) (Nat.zero_le _) hn
 have HZ:=Lib.hid (show applyB pv s t l=(pv.may&&decide (pv.cmp s<0)&&decide (0<n)&&(pendE ⟨t,s,[],l⟩==0)) by unfold applyB;rw[h.1])
 have hX:Below w.heap.size w (((w.alloc (.cells pv.arr 26)).alloc (.cells s.arr 26)).alloc (.cells #[.int .i64 t.c,.int .i64 t.l,.int .i64 t.s] 23)):=by go_grown
 have B0:=((Blk.new w 26 pv.arr).alloc (.cells s.arr 26)).alloc (.cells #[.int .i64 t.c,.int .i64 t.l,.int .i64 t.s] 23)
 have B1:=(Blk.new' (w:=w.alloc (.cells pv.arr 26)) (g:=w.heap.size+1) 26 s.arr (by simp)).alloc (.cells #[.int .i64 t.c,.int .i64 t.l,.int .i64 t.s] 23)
 have B2:=Blk.new' (w:=(w.alloc (.cells pv.arr 26)).alloc (.cells s.arr 26)) (g:=w.heap.size+1+1) 23 #[.int .i64 t.c,.int .i64 t.l,.int .i64 t.s] (by simp)
 clear h
 generalize pv.may=b1 at*
 generalize pv.cmp s=z at*
 generalize pendE ⟨t,s,[],l⟩=p at*
 go_enter Tryz.func63,Tryz.ntmps63
 go_wp2_with (first
  |((with_reducible refine(hM _).mono ?_);rintro e w1 ⟨rfl,hb1⟩
    have C0:=B0.below hb1 B0.lt
    have C1:=B1.below hb1 B1.lt
    have C2:=B2.below hb1 B2.lt
    have hY:=hX.trans (hb1.mono hX.size)
    obtain⟨g0,x0,x1,x2⟩:=C0.three
    obtain⟨g1,y0,y1,y2⟩:=C1.three
    obtain⟨g2,t0,t1,t2⟩:=C2.three)
  |((with_reducible refine(hC _).mono ?_);rintro e w2 ⟨rfl,hb2⟩
    have D1:=C1.below hb2 C1.lt
    have D2:=C2.below hb2 C2.lt
    have hZ:=hY.trans (hb2.mono hY.size)
    obtain⟨k1,u0,u1,u2⟩:=D1.three
    obtain⟨k2,v0,v1,v2⟩:=D2.three)
  |((with_reducible refine(hP _ hZ).mono ?_);rintro e w3 ⟨rfl,hb3⟩))
 all_goals go_ret
 all_goals refine⟨ret_bool ?_,by first|exact hZ.trans (hb3.mono hZ.size)|exact hZ|exact hY⟩
 all_goals rw[HZ.out]
 all_goals simp_all<;>omega
end Go.Proofs.YtcalkfgibflbnaaGreat
/- The walks of recs' fields and May. -/
namespace Go.Proofs.YtcalkfgibflbnaaGreat
set_option maxHeartbeats 4000000
set_option maxRecDepth 100000
set_option linter.unusedVariables false
open Go.RowKit Fl
attribute [local go_sem] run_store_float
structure RcSm (r:Rc) (h:Hds):Prop where
 a:h.a.n≤1000000
 b:h.b.n≤1000000
 c:h.c.n≤1000000
 d:h.d.n≤1000000
 h:SmallH r.st.h
 p:SmallP r.st.p
def fieldsB (r:Rc):Bool:=
 if r.k=1 then (mayS r.st) else
 if r.k=2 then (decide (0≤r.n)&&decide (r.n≤281474976710656)) else
 if r.k=3 then ((pendE ⟨r.t,r.s,r.rd,r.wr⟩==0)&&partsB r.ps) else
 if r.k=4 then (r.t.may&&decB r.cm r.s) else
 if r.k=5 then r.s.may else
 if r.k=6 then ((pointE r.pt==0)&&fgt (pointV r.pt) 0&&flt (pointV r.pt) 4607182418800017408&&rangesB r.n&&r.s.may) else
 if r.k=7 then (rangesB r.n) else
 if r.k=8 then (decide (1≤r.n)) else
 if r.k=9 then (r.t.may&&r.s.mom&&partsB r.ps) else
 if r.k=10 then r.t.may else
 if r.k=11 then (applyB r.pv r.s r.t r.wr) else
 if r.k=12 then (r.s.may&&prsB r.pr) else
 false
theorem fields_1 (r:Rc) (h:Hds) (w:World) (hk:r.k=1) (ok:r.ok) (i:RcIn w r h) (sm:RcSm r h):
 Calls Tryz.prog 199 #[.agg (r.vals h)] w fun e w'=>e=.returned (.bool (mayS r.st))∧Below w.heap.size w w':=by
 obtain⟨k,t,s,pv,cm,n,pt,rd,wr,ps,pr,st⟩:=r
 change k=1 at hk
 subst hk
 have hS:=fun w' (hb:Below w.heap.size w w')=>stateMay_any st h.e.A h.f.A h.e.n h.f.n h.e.c h.f.c w' ok.rg (i.below hb).hs (i.below hb).pn sm.h sm.p
 have hX:Below w.heap.size w (w.alloc (.cells (Rc.vals ⟨1,t,s,pv,cm,n,pt,rd,wr,ps,pr,st⟩ h) 69)):=by go_grown
 have B0:Blk (w.alloc (.cells (Rc.vals ⟨1,t,s,pv,cm,n,pt,rd,wr,ps,pr,st⟩ h) 69)) w.heap.size 69 (Rc.vals ⟨1,t,s,pv,cm,n,pt,rd,wr,ps,pr,st⟩ h):=Blk.new _ _ _
 have HV:=Lib.hid (show (mayS st)=(mayS st) from rfl)
 clear ok i sm
 generalize hg0:mayS st=g0 at*
 clear hg0
 go_enter Tryz.func199,Tryz.ntmps199
 go_wp2_with (first
  |((with_reducible refine(hS _ hX).mono ?_);rintro e w1 ⟨rfl,hb1⟩
    have hY:=hX.trans (hb1.mono hX.size)))
 all_goals go_ret
 all_goals refine⟨ret_bool ?_,by first|exact hY|exact hX⟩
 all_goals first|rfl|(simp_all;done)|(simp_all;omega)
theorem fields_2 (r:Rc) (h:Hds) (w:World) (hk:r.k=2) (ok:r.ok) (i:RcIn w r h) (sm:RcSm r h):
 Calls Tryz.prog 199 #[.agg (r.vals h)] w fun e w'=>e=.returned (.bool (decide (0≤r.n)&&decide (r.n≤281474976710656)))∧Below w.heap.size w w':=by
 obtain⟨k,t,s,pv,cm,n,pt,rd,wr,ps,pr,st⟩:=r
 change k=2 at hk
 subst hk
 have hX:Below w.heap.size w (w.alloc (.cells (Rc.vals ⟨2,t,s,pv,cm,n,pt,rd,wr,ps,pr,st⟩ h) 69)):=by go_grown
 have B0:Blk (w.alloc (.cells (Rc.vals ⟨2,t,s,pv,cm,n,pt,rd,wr,ps,pr,st⟩ h) 69)) w.heap.size 69 (Rc.vals ⟨2,t,s,pv,cm,n,pt,rd,wr,ps,pr,st⟩ h):=Blk.new _ _ _
 have HV:=Lib.hid (show (decide (0≤n)&&decide (n≤281474976710656))=(decide (0≤n)&&decide (n≤281474976710656)) from rfl)
 clear ok i sm
 go_enter Tryz.func199,Tryz.ntmps199
 go_wp2
 all_goals go_ret
 all_goals refine⟨ret_bool ?_,hX⟩
 all_goals first|rfl|(simp_all;done)|(simp_all;omega)
theorem fields_3 (r:Rc) (h:Hds) (w:World) (hk:r.k=3) (ok:r.ok) (i:RcIn w r h) (sm:RcSm r h):
 Calls Tryz.prog 199 #[.agg (r.vals h)] w fun e w'=>e=.returned (.bool ((pendE ⟨r.t,r.s,r.rd,r.wr⟩==0)&&partsB r.ps))∧Below w.heap.size w w':=by
 obtain⟨k,t,s,pv,cm,n,pt,rd,wr,ps,pr,st⟩:=r
 change k=3 at hk
 subst hk
 have hS:=fun w' (hb:Below w.heap.size w w')=>pend_any ⟨t,s,rd,wr⟩ h.a.A h.b.A h.a.n h.b.n h.a.c h.b.c w' (i.below hb).rd (i.below hb).wr i.na sm.b
 have hQ:=fun w' (hb:Below w.heap.size w w')=>parts_any h.c.A h.c.n h.c.c ps w' (i.below hb).ps i.nc
 have hX:Below w.heap.size w (w.alloc (.cells (Rc.vals ⟨3,t,s,pv,cm,n,pt,rd,wr,ps,pr,st⟩ h) 69)):=by go_grown
 have B0:Blk (w.alloc (.cells (Rc.vals ⟨3,t,s,pv,cm,n,pt,rd,wr,ps,pr,st⟩ h) 69)) w.heap.size 69 (Rc.vals ⟨3,t,s,pv,cm,n,pt,rd,wr,ps,pr,st⟩ h):=Blk.new _ _ _
 have HV:=Lib.hid (show ((pendE ⟨t,s,rd,wr⟩==0)&&partsB ps)=((pendE ⟨t,s,rd,wr⟩==0)&&partsB ps) from rfl)
 clear ok i sm
 generalize hg0:pendE ⟨t,s,rd,wr⟩=g0 at*
 generalize hg1:partsB ps=g1 at*
 clear hg0 hg1
 go_enter Tryz.func199,Tryz.ntmps199
 go_wp2_with (first
  |((with_reducible refine(hS _ hX).mono ?_);rintro e w1 ⟨rfl,hb1⟩
    have hY:=hX.trans (hb1.mono hX.size)
    have C0:=B0.below hb1 B0.lt
    have l0:=C0.lt
    have x0_15:=C0.cell 15
    simp only[List.getElem?_toArray,List.getElem?_cons_succ,List.getElem?_cons_zero]at x0_15)
  |((with_reducible refine(hQ _ hY).mono ?_);rintro e w2 ⟨rfl,rfl⟩))
 all_goals go_ret
 all_goals refine⟨ret_bool ?_,by first|exact hY|exact hX⟩
 all_goals first|rfl|(simp_all;done)|(simp_all;omega)
theorem fields_4 (r:Rc) (h:Hds) (w:World) (hk:r.k=4) (ok:r.ok) (i:RcIn w r h) (sm:RcSm r h):
 Calls Tryz.prog 199 #[.agg (r.vals h)] w fun e w'=>e=.returned (.bool (r.t.may&&decB r.cm r.s))∧Below w.heap.size w w':=by
 obtain⟨k,t,s,pv,cm,n,pt,rd,wr,ps,pr,st⟩:=r
 change k=4 at hk
 subst hk
 have hS:=fun w' (hb:Below w.heap.size w w')=>txnMay_any t w'
 have hQ:=fun w' (hb:Below w.heap.size w w')=>decided_any cm s w'
 have hX:Below w.heap.size w (w.alloc (.cells (Rc.vals ⟨4,t,s,pv,cm,n,pt,rd,wr,ps,pr,st⟩ h) 69)):=by go_grown
 have B0:Blk (w.alloc (.cells (Rc.vals ⟨4,t,s,pv,cm,n,pt,rd,wr,ps,pr,st⟩ h) 69)) w.heap.size 69 (Rc.vals ⟨4,t,s,pv,cm,n,pt,rd,wr,ps,pr,st⟩ h):=Blk.new _ _ _
 have HV:=Lib.hid (show (t.may&&decB cm s)=(t.may&&decB cm s) from rfl)
 clear ok i sm
 generalize hg0:t.may=g0 at*
 generalize hg1:decB cm s=g1 at*
 clear hg0 hg1
 go_enter Tryz.func199,Tryz.ntmps199
 go_wp2_with (first
  |((with_reducible refine(hS _ hX).mono ?_);rintro e w1 ⟨rfl,hb1⟩
    have hY:=hX.trans (hb1.mono hX.size)
    have C0:=B0.below hb1 B0.lt
    have l0:=C0.lt
    have x0_4:=C0.cell 4
    have x0_5:=C0.cell 5
    have x0_6:=C0.cell 6
    have x0_10:=C0.cell 10
    simp only[List.getElem?_toArray,List.getElem?_cons_succ,List.getElem?_cons_zero]at x0_4 x0_5 x0_6 x0_10)
  |((with_reducible refine(hQ _ hY).mono ?_);rintro e w2 ⟨rfl,hb2⟩
    have hZ:=hY.trans (hb2.mono hY.size)))
 all_goals go_ret
 all_goals refine⟨ret_bool ?_,by first|exact hZ|exact hY|exact hX⟩
 all_goals first|rfl|(simp_all;done)|(simp_all;omega)
theorem fields_5 (r:Rc) (h:Hds) (w:World) (hk:r.k=5) (ok:r.ok) (i:RcIn w r h) (sm:RcSm r h):
 Calls Tryz.prog 199 #[.agg (r.vals h)] w fun e w'=>e=.returned (.bool r.s.may)∧Below w.heap.size w w':=by
 obtain⟨k,t,s,pv,cm,n,pt,rd,wr,ps,pr,st⟩:=r
 change k=5 at hk
 subst hk
 have hS:=fun w' (hb:Below w.heap.size w w')=>hmayB s w'
 have hX:Below w.heap.size w (w.alloc (.cells (Rc.vals ⟨5,t,s,pv,cm,n,pt,rd,wr,ps,pr,st⟩ h) 69)):=by go_grown
 have B0:Blk (w.alloc (.cells (Rc.vals ⟨5,t,s,pv,cm,n,pt,rd,wr,ps,pr,st⟩ h) 69)) w.heap.size 69 (Rc.vals ⟨5,t,s,pv,cm,n,pt,rd,wr,ps,pr,st⟩ h):=Blk.new _ _ _
 have HV:=Lib.hid (show s.may=s.may from rfl)
 clear ok i sm
 generalize hg0:s.may=g0 at*
 clear hg0
 go_enter Tryz.func199,Tryz.ntmps199
 go_wp2_with (first
  |((with_reducible refine(hS _ hX).mono ?_);rintro e w1 ⟨rfl,hb1⟩
    have hY:=hX.trans (hb1.mono hX.size)))
 all_goals go_ret
 all_goals refine⟨ret_bool ?_,by first|exact hY|exact hX⟩
 all_goals first|rfl|(simp_all;done)|(simp_all;omega)
theorem fields_6 (r:Rc) (h:Hds) (w:World) (hk:r.k=6) (ok:r.ok) (i:RcIn w r h) (sm:RcSm r h):
 Calls Tryz.prog 199 #[.agg (r.vals h)] w fun e w'=>e=.returned (.bool ((pointE r.pt==0)&&fgt (pointV r.pt) 0&&flt (pointV r.pt) 4607182418800017408&&rangesB r.n&&r.s.may))∧Below w.heap.size w w':=by
 obtain⟨k,t,s,pv,cm,n,pt,rd,wr,ps,pr,st⟩:=r
 change k=6 at hk
 subst hk
 have hS:=fun w' (hb:Below w.heap.size w w')=>point pt w' ok.pt
 have hQ:=fun w' (hb:Below w.heap.size w w')=>ranges_any n w'
 have hR:=fun w' (hb:Below w.heap.size w w')=>hmayB s w'
 have hX:Below w.heap.size w (w.alloc (.cells (Rc.vals ⟨6,t,s,pv,cm,n,pt,rd,wr,ps,pr,st⟩ h) 69)):=by go_grown
 have B0:Blk (w.alloc (.cells (Rc.vals ⟨6,t,s,pv,cm,n,pt,rd,wr,ps,pr,st⟩ h) 69)) w.heap.size 69 (Rc.vals ⟨6,t,s,pv,cm,n,pt,rd,wr,ps,pr,st⟩ h):=Blk.new _ _ _
 have HV:=Lib.hid (show ((pointE pt==0)&&fgt (pointV pt) 0&&flt (pointV pt) 4607182418800017408&&rangesB n&&s.may)=((pointE pt==0)&&fgt (pointV pt) 0&&flt (pointV pt) 4607182418800017408&&rangesB n&&s.may) from rfl)
 clear ok i sm
 generalize hg0:rangesB n=g0 at*
 generalize hg1:s.may=g1 at*
 clear hg0 hg1
 go_enter Tryz.func199,Tryz.ntmps199
 go_wp2_with (first
  |((with_reducible refine(hS _ hX).mono ?_);rintro e w1 ⟨rfl,rfl⟩)
  |((with_reducible refine(hQ _ hX).mono ?_);rintro e w2 ⟨rfl,rfl⟩)
  |((with_reducible refine(hR _ hX).mono ?_);rintro e w3 ⟨rfl,hb3⟩
    have hW:=hX.trans (hb3.mono hX.size)))
 all_goals go_ret
 all_goals refine⟨ret_bool ?_,by first|exact hW|exact hX⟩
 all_goals first|rfl|(simp_all [fgt,flt];done)|(simp_all;omega)
theorem fields_7 (r:Rc) (h:Hds) (w:World) (hk:r.k=7) (ok:r.ok) (i:RcIn w r h) (sm:RcSm r h):
 Calls Tryz.prog 199 #[.agg (r.vals h)] w fun e w'=>e=.returned (.bool (rangesB r.n))∧Below w.heap.size w w':=by
 obtain⟨k,t,s,pv,cm,n,pt,rd,wr,ps,pr,st⟩:=r
 change k=7 at hk
 subst hk
 have hS:=fun w' (hb:Below w.heap.size w w')=>ranges_any n w'
 have hX:Below w.heap.size w (w.alloc (.cells (Rc.vals ⟨7,t,s,pv,cm,n,pt,rd,wr,ps,pr,st⟩ h) 69)):=by go_grown
 have B0:Blk (w.alloc (.cells (Rc.vals ⟨7,t,s,pv,cm,n,pt,rd,wr,ps,pr,st⟩ h) 69)) w.heap.size 69 (Rc.vals ⟨7,t,s,pv,cm,n,pt,rd,wr,ps,pr,st⟩ h):=Blk.new _ _ _
 have HV:=Lib.hid (show (rangesB n)=(rangesB n) from rfl)
 clear ok i sm
 generalize hg0:rangesB n=g0 at*
 clear hg0
 go_enter Tryz.func199,Tryz.ntmps199
 go_wp2_with (first
  |((with_reducible refine(hS _ hX).mono ?_);rintro e w1 ⟨rfl,rfl⟩))
 all_goals go_ret
 all_goals refine⟨ret_bool ?_,by first|exact hX⟩
 all_goals first|rfl|(simp_all;done)|(simp_all;omega)
theorem fields_8 (r:Rc) (h:Hds) (w:World) (hk:r.k=8) (ok:r.ok) (i:RcIn w r h) (sm:RcSm r h):
 Calls Tryz.prog 199 #[.agg (r.vals h)] w fun e w'=>e=.returned (.bool (decide (1≤r.n)))∧Below w.heap.size w w':=by
 obtain⟨k,t,s,pv,cm,n,pt,rd,wr,ps,pr,st⟩:=r
 change k=8 at hk
 subst hk
 have hX:Below w.heap.size w (w.alloc (.cells (Rc.vals ⟨8,t,s,pv,cm,n,pt,rd,wr,ps,pr,st⟩ h) 69)):=by go_grown
 have B0:Blk (w.alloc (.cells (Rc.vals ⟨8,t,s,pv,cm,n,pt,rd,wr,ps,pr,st⟩ h) 69)) w.heap.size 69 (Rc.vals ⟨8,t,s,pv,cm,n,pt,rd,wr,ps,pr,st⟩ h):=Blk.new _ _ _
 have HV:=Lib.hid (show (decide (1≤n))=(decide (1≤n)) from rfl)
 clear ok i sm
 go_enter Tryz.func199,Tryz.ntmps199
 go_wp2
 all_goals go_ret
 all_goals refine⟨ret_bool ?_,hX⟩
 all_goals first|rfl|(simp_all;done)|(simp_all;omega)
theorem fields_9 (r:Rc) (h:Hds) (w:World) (hk:r.k=9) (ok:r.ok) (i:RcIn w r h) (sm:RcSm r h):
 Calls Tryz.prog 199 #[.agg (r.vals h)] w fun e w'=>e=.returned (.bool (r.t.may&&r.s.mom&&partsB r.ps))∧Below w.heap.size w w':=by
 obtain⟨k,t,s,pv,cm,n,pt,rd,wr,ps,pr,st⟩:=r
 change k=9 at hk
 subst hk
 have hS:=fun w' (hb:Below w.heap.size w w')=>txnMay_any t w'
 have hQ:=fun w' (hb:Below w.heap.size w w')=>moment_any s w'
 have hR:=fun w' (hb:Below w.heap.size w w')=>parts_any h.c.A h.c.n h.c.c ps w' (i.below hb).ps i.nc
 have hX:Below w.heap.size w (w.alloc (.cells (Rc.vals ⟨9,t,s,pv,cm,n,pt,rd,wr,ps,pr,st⟩ h) 69)):=by go_grown
 have B0:Blk (w.alloc (.cells (Rc.vals ⟨9,t,s,pv,cm,n,pt,rd,wr,ps,pr,st⟩ h) 69)) w.heap.size 69 (Rc.vals ⟨9,t,s,pv,cm,n,pt,rd,wr,ps,pr,st⟩ h):=Blk.new _ _ _
 have HV:=Lib.hid (show (t.may&&s.mom&&partsB ps)=(t.may&&s.mom&&partsB ps) from rfl)
 clear ok i sm
 generalize hg0:t.may=g0 at*
 generalize hg1:s.mom=g1 at*
 generalize hg2:partsB ps=g2 at*
 clear hg0 hg1 hg2
 go_enter Tryz.func199,Tryz.ntmps199
 go_wp2_with (first
  |((with_reducible refine(hS _ hX).mono ?_);rintro e w1 ⟨rfl,hb1⟩
    have hY:=hX.trans (hb1.mono hX.size)
    have C0:=B0.below hb1 B0.lt
    have l0:=C0.lt
    have x0_4:=C0.cell 4
    have x0_5:=C0.cell 5
    have x0_6:=C0.cell 6
    have x0_15:=C0.cell 15
    simp only[List.getElem?_toArray,List.getElem?_cons_succ,List.getElem?_cons_zero]at x0_4 x0_5 x0_6 x0_15)
  |((with_reducible refine(hQ _ hY).mono ?_);rintro e w2 ⟨rfl,hb2⟩
    have hZ:=hY.trans (hb2.mono hY.size)
    have C1:=C0.below hb2 C0.lt
    have l1:=C1.lt
    have x1_4:=C1.cell 4
    have x1_5:=C1.cell 5
    have x1_6:=C1.cell 6
    have x1_15:=C1.cell 15
    simp only[List.getElem?_toArray,List.getElem?_cons_succ,List.getElem?_cons_zero]at x1_4 x1_5 x1_6 x1_15)
  |((with_reducible refine(hR _ hZ).mono ?_);rintro e w3 ⟨rfl,rfl⟩))
 all_goals go_ret
 all_goals refine⟨ret_bool ?_,by first|exact hZ|exact hY|exact hX⟩
 all_goals first|rfl|(simp_all;done)|(simp_all;omega)
theorem fields_10 (r:Rc) (h:Hds) (w:World) (hk:r.k=10) (ok:r.ok) (i:RcIn w r h) (sm:RcSm r h):
 Calls Tryz.prog 199 #[.agg (r.vals h)] w fun e w'=>e=.returned (.bool r.t.may)∧Below w.heap.size w w':=by
 obtain⟨k,t,s,pv,cm,n,pt,rd,wr,ps,pr,st⟩:=r
 change k=10 at hk
 subst hk
 have hS:=fun w' (hb:Below w.heap.size w w')=>txnMay_any t w'
 have hX:Below w.heap.size w (w.alloc (.cells (Rc.vals ⟨10,t,s,pv,cm,n,pt,rd,wr,ps,pr,st⟩ h) 69)):=by go_grown
 have B0:Blk (w.alloc (.cells (Rc.vals ⟨10,t,s,pv,cm,n,pt,rd,wr,ps,pr,st⟩ h) 69)) w.heap.size 69 (Rc.vals ⟨10,t,s,pv,cm,n,pt,rd,wr,ps,pr,st⟩ h):=Blk.new _ _ _
 have HV:=Lib.hid (show t.may=t.may from rfl)
 clear ok i sm
 generalize hg0:t.may=g0 at*
 clear hg0
 go_enter Tryz.func199,Tryz.ntmps199
 go_wp2_with (first
  |((with_reducible refine(hS _ hX).mono ?_);rintro e w1 ⟨rfl,hb1⟩
    have hY:=hX.trans (hb1.mono hX.size)))
 all_goals go_ret
 all_goals refine⟨ret_bool ?_,by first|exact hY|exact hX⟩
 all_goals first|rfl|(simp_all;done)|(simp_all;omega)
theorem fields_11 (r:Rc) (h:Hds) (w:World) (hk:r.k=11) (ok:r.ok) (i:RcIn w r h) (sm:RcSm r h):
 Calls Tryz.prog 199 #[.agg (r.vals h)] w fun e w'=>e=.returned (.bool (applyB r.pv r.s r.t r.wr))∧Below w.heap.size w w':=by
 obtain⟨k,t,s,pv,cm,n,pt,rd,wr,ps,pr,st⟩:=r
 change k=11 at hk
 subst hk
 have hS:=fun w' (hb:Below w.heap.size w w')=>apply_any pv s t h.b.A h.b.n h.b.c wr w' (i.below hb).wr sm.b
 have hX:Below w.heap.size w (w.alloc (.cells (Rc.vals ⟨11,t,s,pv,cm,n,pt,rd,wr,ps,pr,st⟩ h) 69)):=by go_grown
 have B0:Blk (w.alloc (.cells (Rc.vals ⟨11,t,s,pv,cm,n,pt,rd,wr,ps,pr,st⟩ h) 69)) w.heap.size 69 (Rc.vals ⟨11,t,s,pv,cm,n,pt,rd,wr,ps,pr,st⟩ h):=Blk.new _ _ _
 have HV:=Lib.hid (show (applyB pv s t wr)=(applyB pv s t wr) from rfl)
 clear ok i sm
 generalize hg0:applyB pv s t wr=g0 at*
 clear hg0
 go_enter Tryz.func199,Tryz.ntmps199
 go_wp2_with (first
  |((with_reducible refine(hS _ hX).mono ?_);rintro e w1 ⟨rfl,hb1⟩
    have hY:=hX.trans (hb1.mono hX.size)))
 all_goals go_ret
 all_goals refine⟨ret_bool ?_,by first|exact hY|exact hX⟩
 all_goals first|rfl|(simp_all;done)|(simp_all;omega)
theorem fields_12 (r:Rc) (h:Hds) (w:World) (hk:r.k=12) (ok:r.ok) (i:RcIn w r h) (sm:RcSm r h):
 Calls Tryz.prog 199 #[.agg (r.vals h)] w fun e w'=>e=.returned (.bool (r.s.may&&prsB r.pr))∧Below w.heap.size w w':=by
 obtain⟨k,t,s,pv,cm,n,pt,rd,wr,ps,pr,st⟩:=r
 change k=12 at hk
 subst hk
 have hS:=fun w' (hb:Below w.heap.size w w')=>hmayB s w'
 have hQ:=fun w' (hb:Below w.heap.size w w')=>prs_any h.d.A h.d.n h.d.c pr w' (i.below hb).pr i.nd
 have hX:Below w.heap.size w (w.alloc (.cells (Rc.vals ⟨12,t,s,pv,cm,n,pt,rd,wr,ps,pr,st⟩ h) 69)):=by go_grown
 have B0:Blk (w.alloc (.cells (Rc.vals ⟨12,t,s,pv,cm,n,pt,rd,wr,ps,pr,st⟩ h) 69)) w.heap.size 69 (Rc.vals ⟨12,t,s,pv,cm,n,pt,rd,wr,ps,pr,st⟩ h):=Blk.new _ _ _
 have HV:=Lib.hid (show (s.may&&prsB pr)=(s.may&&prsB pr) from rfl)
 clear ok i sm
 generalize hg0:s.may=g0 at*
 generalize hg1:prsB pr=g1 at*
 clear hg0 hg1
 go_enter Tryz.func199,Tryz.ntmps199
 go_wp2_with (first
  |((with_reducible refine(hS _ hX).mono ?_);rintro e w1 ⟨rfl,hb1⟩
    have hY:=hX.trans (hb1.mono hX.size)
    have C0:=B0.below hb1 B0.lt
    have l0:=C0.lt
    have x0_16:=C0.cell 16
    simp only[List.getElem?_toArray,List.getElem?_cons_succ,List.getElem?_cons_zero]at x0_16)
  |((with_reducible refine(hQ _ hY).mono ?_);rintro e w2 ⟨rfl,hb2⟩
    have hZ:=hY.trans (hb2.mono hY.size)))
 all_goals go_ret
 all_goals refine⟨ret_bool ?_,by first|exact hZ|exact hY|exact hX⟩
 all_goals first|rfl|(simp_all;done)|(simp_all;omega)
theorem fields_any (r:Rc) (h:Hds) (w:World) (hk:kindB r.k=true) (ok:r.ok) (i:RcIn w r h) (sm:RcSm r h):
 Calls Tryz.prog 199 #[.agg (r.vals h)] w fun e w'=>e=.returned (.bool (fieldsB r))∧Below w.heap.size w w':=by
 unfold kindB at hk
 rw[decide_eq_true_eq]at hk
 have hc:r.k=1∨r.k=2∨r.k=3∨r.k=4∨r.k=5∨r.k=6∨r.k=7∨r.k=8∨r.k=9∨r.k=10∨r.k=11∨r.k=12:=by omega
 rcases hc with e|e|e|e|e|e|e|e|e|e|e|e
 · have e1:fieldsB r=(mayS r.st):=by unfold fieldsB;simp only[e];rfl
   rw[e1];exact fields_1 r h w e ok i sm
 · have e1:fieldsB r=(decide (0≤r.n)&&decide (r.n≤281474976710656)):=by unfold fieldsB;simp only[e];rfl
   rw[e1];exact fields_2 r h w e ok i sm
 · have e1:fieldsB r=((pendE ⟨r.t,r.s,r.rd,r.wr⟩==0)&&partsB r.ps):=by unfold fieldsB;simp only[e];rfl
   rw[e1];exact fields_3 r h w e ok i sm
 · have e1:fieldsB r=(r.t.may&&decB r.cm r.s):=by unfold fieldsB;simp only[e];rfl
   rw[e1];exact fields_4 r h w e ok i sm
 · have e1:fieldsB r=r.s.may:=by unfold fieldsB;simp only[e];rfl
   rw[e1];exact fields_5 r h w e ok i sm
 · have e1:fieldsB r=((pointE r.pt==0)&&fgt (pointV r.pt) 0&&flt (pointV r.pt) 4607182418800017408&&rangesB r.n&&r.s.may):=by unfold fieldsB;simp only[e];rfl
   rw[e1];exact fields_6 r h w e ok i sm
 · have e1:fieldsB r=(rangesB r.n):=by unfold fieldsB;simp only[e];rfl
   rw[e1];exact fields_7 r h w e ok i sm
 · have e1:fieldsB r=(decide (1≤r.n)):=by unfold fieldsB;simp only[e];rfl
   rw[e1];exact fields_8 r h w e ok i sm
 · have e1:fieldsB r=(r.t.may&&r.s.mom&&partsB r.ps):=by unfold fieldsB;simp only[e];rfl
   rw[e1];exact fields_9 r h w e ok i sm
 · have e1:fieldsB r=r.t.may:=by unfold fieldsB;simp only[e];rfl
   rw[e1];exact fields_10 r h w e ok i sm
 · have e1:fieldsB r=(applyB r.pv r.s r.t r.wr):=by unfold fieldsB;simp only[e];rfl
   rw[e1];exact fields_11 r h w e ok i sm
 · have e1:fieldsB r=(r.s.may&&prsB r.pr):=by unfold fieldsB;simp only[e];rfl
   rw[e1];exact fields_12 r h w e ok i sm
end Go.Proofs.YtcalkfgibflbnaaGreat
/- The walk of recs' May. -/
namespace Go.Proofs.YtcalkfgibflbnaaGreat
set_option linter.unusedVariables false
open Go.RowKit Fl
attribute [local go_sem] run_store_float
theorem wpList_load_row_g {P:Program} {w:World} {ops:Array Oper} {rest:List Oper} {o:Oper} {a:Act} {Q:Exit→Act→World→Prop} (hw:Region.wanted o (yielded ops a.tmps)=true) (ty:TypeId) (x:Operand) (ho:o.op=.load ty x)
 (g:Nat) (hx:a.eval x=.pointer (some ⟨g,0,none⟩)) (t:TypeId) (cs:Array Value) (fr:Nat×Nat) (d:TypeDesc) (hg:w.heap[g]?=some (.cells cs t fr))
 (hu:P.underlying ty=some d) (hd:(match d with| .struct _| .array _ _=>true|_=>false)=true) (hi:(P.info? ty).map (·.size)=some cs.size)
 (h:wpList P ops Q rest (a.put o.dst (.agg cs)) w):wpList P ops Q (o::rest) a w:=
 wpList_step fun _ hK=>by rw[if_pos hw];exact wp_load_row ty x ho g hx t cs fr d hg hu hd hi (hK _ _ h)
theorem wipe_len (r:Rc) (h:Hds) (h1:r.rd.length=h.a.n) (h2:r.wr.length=h.b.n) (h3:r.ps.length=h.c.n) (h4:r.pr.length=h.d.n) (h5:r.st.h.length=h.e.n) (h6:r.st.p.length=h.f.n):
 (wipe r).rd.length=(wipeH r.k h).a.n∧(wipe r).wr.length=(wipeH r.k h).b.n∧(wipe r).ps.length=(wipeH r.k h).c.n∧(wipe r).pr.length=(wipeH r.k h).d.n∧(wipe r).st.h.length=(wipeH r.k h).e.n∧(wipe r).st.p.length=(wipeH r.k h).f.n:=by
 by_cases hk:kindB r.k=true
 · unfold kindB at hk
   rw[decide_eq_true_eq]at hk
   have hc:r.k=1∨r.k=2∨r.k=3∨r.k=4∨r.k=5∨r.k=6∨r.k=7∨r.k=8∨r.k=9∨r.k=10∨r.k=11∨r.k=12:=by omega
   rcases hc with e|e|e|e|e|e|e|e|e|e|e|e
   all_goals simp[wipe,wipeH,e,h1,h2,h3,h4,h5,h6,zeroS]
 · unfold kindB at hk
   rw[decide_eq_true_eq]at hk
   have e1:wipe r=r:=by unfold wipe;repeat (rw[if_neg (by omega)])
   have e2:wipeH r.k h=h:=by unfold wipeH;repeat (rw[if_neg (by omega)])
   rw[e1,e2]
   exact⟨h1,h2,h3,h4,h5,h6⟩
def recMay (r:Rc):Int:=if kindB r.k=false then 7 else if (wipe r).zeroB=false then 4 else if fieldsB r=false then 4 else 0
set_option maxRecDepth 100000 in
set_option maxHeartbeats 4000000 in
theorem recMay_any (r:Rc) (h:Hds) (w:World) (ok:r.ok) (i:RcIn w r h) (sm:RcSm r h):
 Calls Tryz.prog 158 #[.agg (r.vals h)] w fun e w'=>e=.returned (.int .i64 (recMay r))∧Below w.heap.size w w':=by
 have hW:=fun w'=>without_any r h w'
 obtain⟨l1,l2,l3,l4,l5,l6⟩:=wipe_len r h i.rd.1 i.wr.1 i.ps.1 i.pr.1 i.hs.1 i.pn.1
 have hZ0:=fun w'=>zero_any (wipe r) (wipeH r.k h) w' l1 l2 l3 l4 l5 l6
 have hF:=fun (hk:kindB r.k=true) w' (hb:Below w.heap.size w w')=>fields_any r h w' hk ok (i.below hb) sm
 have HV:=Lib.hid (show recMay r=(if kindB r.k=false then 7 else if (wipe r).zeroB=false then 4 else if fieldsB r=false then 4 else 0) from rfl)
 clear l1 l2 l3 l4 l5 l6 ok i sm
 have hX:Below w.heap.size w (w.alloc (.cells (r.vals h) 69)):=by go_grown
 have B0:Blk (w.alloc (.cells (r.vals h) 69)) w.heap.size 69 (r.vals h):=Blk.new _ _ _
 generalize (wipe r).zeroB=bz at*
 generalize fieldsB r=bf at*
 generalize wipe r=q at*
 generalize wipeH r.k h=g at*
 cases hk:kindB r.k
 · rw[hk]at hW HV
   clear hF hk
   go_enter Tryz.func158,Tryz.ntmps158
   go_wp2_with (first
    |(refine wpList_load_row rfl 69 _ rfl _ rfl _ _ (0,0) _ (Blk.new _ _ _) rfl rfl (by kernel_rfl) ?_)
    |((with_reducible refine(hW _).mono ?_);rintro e w1 ⟨rfl,hb1⟩)
    |(refine wpList_store_new rfl 69 _ _ rfl _ rfl rfl _ _ (by kernel_rfl) (by kernel_rfl) (by kernel_rfl) ?_))
   all_goals go_ret
   exact⟨ret_int (by rw[HV.out];rfl),(hX.trans (hb1.mono hX.size)).alloc (hX.trans (hb1.mono hX.size)).size _⟩
 · have hF:=hF hk
   rw[hk]at hW HV
   clear hk
   cases bz
   · clear hF
     go_enter Tryz.func158,Tryz.ntmps158
     go_wp2_with (first
        |(refine wpList_load_row rfl 69 _ rfl _ rfl _ _ (0,0) _ (Blk.new _ _ _) rfl rfl (by kernel_rfl) ?_)
        |((with_reducible refine(hW _).mono ?_);rintro e w1 ⟨rfl,hb1⟩
          have hY:=hX.trans (hb1.mono hX.size)
          have hY2:=hY.alloc hY.size (.cells (q.vals g) 69))
        |((with_reducible refine(hZ0 _).mono ?_);rintro e w2 ⟨rfl,hb2⟩
          have hZ:=hY2.trans (hb2.mono hY2.size))
        |(refine wpList_store_new rfl 69 _ _ rfl _ rfl rfl _ _ (by kernel_rfl) (by kernel_rfl) (by kernel_rfl) ?_))
     all_goals go_ret
     exact⟨ret_int (by rw[HV.out];rfl),hZ⟩
   · go_enter Tryz.func158,Tryz.ntmps158
     go_wp2_with (first
        |(refine wpList_load_row rfl 69 _ rfl _ rfl _ _ (0,0) _ (Blk.new _ _ _) rfl rfl (by kernel_rfl) ?_)
        |(refine wpList_load_row_g (by rfl) 69 _ rfl _ rfl _ _ (0,0) _ C2 rfl rfl (by kernel_rfl) ?_)
        |((with_reducible refine(hW _).mono ?_);rintro e w1 ⟨rfl,hb1⟩
          have hY:=hX.trans (hb1.mono hX.size)
          have C1:=B0.below hb1 B0.lt
          have hY2:=hY.alloc hY.size (.cells (q.vals g) 69)
          replace C1:=C1.alloc (.cells (q.vals g) 69))
        |((with_reducible refine(hZ0 _).mono ?_);rintro e w2 ⟨rfl,hb2⟩
          have C2:=C1.below hb2 C1.lt
          have hZ:=hY2.trans (hb2.mono hY2.size))
        |((with_reducible refine(hF _ hZ).mono ?_);rintro e w3 ⟨rfl,hb3⟩)
        |(refine wpList_store_new rfl 69 _ _ rfl _ rfl rfl _ _ (by kernel_rfl) (by kernel_rfl) (by kernel_rfl) ?_))
     all_goals go_ret
     all_goals refine⟨ret_int ?_,hZ.trans (hb3.mono hZ.size)⟩
     all_goals rw[HV.out]
     all_goals simp_all
end Go.Proofs.YtcalkfgibflbnaaGreat
/- Plain: a record that weighs no more than most is short, and so are its bytes. -/
namespace Go.Proofs.YtcalkfgibflbnaaGreat
set_option linter.unusedVariables false
open Go.RowKit Fl
theorem sum_nn {α:Type} (wt:α→Int) (hw:∀a,0≤wt a) (l:List α):0≤(l.map wt).sum:=by
 induction l with
 |nil=>simp
 |cons a l ih=>have:=hw a;simp only[List.map_cons,List.sum_cons];omega
theorem weighG_gain {α:Type} {f:α→Int→Int} {most:Int} (wt:α→Int) (hw:∀a,0≤wt a) (hf:∀a n,0≤n→n≤most→0≤f a n∧(f a n≤most→n+wt a≤f a n)):
 ∀(l:List α) (n:Int),0≤n→weighG f most n l≤most→n+(l.map wt).sum≤weighG f most n l:=by
 intro l
 induction l with
 |nil=>intro n _ _;simp[weighG]
 |cons a l ih=>
  intro n h0 h
  by_cases hn:n≤most
  · have e:weighG f most n (a::l)=weighG f most (f a n) l:=by show (if _ then _ else _)=_;rw[if_pos hn]
    rw[e]at h ⊢
    obtain⟨h1,h2⟩:=hf a n h0 hn
    have h3:=ih _ h1 h
    have h4:=sum_nn wt hw l
    have h5:=h2 (by omega)
    simp only[List.map_cons,List.sum_cons]
    omega
  · rw[weighG_stop _ (by omega)]at h;omega
def wtW (a:Wt):Int:=1+(a.key.size:Int)+(a.v.t.size:Int)
def wtT (a:ByteArray):Int:=1+(a.size:Int)
def wtV (a:Vn):Int:=1+(a.v.t.size:Int)
def wtH (h:Hs):Int:=1+(h.key.size:Int)+(h.vs.map wtV).sum
def wtP (p:Pn):Int:=1+(p.r.map wtT).sum+(p.w.map wtW).sum
theorem wtW_nn (a:Wt):0≤wtW a:=by unfold wtW;omega
theorem wtT_nn (a:ByteArray):0≤wtT a:=by unfold wtT;omega
theorem wtV_nn (a:Vn):0≤wtV a:=by unfold wtV;omega
theorem wtH_nn (a:Hs):0≤wtH a:=by unfold wtH;have:=sum_nn wtV wtV_nn a.vs;omega
theorem wtP_nn (a:Pn):0≤wtP a:=by unfold wtP;have:=sum_nn wtT wtT_nn a.r;have:=sum_nn wtW wtW_nn a.w;omega
section
variable {most:Int} (hm:0≤most)
include hm
theorem weighW_gain:∀(l:List Wt) (n:Int),0≤n→weighW most n l≤most→n+(l.map wtW).sum≤weighW most n l:=by
 intro l
 induction l with
 |nil=>intro n _ _;simp[weighW]
 |cons a l ih=>
  intro n h0 h
  by_cases hn:n≤most
  · have e:weighW most n (a::l)=weighW most (stepW most n a) l:=by show (if _ then _ else _)=_;rw[if_pos hn]
    rw[e]at h ⊢
    have h3:=ih _ (stepW_range a hm h0).1 h
    have h4:=sum_nn wtW wtW_nn l
    have h5:stepW most n a=n+wtW a:=by
        have:stepW most n a≤most:=by omega
        unfold stepW fewI at this
        unfold stepW fewI wtW
        split at this<;>split<;>omega
    simp only[List.map_cons,List.sum_cons]
    omega
  · rw[weighW_stop _ (by omega)]at h;omega
theorem weighT_gain (l:List ByteArray) (h:weighT most l≤most):(l.map wtT).sum≤weighT most l:=by
 have:=weighG_gain (f:=stepT most) (most:=most) wtT wtT_nn (fun a n h0 _=>⟨(stepT_range a hm h0).1,fun h=>by
  have:=(fewI_range (n:=n) (more:=1+(a.size:Int)) (most:=most) h0 (by omega) hm).2.2 h
  show n+(1+(a.size:Int))≤fewI n (1+(a.size:Int)) most
  omega⟩) l 0 (by omega) h
 unfold weighT;omega
theorem stepH_gain (a:Hs) (n:Int) (h0:0≤n) (h:stepH most a n≤most):n+wtH a≤stepH most a n:=by
 have h2:=fewI_range (n:=n) (more:=1+(a.key.size:Int)) (most:=most) h0 (by omega) hm
 have h3:=weighG_gain (f:=stepV most) (most:=most) wtV wtV_nn (fun a n h0 _=>⟨(stepV_range a hm h0).1,fun h=>by
  have:=(fewI_range (n:=n) (more:=1+(a.v.t.size:Int)) (most:=most) h0 (by omega) hm).2.2 h
  show n+(1+(a.v.t.size:Int))≤fewI n (1+(a.v.t.size:Int)) most
  omega⟩) a.vs _ h2.1 h
 have h4:=sum_nn wtV wtV_nn a.vs
 have h5:stepH most a n=weighG (stepV most) most (fewI n (1+(a.key.size:Int)) most) a.vs:=rfl
 have h6:=h2.2.2 (by omega)
 unfold wtH
 omega
theorem weighH_gain (l:List Hs) (h:weighH most l≤most):(l.map wtH).sum≤weighH most l:=by
 have:=weighG_gain (f:=stepH most) (most:=most) wtH wtH_nn (fun a n h0 _=>⟨(stepH_range a hm h0).1,fun h=>stepH_gain hm a n h0 h⟩) l 0 (by omega) h
 unfold weighH;omega
theorem stepP_gain (p:Pn) (n:Int) (h0:0≤n) (h:stepP most p n≤most):n+wtP p≤stepP most p n:=by
 have h1:=weighT_range p.r hm
 have h2:=weighW_range p.w 0 hm (by omega) (by omega)
 have h3:=fewI_range (n:=n) (more:=1+weighT most p.r) (most:=most) h0 (by omega) hm
 have h4:=fewI_range (n:=fewI n (1+weighT most p.r) most) (more:=weighW most 0 p.w) (most:=most) h3.1 h2.1 hm
 have e:stepP most p n=fewI (fewI n (1+weighT most p.r) most) (weighW most 0 p.w) most:=rfl
 have h5:=h4.2.2 (by omega)
 have h6:=h3.2.2 (by omega)
 have h7:=weighT_gain hm p.r (by omega)
 have h8:=weighW_gain hm p.w 0 (by omega) (by omega)
 unfold wtP
 omega
theorem weighP_gain (l:List Pn) (h:weighP most l≤most):(l.map wtP).sum≤weighP most l:=by
 have:=weighG_gain (f:=stepP most) (most:=most) wtP wtP_nn (fun a n h0 _=>⟨(stepP_range a hm h0).1,fun h=>stepP_gain hm a n h0 h⟩) l 0 (by omega) h
 unfold weighP;omega
theorem weighS_gain (s:Stt) (h:weighS most s≤most):(s.h.map wtH).sum+(s.p.map wtP).sum≤weighS most s:=by
 have h1:=weighH_range s.h hm
 have h2:=weighP_range s.p hm
 have e:weighS most s=fewI (weighH most s.h) (weighP most s.p) most:=rfl
 have h3:=(fewI_range (n:=weighH most s.h) (more:=weighP most s.p) (most:=most) h1.1 h2.1 hm).2.2 (by omega)
 have h4:=weighH_gain hm s.h (by omega)
 have h5:=weighP_gain hm s.p (by omega)
 omega
theorem weighRec_gain (r:Rc) (h:weighRec most r≤most):1+(r.rd.map wtT).sum+(r.wr.map wtW).sum+(r.ps.length:Int)+(r.pr.map wtW).sum+(r.st.h.map wtH).sum+(r.st.p.map wtP).sum≤most∧weighS most r.st≤most:=by
 have hT:=weighT_range r.rd hm
 have hW:=weighW_range r.wr 0 hm (by omega) (by omega)
 have h1:=fewI_range (n:=weighT most r.rd) (more:=weighW most 0 r.wr) (most:=most) hT.1 hW.1 hm
 have e1:weigh1 most r=fewI (weighT most r.rd) (weighW most 0 r.wr) most:=rfl
 have h2:=fewI_range (n:=weigh1 most r) (more:=min (r.ps.length:Int) (most+1)) (most:=most) (by omega) (by omega) hm
 have e2:weigh2 most r=fewI (weigh1 most r) (min (r.ps.length:Int) (most+1)) most:=rfl
 have h3:=weighW_range r.pr (weigh2 most r) hm (by omega) (by omega)
 have hS:=weighS_range r.st hm
 have h4:=fewI_range (n:=weighW most (weigh2 most r) r.pr+1) (more:=weighS most r.st) (most:=most) (by omega) hS.1 hm
 have e4:weighRec most r=fewI (weighW most (weigh2 most r) r.pr+1) (weighS most r.st) most:=rfl
 have k4:=h4.2.2 (by omega)
 have k3:=weighW_gain hm r.pr (weigh2 most r) (by omega) (by omega)
 have k3':=sum_nn wtW wtW_nn r.pr
 have k2:=h2.2.2 (by omega)
 have k1:=h1.2.2 (by omega)
 have kT:=weighT_gain hm r.rd (by omega)
 have kW:=weighW_gain hm r.wr 0 (by omega) (by omega)
 have kS:=weighS_gain hm r.st (by omega)
 omega
end
theorem len_sum {α:Type} (wt:α→Int) (hw:∀a,1≤wt a) (l:List α):(l.length:Int)≤(l.map wt).sum:=by
 induction l with
 |nil=>simp
 |cons a l ih=>have:=hw a;simp only[List.map_cons,List.sum_cons,List.length_cons];omega
theorem mem_sum {α:Type} (wt:α→Int) (hw:∀a,0≤wt a) {l:List α} {a:α} (h:a∈l):wt a≤(l.map wt).sum:=by
 induction l with
 |nil=>cases h
 |cons b l ih=>
  have h1:=sum_nn wt hw l
  have h2:=hw b
  simp only[List.map_cons,List.sum_cons]
  rcases List.mem_cons.1 h with rfl|h
  · omega
  · have:=ih h;omega
theorem flat_leC {α:Type} (f:α→List UInt8) (wt:α→Int) (c:Int) (l:List α) (h:∀a∈l,((f a).length:Int)≤c*wt a):((l.flatMap f).length:Int)≤c*(l.map wt).sum:=by
 induction l with
 |nil=>simp
 |cons a l ih=>
  rw[List.flatMap_cons,List.length_append,List.map_cons,List.sum_cons,Int.mul_add]
  have h1:=h a List.mem_cons_self
  have h2:=ih fun b hb=>h b (List.mem_cons_of_mem _ hb)
  omega
end Go.Proofs.YtcalkfgibflbnaaGreat
