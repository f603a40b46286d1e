/- The walks of recs' ranges, moment, decided, Apply. -/
import Derived.Test.YthdmanadhbpogaaGreatFaac
import Derived.Test.YthdmanadhbpogaaGreatFaaf
import Derived.Test.YthdmanadhbpogaaGreatFabf
import Derived.Test.YthdmanadhbpogaaGreatFabi
import Derived.Test.YthdmanadhbpogaaGreatFacb
namespace Go.Proofs.YthdmanadhbpogaaGreat
set_option maxHeartbeats 4000000
set_option maxRecDepth 100000
set_option linter.unusedVariables false
open Go.RowKit Fl
attribute [local go_sem] run_store_float
theorem hmayB (s:Sp) (w:World):Calls Tryz.prog 47 #[s.val] w fun e w'=>e=.returned (.bool s.may)∧Below w.heap.size w w':=by
 refine(hmay_any s w).mono ?_
 rintro e w' ⟨rfl,rfl⟩
 exact⟨rfl,(Below.refl _ _).alloc (Nat.le_refl _) _⟩
def rangesB (n:Int):Bool:=decide (1≤n)&&decide (n≤12)
theorem ranges_any (n:Int) (w:World):Calls Tryz.prog 94 #[.int .i64 n] w fun e w'=>e=.returned (.bool (rangesB n))∧w=w':=by
 go_enter Tryz.func94,Tryz.ntmps94
 go_wp2
 all_goals go_ret
 all_goals refine⟨ret_bool ?_,rfl⟩
 all_goals unfold rangesB
 all_goals simp_all<;>omega
def Sp.mom (s:Sp):Bool:=s.may&& !s.zero
theorem moment_any (s:Sp) (w:World):Calls Tryz.prog 95 #[s.val] w fun e w'=>e=.returned (.bool s.mom)∧Below w.heap.size w w':=by
 have z1:=fun w=>zero_run s w
 have z2:∀w,(binOp .neq 25 (.agg #[.int .i64 s.w,.int .i64 s.l,.int .i64 s.n]) (.agg #[.int .i64 0,.int .i64 0,.int .i64 0])).run Tryz.prog w=.ok (.bool (!s.zero)) w:=fun w=>by simp[go_sem,z1]
 have hM:=fun w=>hmayB s w
 have HZ:=Lib.hid (show s.mom=(s.may&& !s.zero) from rfl)
 have hX:Below w.heap.size w (w.alloc (.cells s.arr 25)):=by go_grown
 have B0:=Blk.new w 25 s.arr
 generalize s.may=b1 at*
 generalize s.zero=b2 at*
 go_enter Tryz.func95,Tryz.ntmps95
 go_wp2_with ((with_reducible refine(hM _).mono ?_);rintro e w1 ⟨rfl,hb1⟩;obtain⟨g1,x0,x1,x2⟩:=(B0.below hb1 B0.lt).three)
 all_goals go_ret
 all_goals refine⟨ret_bool ?_,hX.trans (hb1.mono hX.size)⟩
 all_goals rw[HZ.out]
 all_goals simp_all
def decB (c:Bool) (s:Sp):Bool:=if c then s.mom else s.zero
theorem decided_any (c:Bool) (s:Sp) (w:World):Calls Tryz.prog 92 #[.bool c,s.val] w fun e w'=>e=.returned (.bool (decB c s))∧Below w.heap.size w w':=by
 have z1:=fun w=>zero_run s w
 have hM:=fun w=>moment_any s w
 have hX:Below w.heap.size w (w.alloc (.cells s.arr 25)):=by go_grown
 have HZ:=Lib.hid (show decB c s=(if c then s.mom else s.zero) from rfl)
 generalize s.mom=b1 at*
 generalize s.zero=b2 at*
 cases c
 · go_enter Tryz.func92,Tryz.ntmps92
   go_wp2
   all_goals go_ret
   exact⟨ret_bool (by rw[HZ.out];rfl),hX⟩
 · go_enter Tryz.func92,Tryz.ntmps92
   go_wp2_with ((with_reducible refine(hM _).mono ?_);rintro e w1 ⟨rfl,hb1⟩)
   all_goals go_ret
   exact⟨ret_bool (by rw[HZ.out];rfl),hX.trans (hb1.mono hX.size)⟩
def applyB (pv s:Sp) (t:Tx) (l:List Wt):Bool:=pv.may&&decide (pv.cmp s<0)&&decide (0<l.length)&&(pendE ⟨t,s,[],l⟩==0)
theorem apply_any (pv s:Sp) (t:Tx) (A:Option Addr) (n c:Nat) (l:List Wt) (w:World) (h:Sl WtRel 4 w w.heap.size A n l) (hn:n≤1000000):
 Calls Tryz.prog 96 #[pv.val,s.val,t.val,.slice A n c] w fun e w'=>e=.returned (.bool (applyB pv s t l))∧Below w.heap.size w w':=by
 have hM:=fun w=>hmayB pv w
 have hC:=fun w=>cmp_any pv s w
 have hP:=fun w' (hb:Below w.heap.size w w')=>pend_any ⟨t,s,[],l⟩ none A 0 n 0 c w' Sl.nil ((h.below WtRel.kept hb).more WtRel.kept hb.size) (Nat.zero_le _) hn
 have HZ:=Lib.hid (show applyB pv s t l=(pv.may&&decide (pv.cmp s<0)&&decide (0<n)&&(pendE ⟨t,s,[],l⟩==0)) by unfold applyB;rw[h.1])
 have hX:Below w.heap.size w (((w.alloc (.cells pv.arr 25)).alloc (.cells s.arr 25)).alloc (.cells #[.int .i64 t.c,.int .i64 t.l,.int .i64 t.s] 23)):=by go_grown
 have B0:=((Blk.new w 25 pv.arr).alloc (.cells s.arr 25)).alloc (.cells #[.int .i64 t.c,.int .i64 t.l,.int .i64 t.s] 23)
 have B1:=(Blk.new' (w:=w.alloc (.cells pv.arr 25)) (g:=w.heap.size+1) 25 s.arr (by simp)).alloc (.cells #[.int .i64 t.c,.int .i64 t.l,.int .i64 t.s] 23)
 have B2:=Blk.new' (w:=(w.alloc (.cells pv.arr 25)).alloc (.cells s.arr 25)) (g:=w.heap.size+1+1) 23 #[.int .i64 t.c,.int .i64 t.l,.int .i64 t.s] (by simp)
 clear h
 generalize pv.may=b1 at*
 generalize pv.cmp s=z at*
 generalize pendE ⟨t,s,[],l⟩=p at*
 go_enter Tryz.func96,Tryz.ntmps96
 go_wp2_with (first
  |((with_reducible refine(hM _).mono ?_);rintro e w1 ⟨rfl,hb1⟩
    have C0:=B0.below hb1 B0.lt
    have C1:=B1.below hb1 B1.lt
    have C2:=B2.below hb1 B2.lt
    have hY:=hX.trans (hb1.mono hX.size)
    obtain⟨g0,x0,x1,x2⟩:=C0.three
    obtain⟨g1,y0,y1,y2⟩:=C1.three
    obtain⟨g2,t0,t1,t2⟩:=C2.three)
  |((with_reducible refine(hC _).mono ?_);rintro e w2 ⟨rfl,hb2⟩
    have D1:=C1.below hb2 C1.lt
    have D2:=C2.below hb2 C2.lt
    have hZ:=hY.trans (hb2.mono hY.size)
    obtain⟨k1,u0,u1,u2⟩:=D1.three
    obtain⟨k2,v0,v1,v2⟩:=D2.three)
  |((with_reducible refine(hP _ hZ).mono ?_);rintro e w3 ⟨rfl,hb3⟩))
 all_goals go_ret
 all_goals refine⟨ret_bool ?_,by first|exact hZ.trans (hb3.mono hZ.size)|exact hZ|exact hY⟩
 all_goals rw[HZ.out]
 all_goals simp_all<;>omega
end Go.Proofs.YthdmanadhbpogaaGreat
/- The walks of recs' fields and May. -/
namespace Go.Proofs.YthdmanadhbpogaaGreat
set_option maxHeartbeats 4000000
set_option maxRecDepth 100000
set_option linter.unusedVariables false
open Go.RowKit Fl
attribute [local go_sem] run_store_float
structure RcSm (r:Rc) (h:Hds):Prop where
 a:h.a.n≤1000000
 b:h.b.n≤1000000
 c:h.c.n≤1000000
 d:h.d.n≤1000000
 h:SmallH r.st.h
 p:SmallP r.st.p
def fieldsB (r:Rc):Bool:=
 if r.k=1 then (mayS r.st) else
 if r.k=2 then (decide (0≤r.n)&&decide (r.n≤281474976710656)) else
 if r.k=3 then ((pendE ⟨r.t,r.s,r.rd,r.wr⟩==0)&&partsB r.ps) else
 if r.k=4 then (r.t.may&&decB r.cm r.s) else
 if r.k=5 then r.s.may else
 if r.k=6 then ((pointE r.pt==0)&&fgt (pointV r.pt) 0&&flt (pointV r.pt) 4607182418800017408&&rangesB r.n&&r.s.may) else
 if r.k=7 then (rangesB r.n) else
 if r.k=8 then (decide (1≤r.n)) else
 if r.k=9 then (r.t.may&&r.s.mom&&partsB r.ps) else
 if r.k=10 then r.t.may else
 if r.k=11 then (applyB r.pv r.s r.t r.wr) else
 if r.k=12 then (r.s.may&&prsB r.pr) else
 false
theorem fields_1 (r:Rc) (h:Hds) (w:World) (hk:r.k=1) (ok:r.ok) (i:RcIn w r h) (sm:RcSm r h):
 Calls Tryz.prog 43 #[.agg (r.vals h)] w fun e w'=>e=.returned (.bool (mayS r.st))∧Below w.heap.size w w':=by
 obtain⟨k,t,s,pv,cm,n,pt,rd,wr,ps,pr,st⟩:=r
 change k=1 at hk
 subst hk
 have hS:=fun w' (hb:Below w.heap.size w w')=>stateMay_any st h.e.A h.f.A h.e.n h.f.n h.e.c h.f.c w' ok.rg (i.below hb).hs (i.below hb).pn sm.h sm.p
 have hX:Below w.heap.size w (w.alloc (.cells (Rc.vals ⟨1,t,s,pv,cm,n,pt,rd,wr,ps,pr,st⟩ h) 38)):=by go_grown
 have B0:Blk (w.alloc (.cells (Rc.vals ⟨1,t,s,pv,cm,n,pt,rd,wr,ps,pr,st⟩ h) 38)) w.heap.size 38 (Rc.vals ⟨1,t,s,pv,cm,n,pt,rd,wr,ps,pr,st⟩ h):=Blk.new _ _ _
 have HV:=Lib.hid (show (mayS st)=(mayS st) from rfl)
 clear ok i sm
 generalize hg0:mayS st=g0 at*
 clear hg0
 go_enter Tryz.func43,Tryz.ntmps43
 go_wp2_with (first
  |((with_reducible refine(hS _ hX).mono ?_);rintro e w1 ⟨rfl,hb1⟩
    have hY:=hX.trans (hb1.mono hX.size)))
 all_goals go_ret
 all_goals refine⟨ret_bool ?_,by first|exact hY|exact hX⟩
 all_goals first|rfl|(simp_all;done)|(simp_all;omega)
theorem fields_2 (r:Rc) (h:Hds) (w:World) (hk:r.k=2) (ok:r.ok) (i:RcIn w r h) (sm:RcSm r h):
 Calls Tryz.prog 43 #[.agg (r.vals h)] w fun e w'=>e=.returned (.bool (decide (0≤r.n)&&decide (r.n≤281474976710656)))∧Below w.heap.size w w':=by
 obtain⟨k,t,s,pv,cm,n,pt,rd,wr,ps,pr,st⟩:=r
 change k=2 at hk
 subst hk
 have hX:Below w.heap.size w (w.alloc (.cells (Rc.vals ⟨2,t,s,pv,cm,n,pt,rd,wr,ps,pr,st⟩ h) 38)):=by go_grown
 have B0:Blk (w.alloc (.cells (Rc.vals ⟨2,t,s,pv,cm,n,pt,rd,wr,ps,pr,st⟩ h) 38)) w.heap.size 38 (Rc.vals ⟨2,t,s,pv,cm,n,pt,rd,wr,ps,pr,st⟩ h):=Blk.new _ _ _
 have HV:=Lib.hid (show (decide (0≤n)&&decide (n≤281474976710656))=(decide (0≤n)&&decide (n≤281474976710656)) from rfl)
 clear ok i sm
 go_enter Tryz.func43,Tryz.ntmps43
 go_wp2
 all_goals go_ret
 all_goals refine⟨ret_bool ?_,hX⟩
 all_goals first|rfl|(simp_all;done)|(simp_all;omega)
theorem fields_3 (r:Rc) (h:Hds) (w:World) (hk:r.k=3) (ok:r.ok) (i:RcIn w r h) (sm:RcSm r h):
 Calls Tryz.prog 43 #[.agg (r.vals h)] w fun e w'=>e=.returned (.bool ((pendE ⟨r.t,r.s,r.rd,r.wr⟩==0)&&partsB r.ps))∧Below w.heap.size w w':=by
 obtain⟨k,t,s,pv,cm,n,pt,rd,wr,ps,pr,st⟩:=r
 change k=3 at hk
 subst hk
 have hS:=fun w' (hb:Below w.heap.size w w')=>pend_any ⟨t,s,rd,wr⟩ h.a.A h.b.A h.a.n h.b.n h.a.c h.b.c w' (i.below hb).rd (i.below hb).wr i.na sm.b
 have hQ:=fun w' (hb:Below w.heap.size w w')=>parts_any h.c.A h.c.n h.c.c ps w' (i.below hb).ps i.nc
 have hX:Below w.heap.size w (w.alloc (.cells (Rc.vals ⟨3,t,s,pv,cm,n,pt,rd,wr,ps,pr,st⟩ h) 38)):=by go_grown
 have B0:Blk (w.alloc (.cells (Rc.vals ⟨3,t,s,pv,cm,n,pt,rd,wr,ps,pr,st⟩ h) 38)) w.heap.size 38 (Rc.vals ⟨3,t,s,pv,cm,n,pt,rd,wr,ps,pr,st⟩ h):=Blk.new _ _ _
 have HV:=Lib.hid (show ((pendE ⟨t,s,rd,wr⟩==0)&&partsB ps)=((pendE ⟨t,s,rd,wr⟩==0)&&partsB ps) from rfl)
 clear ok i sm
 generalize hg0:pendE ⟨t,s,rd,wr⟩=g0 at*
 generalize hg1:partsB ps=g1 at*
 clear hg0 hg1
 go_enter Tryz.func43,Tryz.ntmps43
 go_wp2_with (first
  |((with_reducible refine(hS _ hX).mono ?_);rintro e w1 ⟨rfl,hb1⟩
    have hY:=hX.trans (hb1.mono hX.size)
    have C0:=B0.below hb1 B0.lt
    have l0:=C0.lt
    have x0_15:=C0.cell 15
    simp only[List.getElem?_toArray,List.getElem?_cons_succ,List.getElem?_cons_zero]at x0_15)
  |((with_reducible refine(hQ _ hY).mono ?_);rintro e w2 ⟨rfl,rfl⟩))
 all_goals go_ret
 all_goals refine⟨ret_bool ?_,by first|exact hY|exact hX⟩
 all_goals first|rfl|(simp_all;done)|(simp_all;omega)
theorem fields_4 (r:Rc) (h:Hds) (w:World) (hk:r.k=4) (ok:r.ok) (i:RcIn w r h) (sm:RcSm r h):
 Calls Tryz.prog 43 #[.agg (r.vals h)] w fun e w'=>e=.returned (.bool (r.t.may&&decB r.cm r.s))∧Below w.heap.size w w':=by
 obtain⟨k,t,s,pv,cm,n,pt,rd,wr,ps,pr,st⟩:=r
 change k=4 at hk
 subst hk
 have hS:=fun w' (hb:Below w.heap.size w w')=>txnMay_any t w'
 have hQ:=fun w' (hb:Below w.heap.size w w')=>decided_any cm s w'
 have hX:Below w.heap.size w (w.alloc (.cells (Rc.vals ⟨4,t,s,pv,cm,n,pt,rd,wr,ps,pr,st⟩ h) 38)):=by go_grown
 have B0:Blk (w.alloc (.cells (Rc.vals ⟨4,t,s,pv,cm,n,pt,rd,wr,ps,pr,st⟩ h) 38)) w.heap.size 38 (Rc.vals ⟨4,t,s,pv,cm,n,pt,rd,wr,ps,pr,st⟩ h):=Blk.new _ _ _
 have HV:=Lib.hid (show (t.may&&decB cm s)=(t.may&&decB cm s) from rfl)
 clear ok i sm
 generalize hg0:t.may=g0 at*
 generalize hg1:decB cm s=g1 at*
 clear hg0 hg1
 go_enter Tryz.func43,Tryz.ntmps43
 go_wp2_with (first
  |((with_reducible refine(hS _ hX).mono ?_);rintro e w1 ⟨rfl,hb1⟩
    have hY:=hX.trans (hb1.mono hX.size)
    have C0:=B0.below hb1 B0.lt
    have l0:=C0.lt
    have x0_4:=C0.cell 4
    have x0_5:=C0.cell 5
    have x0_6:=C0.cell 6
    have x0_10:=C0.cell 10
    simp only[List.getElem?_toArray,List.getElem?_cons_succ,List.getElem?_cons_zero]at x0_4 x0_5 x0_6 x0_10)
  |((with_reducible refine(hQ _ hY).mono ?_);rintro e w2 ⟨rfl,hb2⟩
    have hZ:=hY.trans (hb2.mono hY.size)))
 all_goals go_ret
 all_goals refine⟨ret_bool ?_,by first|exact hZ|exact hY|exact hX⟩
 all_goals first|rfl|(simp_all;done)|(simp_all;omega)
theorem fields_5 (r:Rc) (h:Hds) (w:World) (hk:r.k=5) (ok:r.ok) (i:RcIn w r h) (sm:RcSm r h):
 Calls Tryz.prog 43 #[.agg (r.vals h)] w fun e w'=>e=.returned (.bool r.s.may)∧Below w.heap.size w w':=by
 obtain⟨k,t,s,pv,cm,n,pt,rd,wr,ps,pr,st⟩:=r
 change k=5 at hk
 subst hk
 have hS:=fun w' (hb:Below w.heap.size w w')=>hmayB s w'
 have hX:Below w.heap.size w (w.alloc (.cells (Rc.vals ⟨5,t,s,pv,cm,n,pt,rd,wr,ps,pr,st⟩ h) 38)):=by go_grown
 have B0:Blk (w.alloc (.cells (Rc.vals ⟨5,t,s,pv,cm,n,pt,rd,wr,ps,pr,st⟩ h) 38)) w.heap.size 38 (Rc.vals ⟨5,t,s,pv,cm,n,pt,rd,wr,ps,pr,st⟩ h):=Blk.new _ _ _
 have HV:=Lib.hid (show s.may=s.may from rfl)
 clear ok i sm
 generalize hg0:s.may=g0 at*
 clear hg0
 go_enter Tryz.func43,Tryz.ntmps43
 go_wp2_with (first
  |((with_reducible refine(hS _ hX).mono ?_);rintro e w1 ⟨rfl,hb1⟩
    have hY:=hX.trans (hb1.mono hX.size)))
 all_goals go_ret
 all_goals refine⟨ret_bool ?_,by first|exact hY|exact hX⟩
 all_goals first|rfl|(simp_all;done)|(simp_all;omega)
theorem fields_6 (r:Rc) (h:Hds) (w:World) (hk:r.k=6) (ok:r.ok) (i:RcIn w r h) (sm:RcSm r h):
 Calls Tryz.prog 43 #[.agg (r.vals h)] w fun e w'=>e=.returned (.bool ((pointE r.pt==0)&&fgt (pointV r.pt) 0&&flt (pointV r.pt) 4607182418800017408&&rangesB r.n&&r.s.may))∧Below w.heap.size w w':=by
 obtain⟨k,t,s,pv,cm,n,pt,rd,wr,ps,pr,st⟩:=r
 change k=6 at hk
 subst hk
 have hS:=fun w' (hb:Below w.heap.size w w')=>point pt w' ok.pt
 have hQ:=fun w' (hb:Below w.heap.size w w')=>ranges_any n w'
 have hR:=fun w' (hb:Below w.heap.size w w')=>hmayB s w'
 have hX:Below w.heap.size w (w.alloc (.cells (Rc.vals ⟨6,t,s,pv,cm,n,pt,rd,wr,ps,pr,st⟩ h) 38)):=by go_grown
 have B0:Blk (w.alloc (.cells (Rc.vals ⟨6,t,s,pv,cm,n,pt,rd,wr,ps,pr,st⟩ h) 38)) w.heap.size 38 (Rc.vals ⟨6,t,s,pv,cm,n,pt,rd,wr,ps,pr,st⟩ h):=Blk.new _ _ _
 have HV:=Lib.hid (show ((pointE pt==0)&&fgt (pointV pt) 0&&flt (pointV pt) 4607182418800017408&&rangesB n&&s.may)=((pointE pt==0)&&fgt (pointV pt) 0&&flt (pointV pt) 4607182418800017408&&rangesB n&&s.may) from rfl)
 clear ok i sm
 generalize hg0:rangesB n=g0 at*
 generalize hg1:s.may=g1 at*
 clear hg0 hg1
 go_enter Tryz.func43,Tryz.ntmps43
 go_wp2_with (first
  |((with_reducible refine(hS _ hX).mono ?_);rintro e w1 ⟨rfl,rfl⟩)
  |((with_reducible refine(hQ _ hX).mono ?_);rintro e w2 ⟨rfl,rfl⟩)
  |((with_reducible refine(hR _ hX).mono ?_);rintro e w3 ⟨rfl,hb3⟩
    have hW:=hX.trans (hb3.mono hX.size)))
 all_goals go_ret
 all_goals refine⟨ret_bool ?_,by first|exact hW|exact hX⟩
 all_goals first|rfl|(simp_all [fgt,flt];done)|(simp_all;omega)
theorem fields_7 (r:Rc) (h:Hds) (w:World) (hk:r.k=7) (ok:r.ok) (i:RcIn w r h) (sm:RcSm r h):
 Calls Tryz.prog 43 #[.agg (r.vals h)] w fun e w'=>e=.returned (.bool (rangesB r.n))∧Below w.heap.size w w':=by
 obtain⟨k,t,s,pv,cm,n,pt,rd,wr,ps,pr,st⟩:=r
 change k=7 at hk
 subst hk
 have hS:=fun w' (hb:Below w.heap.size w w')=>ranges_any n w'
 have hX:Below w.heap.size w (w.alloc (.cells (Rc.vals ⟨7,t,s,pv,cm,n,pt,rd,wr,ps,pr,st⟩ h) 38)):=by go_grown
 have B0:Blk (w.alloc (.cells (Rc.vals ⟨7,t,s,pv,cm,n,pt,rd,wr,ps,pr,st⟩ h) 38)) w.heap.size 38 (Rc.vals ⟨7,t,s,pv,cm,n,pt,rd,wr,ps,pr,st⟩ h):=Blk.new _ _ _
 have HV:=Lib.hid (show (rangesB n)=(rangesB n) from rfl)
 clear ok i sm
 generalize hg0:rangesB n=g0 at*
 clear hg0
 go_enter Tryz.func43,Tryz.ntmps43
 go_wp2_with (first
  |((with_reducible refine(hS _ hX).mono ?_);rintro e w1 ⟨rfl,rfl⟩))
 all_goals go_ret
 all_goals refine⟨ret_bool ?_,by first|exact hX⟩
 all_goals first|rfl|(simp_all;done)|(simp_all;omega)
theorem fields_8 (r:Rc) (h:Hds) (w:World) (hk:r.k=8) (ok:r.ok) (i:RcIn w r h) (sm:RcSm r h):
 Calls Tryz.prog 43 #[.agg (r.vals h)] w fun e w'=>e=.returned (.bool (decide (1≤r.n)))∧Below w.heap.size w w':=by
 obtain⟨k,t,s,pv,cm,n,pt,rd,wr,ps,pr,st⟩:=r
 change k=8 at hk
 subst hk
 have hX:Below w.heap.size w (w.alloc (.cells (Rc.vals ⟨8,t,s,pv,cm,n,pt,rd,wr,ps,pr,st⟩ h) 38)):=by go_grown
 have B0:Blk (w.alloc (.cells (Rc.vals ⟨8,t,s,pv,cm,n,pt,rd,wr,ps,pr,st⟩ h) 38)) w.heap.size 38 (Rc.vals ⟨8,t,s,pv,cm,n,pt,rd,wr,ps,pr,st⟩ h):=Blk.new _ _ _
 have HV:=Lib.hid (show (decide (1≤n))=(decide (1≤n)) from rfl)
 clear ok i sm
 go_enter Tryz.func43,Tryz.ntmps43
 go_wp2
 all_goals go_ret
 all_goals refine⟨ret_bool ?_,hX⟩
 all_goals first|rfl|(simp_all;done)|(simp_all;omega)
theorem fields_9 (r:Rc) (h:Hds) (w:World) (hk:r.k=9) (ok:r.ok) (i:RcIn w r h) (sm:RcSm r h):
 Calls Tryz.prog 43 #[.agg (r.vals h)] w fun e w'=>e=.returned (.bool (r.t.may&&r.s.mom&&partsB r.ps))∧Below w.heap.size w w':=by
 obtain⟨k,t,s,pv,cm,n,pt,rd,wr,ps,pr,st⟩:=r
 change k=9 at hk
 subst hk
 have hS:=fun w' (hb:Below w.heap.size w w')=>txnMay_any t w'
 have hQ:=fun w' (hb:Below w.heap.size w w')=>moment_any s w'
 have hR:=fun w' (hb:Below w.heap.size w w')=>parts_any h.c.A h.c.n h.c.c ps w' (i.below hb).ps i.nc
 have hX:Below w.heap.size w (w.alloc (.cells (Rc.vals ⟨9,t,s,pv,cm,n,pt,rd,wr,ps,pr,st⟩ h) 38)):=by go_grown
 have B0:Blk (w.alloc (.cells (Rc.vals ⟨9,t,s,pv,cm,n,pt,rd,wr,ps,pr,st⟩ h) 38)) w.heap.size 38 (Rc.vals ⟨9,t,s,pv,cm,n,pt,rd,wr,ps,pr,st⟩ h):=Blk.new _ _ _
 have HV:=Lib.hid (show (t.may&&s.mom&&partsB ps)=(t.may&&s.mom&&partsB ps) from rfl)
 clear ok i sm
 generalize hg0:t.may=g0 at*
 generalize hg1:s.mom=g1 at*
 generalize hg2:partsB ps=g2 at*
 clear hg0 hg1 hg2
 go_enter Tryz.func43,Tryz.ntmps43
 go_wp2_with (first
  |((with_reducible refine(hS _ hX).mono ?_);rintro e w1 ⟨rfl,hb1⟩
    have hY:=hX.trans (hb1.mono hX.size)
    have C0:=B0.below hb1 B0.lt
    have l0:=C0.lt
    have x0_4:=C0.cell 4
    have x0_5:=C0.cell 5
    have x0_6:=C0.cell 6
    have x0_15:=C0.cell 15
    simp only[List.getElem?_toArray,List.getElem?_cons_succ,List.getElem?_cons_zero]at x0_4 x0_5 x0_6 x0_15)
  |((with_reducible refine(hQ _ hY).mono ?_);rintro e w2 ⟨rfl,hb2⟩
    have hZ:=hY.trans (hb2.mono hY.size)
    have C1:=C0.below hb2 C0.lt
    have l1:=C1.lt
    have x1_4:=C1.cell 4
    have x1_5:=C1.cell 5
    have x1_6:=C1.cell 6
    have x1_15:=C1.cell 15
    simp only[List.getElem?_toArray,List.getElem?_cons_succ,List.getElem?_cons_zero]at x1_4 x1_5 x1_6 x1_15)
  |((with_reducible refine(hR _ hZ).mono ?_);rintro e w3 ⟨rfl,rfl⟩))
 all_goals go_ret
 all_goals refine⟨ret_bool ?_,by first|exact hZ|exact hY|exact hX⟩
 all_goals first|rfl|(simp_all;done)|(simp_all;omega)
theorem fields_10 (r:Rc) (h:Hds) (w:World) (hk:r.k=10) (ok:r.ok) (i:RcIn w r h) (sm:RcSm r h):
 Calls Tryz.prog 43 #[.agg (r.vals h)] w fun e w'=>e=.returned (.bool r.t.may)∧Below w.heap.size w w':=by
 obtain⟨k,t,s,pv,cm,n,pt,rd,wr,ps,pr,st⟩:=r
 change k=10 at hk
 subst hk
 have hS:=fun w' (hb:Below w.heap.size w w')=>txnMay_any t w'
 have hX:Below w.heap.size w (w.alloc (.cells (Rc.vals ⟨10,t,s,pv,cm,n,pt,rd,wr,ps,pr,st⟩ h) 38)):=by go_grown
 have B0:Blk (w.alloc (.cells (Rc.vals ⟨10,t,s,pv,cm,n,pt,rd,wr,ps,pr,st⟩ h) 38)) w.heap.size 38 (Rc.vals ⟨10,t,s,pv,cm,n,pt,rd,wr,ps,pr,st⟩ h):=Blk.new _ _ _
 have HV:=Lib.hid (show t.may=t.may from rfl)
 clear ok i sm
 generalize hg0:t.may=g0 at*
 clear hg0
 go_enter Tryz.func43,Tryz.ntmps43
 go_wp2_with (first
  |((with_reducible refine(hS _ hX).mono ?_);rintro e w1 ⟨rfl,hb1⟩
    have hY:=hX.trans (hb1.mono hX.size)))
 all_goals go_ret
 all_goals refine⟨ret_bool ?_,by first|exact hY|exact hX⟩
 all_goals first|rfl|(simp_all;done)|(simp_all;omega)
theorem fields_11 (r:Rc) (h:Hds) (w:World) (hk:r.k=11) (ok:r.ok) (i:RcIn w r h) (sm:RcSm r h):
 Calls Tryz.prog 43 #[.agg (r.vals h)] w fun e w'=>e=.returned (.bool (applyB r.pv r.s r.t r.wr))∧Below w.heap.size w w':=by
 obtain⟨k,t,s,pv,cm,n,pt,rd,wr,ps,pr,st⟩:=r
 change k=11 at hk
 subst hk
 have hS:=fun w' (hb:Below w.heap.size w w')=>apply_any pv s t h.b.A h.b.n h.b.c wr w' (i.below hb).wr sm.b
 have hX:Below w.heap.size w (w.alloc (.cells (Rc.vals ⟨11,t,s,pv,cm,n,pt,rd,wr,ps,pr,st⟩ h) 38)):=by go_grown
 have B0:Blk (w.alloc (.cells (Rc.vals ⟨11,t,s,pv,cm,n,pt,rd,wr,ps,pr,st⟩ h) 38)) w.heap.size 38 (Rc.vals ⟨11,t,s,pv,cm,n,pt,rd,wr,ps,pr,st⟩ h):=Blk.new _ _ _
 have HV:=Lib.hid (show (applyB pv s t wr)=(applyB pv s t wr) from rfl)
 clear ok i sm
 generalize hg0:applyB pv s t wr=g0 at*
 clear hg0
 go_enter Tryz.func43,Tryz.ntmps43
 go_wp2_with (first
  |((with_reducible refine(hS _ hX).mono ?_);rintro e w1 ⟨rfl,hb1⟩
    have hY:=hX.trans (hb1.mono hX.size)))
 all_goals go_ret
 all_goals refine⟨ret_bool ?_,by first|exact hY|exact hX⟩
 all_goals first|rfl|(simp_all;done)|(simp_all;omega)
theorem fields_12 (r:Rc) (h:Hds) (w:World) (hk:r.k=12) (ok:r.ok) (i:RcIn w r h) (sm:RcSm r h):
 Calls Tryz.prog 43 #[.agg (r.vals h)] w fun e w'=>e=.returned (.bool (r.s.may&&prsB r.pr))∧Below w.heap.size w w':=by
 obtain⟨k,t,s,pv,cm,n,pt,rd,wr,ps,pr,st⟩:=r
 change k=12 at hk
 subst hk
 have hS:=fun w' (hb:Below w.heap.size w w')=>hmayB s w'
 have hQ:=fun w' (hb:Below w.heap.size w w')=>prs_any h.d.A h.d.n h.d.c pr w' (i.below hb).pr i.nd
 have hX:Below w.heap.size w (w.alloc (.cells (Rc.vals ⟨12,t,s,pv,cm,n,pt,rd,wr,ps,pr,st⟩ h) 38)):=by go_grown
 have B0:Blk (w.alloc (.cells (Rc.vals ⟨12,t,s,pv,cm,n,pt,rd,wr,ps,pr,st⟩ h) 38)) w.heap.size 38 (Rc.vals ⟨12,t,s,pv,cm,n,pt,rd,wr,ps,pr,st⟩ h):=Blk.new _ _ _
 have HV:=Lib.hid (show (s.may&&prsB pr)=(s.may&&prsB pr) from rfl)
 clear ok i sm
 generalize hg0:s.may=g0 at*
 generalize hg1:prsB pr=g1 at*
 clear hg0 hg1
 go_enter Tryz.func43,Tryz.ntmps43
 go_wp2_with (first
  |((with_reducible refine(hS _ hX).mono ?_);rintro e w1 ⟨rfl,hb1⟩
    have hY:=hX.trans (hb1.mono hX.size)
    have C0:=B0.below hb1 B0.lt
    have l0:=C0.lt
    have x0_16:=C0.cell 16
    simp only[List.getElem?_toArray,List.getElem?_cons_succ,List.getElem?_cons_zero]at x0_16)
  |((with_reducible refine(hQ _ hY).mono ?_);rintro e w2 ⟨rfl,hb2⟩
    have hZ:=hY.trans (hb2.mono hY.size)))
 all_goals go_ret
 all_goals refine⟨ret_bool ?_,by first|exact hZ|exact hY|exact hX⟩
 all_goals first|rfl|(simp_all;done)|(simp_all;omega)
theorem fields_any (r:Rc) (h:Hds) (w:World) (hk:kindB r.k=true) (ok:r.ok) (i:RcIn w r h) (sm:RcSm r h):
 Calls Tryz.prog 43 #[.agg (r.vals h)] w fun e w'=>e=.returned (.bool (fieldsB r))∧Below w.heap.size w w':=by
 unfold kindB at hk
 rw[decide_eq_true_eq]at hk
 have hc:r.k=1∨r.k=2∨r.k=3∨r.k=4∨r.k=5∨r.k=6∨r.k=7∨r.k=8∨r.k=9∨r.k=10∨r.k=11∨r.k=12:=by omega
 rcases hc with e|e|e|e|e|e|e|e|e|e|e|e
 · have e1:fieldsB r=(mayS r.st):=by unfold fieldsB;simp only[e];rfl
   rw[e1];exact fields_1 r h w e ok i sm
 · have e1:fieldsB r=(decide (0≤r.n)&&decide (r.n≤281474976710656)):=by unfold fieldsB;simp only[e];rfl
   rw[e1];exact fields_2 r h w e ok i sm
 · have e1:fieldsB r=((pendE ⟨r.t,r.s,r.rd,r.wr⟩==0)&&partsB r.ps):=by unfold fieldsB;simp only[e];rfl
   rw[e1];exact fields_3 r h w e ok i sm
 · have e1:fieldsB r=(r.t.may&&decB r.cm r.s):=by unfold fieldsB;simp only[e];rfl
   rw[e1];exact fields_4 r h w e ok i sm
 · have e1:fieldsB r=r.s.may:=by unfold fieldsB;simp only[e];rfl
   rw[e1];exact fields_5 r h w e ok i sm
 · have e1:fieldsB r=((pointE r.pt==0)&&fgt (pointV r.pt) 0&&flt (pointV r.pt) 4607182418800017408&&rangesB r.n&&r.s.may):=by unfold fieldsB;simp only[e];rfl
   rw[e1];exact fields_6 r h w e ok i sm
 · have e1:fieldsB r=(rangesB r.n):=by unfold fieldsB;simp only[e];rfl
   rw[e1];exact fields_7 r h w e ok i sm
 · have e1:fieldsB r=(decide (1≤r.n)):=by unfold fieldsB;simp only[e];rfl
   rw[e1];exact fields_8 r h w e ok i sm
 · have e1:fieldsB r=(r.t.may&&r.s.mom&&partsB r.ps):=by unfold fieldsB;simp only[e];rfl
   rw[e1];exact fields_9 r h w e ok i sm
 · have e1:fieldsB r=r.t.may:=by unfold fieldsB;simp only[e];rfl
   rw[e1];exact fields_10 r h w e ok i sm
 · have e1:fieldsB r=(applyB r.pv r.s r.t r.wr):=by unfold fieldsB;simp only[e];rfl
   rw[e1];exact fields_11 r h w e ok i sm
 · have e1:fieldsB r=(r.s.may&&prsB r.pr):=by unfold fieldsB;simp only[e];rfl
   rw[e1];exact fields_12 r h w e ok i sm
end Go.Proofs.YthdmanadhbpogaaGreat
/- Plain laws of a record that is read. -/
namespace Go.Proofs.YthdmanadhbpogaaGreat
set_option linter.unusedVariables false
open Go.RowKit Fl
theorem rBody_1e:RdEnc (rBody 1) encBody:=by
 have a0:RdEnc rSt (encSt):=rSt_enc
 refine a0.map fun l s=>?_
 rw[rBody_1]
 refine⟨rfl,?_⟩
 unfold encBody
 simp
theorem rBody_1s:Stk (rBody 1):=fun l s h=>by
 have hf:Stk rSt:=rSt_stk
 rw[rBody_1]
 exact hf l s h
theorem rBody_2e:RdEnc (rBody 2) encBody:=by
 have a0:RdEnc rInt (encI):=rInt_enc'
 refine a0.map fun l s=>?_
 rw[rBody_2]
 refine⟨rfl,?_⟩
 unfold encBody
 simp
theorem rBody_2s:Stk (rBody 2):=fun l s h=>by
 have hf:Stk rInt:=rInt_stk
 rw[rBody_2]
 exact hf l s h
theorem rBody_3e:RdEnc (rBody 3) encBody:=by
 have a0:RdEnc rPn (encPn):=rPn_enc
 have a1:RdEnc (rTwo rPn (rLs rInt) Prod.mk) (fun a:(Pn)×(List Int)=>(encPn) a.1++encLs encI a.2):=rTwo_enc a0 (rLs_enc rInt_enc') (rLs_stk _) fun _ _=>rfl
 refine a1.map fun l s=>?_
 rw[rBody_3]
 refine⟨rfl,?_⟩
 unfold encBody
 simp[rTwo]
theorem rBody_3s:Stk (rBody 3):=fun l s h=>by
 have hf:Stk (rTwo rPn (rLs rInt) Prod.mk):=(rTwo_stk rPn_stk (rLs_stk _))
 rw[rBody_3]
 exact hf l s h
theorem rBody_4e:RdEnc (rBody 4) encBody:=by
 have a0:RdEnc rTx (encTx):=rTx_enc
 have a1:RdEnc (rTwo rTx rFlag Prod.mk) (fun a:(Tx)×(Bool)=>(encTx) a.1++encB a.2):=rTwo_enc a0 rFlag_enc' rFlag_stk fun _ _=>rfl
 have a2:RdEnc (rTwo (rTwo rTx rFlag Prod.mk) rSp Prod.mk) (fun a:((Tx)×(Bool))×(Sp)=>(fun a:(Tx)×(Bool)=>(encTx) a.1++encB a.2) a.1++encSp a.2):=rTwo_enc a1 rSp_enc rSp_stk fun _ _=>rfl
 refine a2.map fun l s=>?_
 rw[rBody_4]
 refine⟨rfl,?_⟩
 unfold encBody
 simp[rTwo]
theorem rBody_4s:Stk (rBody 4):=fun l s h=>by
 have hf:Stk (rTwo (rTwo rTx rFlag Prod.mk) rSp Prod.mk):=(rTwo_stk (rTwo_stk rTx_stk rFlag_stk) rSp_stk)
 rw[rBody_4]
 exact hf l s h
theorem rBody_5e:RdEnc (rBody 5) encBody:=by
 have a0:RdEnc rSp (encSp):=rSp_enc
 refine a0.map fun l s=>?_
 rw[rBody_5]
 refine⟨rfl,?_⟩
 unfold encBody
 simp
theorem rBody_5s:Stk (rBody 5):=fun l s h=>by
 have hf:Stk rSp:=rSp_stk
 rw[rBody_5]
 exact hf l s h
theorem rBody_6e:RdEnc (rBody 6) encBody:=by
 have a0:RdEnc rFloat (encF64):=rFloat_enc'
 have a1:RdEnc (rTwo rFloat rInt Prod.mk) (fun a:(Nat)×(Int)=>(encF64) a.1++encI a.2):=rTwo_enc a0 rInt_enc' rInt_stk fun _ _=>rfl
 have a2:RdEnc (rTwo (rTwo rFloat rInt Prod.mk) rSp Prod.mk) (fun a:((Nat)×(Int))×(Sp)=>(fun a:(Nat)×(Int)=>(encF64) a.1++encI a.2) a.1++encSp a.2):=rTwo_enc a1 rSp_enc rSp_stk fun _ _=>rfl
 refine a2.map fun l s=>?_
 rw[rBody_6]
 refine⟨rfl,?_⟩
 unfold encBody
 simp[rTwo]
theorem rBody_6s:Stk (rBody 6):=fun l s h=>by
 have hf:Stk (rTwo (rTwo rFloat rInt Prod.mk) rSp Prod.mk):=(rTwo_stk (rTwo_stk rFloat_stk rInt_stk) rSp_stk)
 rw[rBody_6]
 exact hf l s h
theorem rBody_7e:RdEnc (rBody 7) encBody:=by
 have a0:RdEnc rInt (encI):=rInt_enc'
 refine a0.map fun l s=>?_
 rw[rBody_7]
 refine⟨rfl,?_⟩
 unfold encBody
 simp
theorem rBody_7s:Stk (rBody 7):=fun l s h=>by
 have hf:Stk rInt:=rInt_stk
 rw[rBody_7]
 exact hf l s h
theorem rBody_8e:RdEnc (rBody 8) encBody:=by
 have a0:RdEnc rInt (encI):=rInt_enc'
 refine a0.map fun l s=>?_
 rw[rBody_8]
 refine⟨rfl,?_⟩
 unfold encBody
 simp
theorem rBody_8s:Stk (rBody 8):=fun l s h=>by
 have hf:Stk rInt:=rInt_stk
 rw[rBody_8]
 exact hf l s h
theorem rBody_9e:RdEnc (rBody 9) encBody:=by
 have a0:RdEnc rTx (encTx):=rTx_enc
 have a1:RdEnc (rTwo rTx rSp Prod.mk) (fun a:(Tx)×(Sp)=>(encTx) a.1++encSp a.2):=rTwo_enc a0 rSp_enc rSp_stk fun _ _=>rfl
 have a2:RdEnc (rTwo (rTwo rTx rSp Prod.mk) (rLs rInt) Prod.mk) (fun a:((Tx)×(Sp))×(List Int)=>(fun a:(Tx)×(Sp)=>(encTx) a.1++encSp a.2) a.1++encLs encI a.2):=rTwo_enc a1 (rLs_enc rInt_enc') (rLs_stk _) fun _ _=>rfl
 refine a2.map fun l s=>?_
 rw[rBody_9]
 refine⟨rfl,?_⟩
 unfold encBody
 simp[rTwo]
theorem rBody_9s:Stk (rBody 9):=fun l s h=>by
 have hf:Stk (rTwo (rTwo rTx rSp Prod.mk) (rLs rInt) Prod.mk):=(rTwo_stk (rTwo_stk rTx_stk rSp_stk) (rLs_stk _))
 rw[rBody_9]
 exact hf l s h
theorem rBody_10e:RdEnc (rBody 10) encBody:=by
 have a0:RdEnc rTx (encTx):=rTx_enc
 refine a0.map fun l s=>?_
 rw[rBody_10]
 refine⟨rfl,?_⟩
 unfold encBody
 simp
theorem rBody_10s:Stk (rBody 10):=fun l s h=>by
 have hf:Stk rTx:=rTx_stk
 rw[rBody_10]
 exact hf l s h
theorem rBody_11e:RdEnc (rBody 11) encBody:=by
 have a0:RdEnc rSp (encSp):=rSp_enc
 have a1:RdEnc (rTwo rSp rSp Prod.mk) (fun a:(Sp)×(Sp)=>(encSp) a.1++encSp a.2):=rTwo_enc a0 rSp_enc rSp_stk fun _ _=>rfl
 have a2:RdEnc (rTwo (rTwo rSp rSp Prod.mk) rTx Prod.mk) (fun a:((Sp)×(Sp))×(Tx)=>(fun a:(Sp)×(Sp)=>(encSp) a.1++encSp a.2) a.1++encTx a.2):=rTwo_enc a1 rTx_enc rTx_stk fun _ _=>rfl
 have a3:RdEnc (rTwo (rTwo (rTwo rSp rSp Prod.mk) rTx Prod.mk) (rLs rWt) Prod.mk) (fun a:(((Sp)×(Sp))×(Tx))×(List Wt)=>(fun a:((Sp)×(Sp))×(Tx)=>(fun a:(Sp)×(Sp)=>(encSp) a.1++encSp a.2) a.1++encTx a.2) a.1++encLs encWt a.2):=rTwo_enc a2 (rLs_enc rWt_enc) (rLs_stk _) fun _ _=>rfl
 refine a3.map fun l s=>?_
 rw[rBody_11]
 refine⟨rfl,?_⟩
 unfold encBody
 simp[rTwo]
theorem rBody_11s:Stk (rBody 11):=fun l s h=>by
 have hf:Stk (rTwo (rTwo (rTwo rSp rSp Prod.mk) rTx Prod.mk) (rLs rWt) Prod.mk):=(rTwo_stk (rTwo_stk (rTwo_stk rSp_stk rSp_stk) rTx_stk) (rLs_stk _))
 rw[rBody_11]
 exact hf l s h
theorem rBody_12e:RdEnc (rBody 12) encBody:=by
 have a0:RdEnc rSp (encSp):=rSp_enc
 have a1:RdEnc (rTwo rSp (rLs rWt) Prod.mk) (fun a:(Sp)×(List Wt)=>(encSp) a.1++encLs encWt a.2):=rTwo_enc a0 (rLs_enc rWt_enc) (rLs_stk _) fun _ _=>rfl
 refine a1.map fun l s=>?_
 rw[rBody_12]
 refine⟨rfl,?_⟩
 unfold encBody
 simp[rTwo]
theorem rBody_12s:Stk (rBody 12):=fun l s h=>by
 have hf:Stk (rTwo rSp (rLs rWt) Prod.mk):=(rTwo_stk rSp_stk (rLs_stk _))
 rw[rBody_12]
 exact hf l s h
theorem kinds12 {k:Int} (h:kindB k=true):k=1∨k=2∨k=3∨k=4∨k=5∨k=6∨k=7∨k=8∨k=9∨k=10∨k=11∨k=12:=by
 unfold kindB at h
 rw[decide_eq_true_eq]at h
 omega
theorem encBody_o (r:Rc) (h:kindB r.k=false):encBody r=[]:=by
 unfold kindB at h
 rw[decide_eq_false_iff_not]at h
 unfold encBody
 rw[if_neg (by omega),if_neg (by omega),if_neg (by omega),if_neg (by omega),if_neg (by omega),if_neg (by omega),if_neg (by omega),if_neg (by omega),if_neg (by omega),if_neg (by omega),if_neg (by omega),if_neg (by omega)]
theorem rBody_enc (k:Int):RdEnc (rBody k) encBody:=by
 cases hk:kindB k
 · intro l s hs h
   rw[rBody_o k l s hk]
   exact⟨hs,by rw[encBody_o _ hk,List.append_nil]⟩
 · rcases kinds12 hk with rfl|rfl|rfl|rfl|rfl|rfl|rfl|rfl|rfl|rfl|rfl|rfl
   · exact rBody_1e
   · exact rBody_2e
   · exact rBody_3e
   · exact rBody_4e
   · exact rBody_5e
   · exact rBody_6e
   · exact rBody_7e
   · exact rBody_8e
   · exact rBody_9e
   · exact rBody_10e
   · exact rBody_11e
   · exact rBody_12e
theorem rBody_stk (k:Int):Stk (rBody k):=by
 cases hk:kindB k
 · intro l s h
   rw[rBody_o k _ s hk]
 · rcases kinds12 hk with rfl|rfl|rfl|rfl|rfl|rfl|rfl|rfl|rfl|rfl|rfl|rfl
   · exact rBody_1s
   · exact rBody_2s
   · exact rBody_3s
   · exact rBody_4s
   · exact rBody_5s
   · exact rBody_6s
   · exact rBody_7s
   · exact rBody_8s
   · exact rBody_9s
   · exact rBody_10s
   · exact rBody_11s
   · exact rBody_12s
theorem rBody_k (k:Int) (l:List UInt8) (s:RS):(rBody k l s).1.k=k:=by
 cases hk:kindB k
 · rw[rBody_o k _ s hk]
 · rcases kinds12 hk with rfl|rfl|rfl|rfl|rfl|rfl|rfl|rfl|rfl|rfl|rfl|rfl
   · rw[rBody_1]
   · rw[rBody_2]
   · rw[rBody_3]
   · rw[rBody_4]
   · rw[rBody_5]
   · rw[rBody_6]
   · rw[rBody_7]
   · rw[rBody_8]
   · rw[rBody_9]
   · rw[rBody_10]
   · rw[rBody_11]
   · rw[rBody_12]
theorem rRc_enc:RdEnc rRc encRc:=fun l s hs h=>by
 have h1:(rInt l s).2.e=0:=(rBody_stk _).ok h
 obtain⟨a1,a2⟩:=rInt_enc' l s hs h1
 obtain⟨b1,b2⟩:=rBody_enc (rInt l s).1 l _ a1 h
 refine⟨b1,?_⟩
 show l.take (rBody (rInt l s).1 l (rInt l s).2).2.at_=l.take s.at_++encRc (rBody (rInt l s).1 l (rInt l s).2).1
 unfold encRc
 rw[b2,a2,rBody_k,List.append_assoc]
structure RcCnt (N:Nat) (r:Rc):Prop where
 rd:r.rd.length≤N
 wr:r.wr.length≤N
 ps:r.ps.length≤N
 pr:r.pr.length≤N
 h:r.st.h.length≤N∧∀h∈r.st.h,h.vs.length≤N
 p:r.st.p.length≤N∧∀p∈r.st.p,p.r.length≤N∧p.w.length≤N
theorem rSt_cnt (l:List UInt8) (s:RS):((rSt l s).1.h.length≤l.length∧∀h∈(rSt l s).1.h,h.vs.length≤l.length)∧((rSt l s).1.p.length≤l.length∧∀p∈(rSt l s).1.p,p.r.length≤l.length∧p.w.length≤l.length):=
 ⟨⟨rLs_le l _,rLs_all (Q:=fun h:Hs=>h.vs.length≤l.length) l _ fun s=>rLs_le l _⟩,rLs_le l _,rLs_all (Q:=fun p:Pn=>p.r.length≤l.length∧p.w.length≤l.length) l _ fun s=>⟨rLs_le l _,rLs_le l _⟩⟩
theorem rRc_cnt (l:List UInt8) (s:RS):RcCnt l.length (rRc l s).1:=by
 have z0:([]:List Hs).length≤l.length∧∀h∈([]:List Hs),h.vs.length≤l.length:=⟨Nat.zero_le _,fun h hh=>by cases hh⟩
 have z1:([]:List Pn).length≤l.length∧∀p∈([]:List Pn),p.r.length≤l.length∧p.w.length≤l.length:=⟨Nat.zero_le _,fun h hh=>by cases hh⟩
 show RcCnt l.length (rBody (rInt l s).1 l (rInt l s).2).1
 generalize (rInt l s).2=s0
 generalize (rInt l s).1=k
 cases hk:kindB k
 · rw[rBody_o k _ s0 hk]
   exact⟨Nat.zero_le _,Nat.zero_le _,Nat.zero_le _,Nat.zero_le _,z0,z1⟩
 · rcases kinds12 hk with rfl|rfl|rfl|rfl|rfl|rfl|rfl|rfl|rfl|rfl|rfl|rfl
   · rw[rBody_1]
     exact⟨Nat.zero_le _,Nat.zero_le _,Nat.zero_le _,Nat.zero_le _,(rSt_cnt l _).1,(rSt_cnt l _).2⟩
   · rw[rBody_2]
     exact⟨Nat.zero_le _,Nat.zero_le _,Nat.zero_le _,Nat.zero_le _,z0,z1⟩
   · rw[rBody_3]
     exact⟨rLs_le l _,rLs_le l _,rLs_le l _,Nat.zero_le _,z0,z1⟩
   · rw[rBody_4]
     exact⟨Nat.zero_le _,Nat.zero_le _,Nat.zero_le _,Nat.zero_le _,z0,z1⟩
   · rw[rBody_5]
     exact⟨Nat.zero_le _,Nat.zero_le _,Nat.zero_le _,Nat.zero_le _,z0,z1⟩
   · rw[rBody_6]
     exact⟨Nat.zero_le _,Nat.zero_le _,Nat.zero_le _,Nat.zero_le _,z0,z1⟩
   · rw[rBody_7]
     exact⟨Nat.zero_le _,Nat.zero_le _,Nat.zero_le _,Nat.zero_le _,z0,z1⟩
   · rw[rBody_8]
     exact⟨Nat.zero_le _,Nat.zero_le _,Nat.zero_le _,Nat.zero_le _,z0,z1⟩
   · rw[rBody_9]
     exact⟨Nat.zero_le _,Nat.zero_le _,rLs_le l _,Nat.zero_le _,z0,z1⟩
   · rw[rBody_10]
     exact⟨Nat.zero_le _,Nat.zero_le _,Nat.zero_le _,Nat.zero_le _,z0,z1⟩
   · rw[rBody_11]
     exact⟨Nat.zero_le _,rLs_le l _,Nat.zero_le _,Nat.zero_le _,z0,z1⟩
   · rw[rBody_12]
     exact⟨Nat.zero_le _,Nat.zero_le _,Nat.zero_le _,rLs_le l _,z0,z1⟩
theorem RcCnt.sm {N:Nat} {r:Rc} {h:Hds} (hc:RcCnt N r) (hN:N≤1000000) (h1:r.rd.length=h.a.n) (h2:r.wr.length=h.b.n) (h3:r.ps.length=h.c.n) (h4:r.pr.length=h.d.n):RcSm r h:=
 ⟨by rw[←h1];exact Nat.le_trans hc.rd hN,by rw[←h2];exact Nat.le_trans hc.wr hN,by rw[←h3];exact Nat.le_trans hc.ps hN,by rw[←h4];exact Nat.le_trans hc.pr hN,
  ⟨Nat.le_trans hc.h.1 hN,fun x hx=>Nat.le_trans (hc.h.2 x hx) hN⟩,⟨Nat.le_trans hc.p.1 hN,fun x hx=>⟨Nat.le_trans (hc.p.2 x hx).1 hN,Nat.le_trans (hc.p.2 x hx).2 hN⟩⟩⟩
end Go.Proofs.YthdmanadhbpogaaGreat
/- The walk of recs' May. -/
namespace Go.Proofs.YthdmanadhbpogaaGreat
set_option linter.unusedVariables false
open Go.RowKit Fl
attribute [local go_sem] run_store_float
theorem wpList_load_row_g {P:Program} {w:World} {ops:Array Oper} {rest:List Oper} {o:Oper} {a:Act} {Q:Exit→Act→World→Prop} (hw:Region.wanted o (yielded ops a.tmps)=true) (ty:TypeId) (x:Operand) (ho:o.op=.load ty x)
 (g:Nat) (hx:a.eval x=.pointer (some ⟨g,0,none⟩)) (t:TypeId) (cs:Array Value) (fr:Nat×Nat) (d:TypeDesc) (hg:w.heap[g]?=some (.cells cs t fr))
 (hu:P.underlying ty=some d) (hd:(match d with| .struct _| .array _ _=>true|_=>false)=true) (hi:(P.info? ty).map (·.size)=some cs.size)
 (h:wpList P ops Q rest (a.put o.dst (.agg cs)) w):wpList P ops Q (o::rest) a w:=
 wpList_step fun _ hK=>by rw[if_pos hw];exact wp_load_row ty x ho g hx t cs fr d hg hu hd hi (hK _ _ h)
theorem wipe_len (r:Rc) (h:Hds) (h1:r.rd.length=h.a.n) (h2:r.wr.length=h.b.n) (h3:r.ps.length=h.c.n) (h4:r.pr.length=h.d.n) (h5:r.st.h.length=h.e.n) (h6:r.st.p.length=h.f.n):
 (wipe r).rd.length=(wipeH r.k h).a.n∧(wipe r).wr.length=(wipeH r.k h).b.n∧(wipe r).ps.length=(wipeH r.k h).c.n∧(wipe r).pr.length=(wipeH r.k h).d.n∧(wipe r).st.h.length=(wipeH r.k h).e.n∧(wipe r).st.p.length=(wipeH r.k h).f.n:=by
 by_cases hk:kindB r.k=true
 · unfold kindB at hk
   rw[decide_eq_true_eq]at hk
   have hc:r.k=1∨r.k=2∨r.k=3∨r.k=4∨r.k=5∨r.k=6∨r.k=7∨r.k=8∨r.k=9∨r.k=10∨r.k=11∨r.k=12:=by omega
   rcases hc with e|e|e|e|e|e|e|e|e|e|e|e
   all_goals simp[wipe,wipeH,e,h1,h2,h3,h4,h5,h6,zeroS]
 · unfold kindB at hk
   rw[decide_eq_true_eq]at hk
   have e1:wipe r=r:=by unfold wipe;repeat (rw[if_neg (by omega)])
   have e2:wipeH r.k h=h:=by unfold wipeH;repeat (rw[if_neg (by omega)])
   rw[e1,e2]
   exact⟨h1,h2,h3,h4,h5,h6⟩
def recMay (r:Rc):Int:=if kindB r.k=false then 7 else if (wipe r).zeroB=false then 4 else if fieldsB r=false then 4 else 0
set_option maxRecDepth 100000 in
set_option maxHeartbeats 4000000 in
theorem recMay_any (r:Rc) (h:Hds) (w:World) (ok:r.ok) (i:RcIn w r h) (sm:RcSm r h):
 Calls Tryz.prog 12 #[.agg (r.vals h)] w fun e w'=>e=.returned (.int .i64 (recMay r))∧Below w.heap.size w w':=by
 have hW:=fun w'=>without_any r h w'
 obtain⟨l1,l2,l3,l4,l5,l6⟩:=wipe_len r h i.rd.1 i.wr.1 i.ps.1 i.pr.1 i.hs.1 i.pn.1
 have hZ0:=fun w'=>zero_any (wipe r) (wipeH r.k h) w' l1 l2 l3 l4 l5 l6
 have hF:=fun (hk:kindB r.k=true) w' (hb:Below w.heap.size w w')=>fields_any r h w' hk ok (i.below hb) sm
 have HV:=Lib.hid (show recMay r=(if kindB r.k=false then 7 else if (wipe r).zeroB=false then 4 else if fieldsB r=false then 4 else 0) from rfl)
 clear l1 l2 l3 l4 l5 l6 ok i sm
 have hX:Below w.heap.size w (w.alloc (.cells (r.vals h) 38)):=by go_grown
 have B0:Blk (w.alloc (.cells (r.vals h) 38)) w.heap.size 38 (r.vals h):=Blk.new _ _ _
 generalize (wipe r).zeroB=bz at*
 generalize fieldsB r=bf at*
 generalize wipe r=q at*
 generalize wipeH r.k h=g at*
 cases hk:kindB r.k
 · rw[hk]at hW HV
   clear hF hk
   go_enter Tryz.func12,Tryz.ntmps12
   go_wp2_with (first
    |(refine wpList_load_row rfl 38 _ rfl _ rfl _ _ (0,0) _ (Blk.new _ _ _) rfl rfl (by kernel_rfl) ?_)
    |((with_reducible refine(hW _).mono ?_);rintro e w1 ⟨rfl,hb1⟩)
    |(refine wpList_store_new rfl 38 _ _ rfl _ rfl rfl _ _ (by kernel_rfl) (by kernel_rfl) (by kernel_rfl) ?_))
   all_goals go_ret
   exact⟨ret_int (by rw[HV.out];rfl),(hX.trans (hb1.mono hX.size)).alloc (hX.trans (hb1.mono hX.size)).size _⟩
 · have hF:=hF hk
   rw[hk]at hW HV
   clear hk
   cases bz
   · clear hF
     go_enter Tryz.func12,Tryz.ntmps12
     go_wp2_with (first
        |(refine wpList_load_row rfl 38 _ rfl _ rfl _ _ (0,0) _ (Blk.new _ _ _) rfl rfl (by kernel_rfl) ?_)
        |((with_reducible refine(hW _).mono ?_);rintro e w1 ⟨rfl,hb1⟩
          have hY:=hX.trans (hb1.mono hX.size)
          have hY2:=hY.alloc hY.size (.cells (q.vals g) 38))
        |((with_reducible refine(hZ0 _).mono ?_);rintro e w2 ⟨rfl,hb2⟩
          have hZ:=hY2.trans (hb2.mono hY2.size))
        |(refine wpList_store_new rfl 38 _ _ rfl _ rfl rfl _ _ (by kernel_rfl) (by kernel_rfl) (by kernel_rfl) ?_))
     all_goals go_ret
     exact⟨ret_int (by rw[HV.out];rfl),hZ⟩
   · go_enter Tryz.func12,Tryz.ntmps12
     go_wp2_with (first
        |(refine wpList_load_row rfl 38 _ rfl _ rfl _ _ (0,0) _ (Blk.new _ _ _) rfl rfl (by kernel_rfl) ?_)
        |(refine wpList_load_row_g (by rfl) 38 _ rfl _ rfl _ _ (0,0) _ C2 rfl rfl (by kernel_rfl) ?_)
        |((with_reducible refine(hW _).mono ?_);rintro e w1 ⟨rfl,hb1⟩
          have hY:=hX.trans (hb1.mono hX.size)
          have C1:=B0.below hb1 B0.lt
          have hY2:=hY.alloc hY.size (.cells (q.vals g) 38)
          replace C1:=C1.alloc (.cells (q.vals g) 38))
        |((with_reducible refine(hZ0 _).mono ?_);rintro e w2 ⟨rfl,hb2⟩
          have C2:=C1.below hb2 C1.lt
          have hZ:=hY2.trans (hb2.mono hY2.size))
        |((with_reducible refine(hF _ hZ).mono ?_);rintro e w3 ⟨rfl,hb3⟩)
        |(refine wpList_store_new rfl 38 _ _ rfl _ rfl rfl _ _ (by kernel_rfl) (by kernel_rfl) (by kernel_rfl) ?_))
     all_goals go_ret
     all_goals refine⟨ret_int ?_,hZ.trans (hb3.mono hZ.size)⟩
     all_goals rw[HV.out]
     all_goals simp_all
end Go.Proofs.YthdmanadhbpogaaGreat
/- Plain: of what was written the reading tells just that. -/
namespace Go.Proofs.YthdmanadhbpogaaGreat
set_option linter.unusedVariables false
open Go.RowKit Fl
def Back {α:Type} (f:Rdf α) (enc:α→List UInt8) (Q:α→Prop):Prop:=∀a pre r,Q a→f (pre++(enc a++r)) ⟨pre.length,0,0⟩=(a,⟨pre.length+(enc a).length,0,0⟩)
section
variable {α β γ:Type} {f:Rdf α} {g:Rdf β} {mk:α→β→γ} {ef:α→List UInt8} {eg:β→List UInt8} {e:γ→List UInt8} {Qf:α→Prop} {Qg:β→Prop} {Q:γ→Prop}
theorem Back.two (hf:Back f ef Qf) (hg:Back g eg Qg) (he:∀a b,e (mk a b)=ef a++eg b) (hQ:∀c,Q c→∃a b,c=mk a b∧Qf a∧Qg b):Back (rTwo f g mk) e Q:=fun c pre r h=>by
 obtain⟨a,b,rfl,ha,hb⟩:=hQ c h
 rw[he]
 have h1:=hf a pre (eg b++r) ha
 have h2:=hg b (pre++ef a) r hb
 rw[List.length_append]at h2
 have e1:pre++(ef a++eg b++r)=pre++(ef a++(eg b++r)):=by simp only[List.append_assoc]
 have e2:pre++(ef a++(eg b++r))=pre++ef a++(eg b++r):=by simp only[List.append_assoc]
 unfold rTwo
 rw[e1,h1]
 simp only
 rw[e2,h2,List.length_append,Nat.add_assoc]
end
end Go.Proofs.YthdmanadhbpogaaGreat
/- Plain: of the bytes of a record that may be the reading tells that record. -/
namespace Go.Proofs.YthdmanadhbpogaaGreat
set_option linter.unusedVariables false
open Go.RowKit Fl
theorem lz {α:Type} {l:List α} (h:((l.length:Int)==0)=true):l=[]:=by
 have:(l.length:Int)=0:=by simpa using h
 exact List.length_eq_zero_iff.1 (by omega)
end Go.Proofs.YthdmanadhbpogaaGreat
