/- The walks of recs' ranges, moment, decided, Apply. -/
import Derived.Test.YthdmanadhbpogaaGreatJaad
import Derived.Test.YthdmanadhbpogaaGreatJaag
import Derived.Test.YthdmanadhbpogaaGreatJaah
import Derived.Test.YthdmanadhbpogaaGreatJabe
import Derived.Test.YthdmanadhbpogaaGreatJabf
import Derived.Test.YthdmanadhbpogaaGreatJabh
import Derived.Test.YthdmanadhbpogaaGreatJacb
namespace Go.Proofs.YthdmanadhbpogaaGreat
set_option maxHeartbeats 4000000
set_option maxRecDepth 100000
set_option linter.unusedVariables false
open Go.RowKit Fl
attribute [local go_sem] run_store_float
theorem hmayB (s:Sp) (w:World):Calls Tryz.prog 47 #[s.val] w fun e w'=>e=.returned (.bool s.may)∧Below w.heap.size w w':=by
 refine(hmay_any s w).mono ?_
 rintro e w' ⟨rfl,rfl⟩
 exact⟨rfl,(Below.refl _ _).alloc (Nat.le_refl _) _⟩
def rangesB (n:Int):Bool:=decide (1≤n)&&decide (n≤12)
theorem ranges_any (n:Int) (w:World):Calls Tryz.prog 94 #[.int .i64 n] w fun e w'=>e=.returned (.bool (rangesB n))∧w=w':=by
 go_enter Tryz.func94,Tryz.ntmps94
 go_wp2
 all_goals go_ret
 all_goals refine⟨ret_bool ?_,rfl⟩
 all_goals unfold rangesB
 all_goals simp_all<;>omega
def Sp.mom (s:Sp):Bool:=s.may&& !s.zero
theorem moment_any (s:Sp) (w:World):Calls Tryz.prog 95 #[s.val] w fun e w'=>e=.returned (.bool s.mom)∧Below w.heap.size w w':=by
 have z1:=fun w=>zero_run s w
 have z2:∀w,(binOp .neq 25 (.agg #[.int .i64 s.w,.int .i64 s.l,.int .i64 s.n]) (.agg #[.int .i64 0,.int .i64 0,.int .i64 0])).run Tryz.prog w=.ok (.bool (!s.zero)) w:=fun w=>by simp[go_sem,z1]
 have hM:=fun w=>hmayB s w
 have HZ:=Lib.hid (show s.mom=(s.may&& !s.zero) from rfl)
 have hX:Below w.heap.size w (w.alloc (.cells s.arr 25)):=by go_grown
 have B0:=Blk.new w 25 s.arr
 generalize s.may=b1 at*
 generalize s.zero=b2 at*
 go_enter Tryz.func95,Tryz.ntmps95
 go_wp2_with ((with_reducible refine(hM _).mono ?_);rintro e w1 ⟨rfl,hb1⟩;obtain⟨g1,x0,x1,x2⟩:=(B0.below hb1 B0.lt).three)
 all_goals go_ret
 all_goals refine⟨ret_bool ?_,hX.trans (hb1.mono hX.size)⟩
 all_goals rw[HZ.out]
 all_goals simp_all
def decB (c:Bool) (s:Sp):Bool:=if c then s.mom else s.zero
theorem decided_any (c:Bool) (s:Sp) (w:World):Calls Tryz.prog 92 #[.bool c,s.val] w fun e w'=>e=.returned (.bool (decB c s))∧Below w.heap.size w w':=by
 have z1:=fun w=>zero_run s w
 have hM:=fun w=>moment_any s w
 have hX:Below w.heap.size w (w.alloc (.cells s.arr 25)):=by go_grown
 have HZ:=Lib.hid (show decB c s=(if c then s.mom else s.zero) from rfl)
 generalize s.mom=b1 at*
 generalize s.zero=b2 at*
 cases c
 · go_enter Tryz.func92,Tryz.ntmps92
   go_wp2
   all_goals go_ret
   exact⟨ret_bool (by rw[HZ.out];rfl),hX⟩
 · go_enter Tryz.func92,Tryz.ntmps92
   go_wp2_with ((with_reducible refine(hM _).mono ?_);rintro e w1 ⟨rfl,hb1⟩)
   all_goals go_ret
   exact⟨ret_bool (by rw[HZ.out];rfl),hX.trans (hb1.mono hX.size)⟩
def applyB (pv s:Sp) (t:Tx) (l:List Wt):Bool:=pv.may&&decide (pv.cmp s<0)&&decide (0<l.length)&&(pendE ⟨t,s,[],l⟩==0)
theorem apply_any (pv s:Sp) (t:Tx) (A:Option Addr) (n c:Nat) (l:List Wt) (w:World) (h:Sl WtRel 4 w w.heap.size A n l) (hn:n≤1000000):
 Calls Tryz.prog 96 #[pv.val,s.val,t.val,.slice A n c] w fun e w'=>e=.returned (.bool (applyB pv s t l))∧Below w.heap.size w w':=by
 have hM:=fun w=>hmayB pv w
 have hC:=fun w=>cmp_any pv s w
 have hP:=fun w' (hb:Below w.heap.size w w')=>pend_any ⟨t,s,[],l⟩ none A 0 n 0 c w' Sl.nil ((h.below WtRel.kept hb).more WtRel.kept hb.size) (Nat.zero_le _) hn
 have HZ:=Lib.hid (show applyB pv s t l=(pv.may&&decide (pv.cmp s<0)&&decide (0<n)&&(pendE ⟨t,s,[],l⟩==0)) by unfold applyB;rw[h.1])
 have hX:Below w.heap.size w (((w.alloc (.cells pv.arr 25)).alloc (.cells s.arr 25)).alloc (.cells #[.int .i64 t.c,.int .i64 t.l,.int .i64 t.s] 23)):=by go_grown
 have B0:=((Blk.new w 25 pv.arr).alloc (.cells s.arr 25)).alloc (.cells #[.int .i64 t.c,.int .i64 t.l,.int .i64 t.s] 23)
 have B1:=(Blk.new' (w:=w.alloc (.cells pv.arr 25)) (g:=w.heap.size+1) 25 s.arr (by simp)).alloc (.cells #[.int .i64 t.c,.int .i64 t.l,.int .i64 t.s] 23)
 have B2:=Blk.new' (w:=(w.alloc (.cells pv.arr 25)).alloc (.cells s.arr 25)) (g:=w.heap.size+1+1) 23 #[.int .i64 t.c,.int .i64 t.l,.int .i64 t.s] (by simp)
 clear h
 generalize pv.may=b1 at*
 generalize pv.cmp s=z at*
 generalize pendE ⟨t,s,[],l⟩=p at*
 go_enter Tryz.func96,Tryz.ntmps96
 go_wp2_with (first
  |((with_reducible refine(hM _).mono ?_);rintro e w1 ⟨rfl,hb1⟩
    have C0:=B0.below hb1 B0.lt
    have C1:=B1.below hb1 B1.lt
    have C2:=B2.below hb1 B2.lt
    have hY:=hX.trans (hb1.mono hX.size)
    obtain⟨g0,x0,x1,x2⟩:=C0.three
    obtain⟨g1,y0,y1,y2⟩:=C1.three
    obtain⟨g2,t0,t1,t2⟩:=C2.three)
  |((with_reducible refine(hC _).mono ?_);rintro e w2 ⟨rfl,hb2⟩
    have D1:=C1.below hb2 C1.lt
    have D2:=C2.below hb2 C2.lt
    have hZ:=hY.trans (hb2.mono hY.size)
    obtain⟨k1,u0,u1,u2⟩:=D1.three
    obtain⟨k2,v0,v1,v2⟩:=D2.three)
  |((with_reducible refine(hP _ hZ).mono ?_);rintro e w3 ⟨rfl,hb3⟩))
 all_goals go_ret
 all_goals refine⟨ret_bool ?_,by first|exact hZ.trans (hb3.mono hZ.size)|exact hZ|exact hY⟩
 all_goals rw[HZ.out]
 all_goals simp_all<;>omega
end Go.Proofs.YthdmanadhbpogaaGreat
/- The walks of recs' fields and May. -/
namespace Go.Proofs.YthdmanadhbpogaaGreat
set_option maxHeartbeats 4000000
set_option maxRecDepth 100000
set_option linter.unusedVariables false
open Go.RowKit Fl
attribute [local go_sem] run_store_float
structure RcSm (r:Rc) (h:Hds):Prop where
 a:h.a.n≤1000000
 b:h.b.n≤1000000
 c:h.c.n≤1000000
 d:h.d.n≤1000000
 h:SmallH r.st.h
 p:SmallP r.st.p
def fieldsB (r:Rc):Bool:=
 if r.k=1 then (mayS r.st) else
 if r.k=2 then (decide (0≤r.n)&&decide (r.n≤281474976710656)) else
 if r.k=3 then ((pendE ⟨r.t,r.s,r.rd,r.wr⟩==0)&&partsB r.ps) else
 if r.k=4 then (r.t.may&&decB r.cm r.s) else
 if r.k=5 then r.s.may else
 if r.k=6 then ((pointE r.pt==0)&&fgt (pointV r.pt) 0&&flt (pointV r.pt) 4607182418800017408&&rangesB r.n&&r.s.may) else
 if r.k=7 then (rangesB r.n) else
 if r.k=8 then (decide (1≤r.n)) else
 if r.k=9 then (r.t.may&&r.s.mom&&partsB r.ps) else
 if r.k=10 then r.t.may else
 if r.k=11 then (applyB r.pv r.s r.t r.wr) else
 if r.k=12 then (r.s.may&&prsB r.pr) else
 false
theorem fields_1 (r:Rc) (h:Hds) (w:World) (hk:r.k=1) (ok:r.ok) (i:RcIn w r h) (sm:RcSm r h):
 Calls Tryz.prog 43 #[.agg (r.vals h)] w fun e w'=>e=.returned (.bool (mayS r.st))∧Below w.heap.size w w':=by
 obtain⟨k,t,s,pv,cm,n,pt,rd,wr,ps,pr,st⟩:=r
 change k=1 at hk
 subst hk
 have hS:=fun w' (hb:Below w.heap.size w w')=>stateMay_any st h.e.A h.f.A h.e.n h.f.n h.e.c h.f.c w' ok.rg (i.below hb).hs (i.below hb).pn sm.h sm.p
 have hX:Below w.heap.size w (w.alloc (.cells (Rc.vals ⟨1,t,s,pv,cm,n,pt,rd,wr,ps,pr,st⟩ h) 38)):=by go_grown
 have B0:Blk (w.alloc (.cells (Rc.vals ⟨1,t,s,pv,cm,n,pt,rd,wr,ps,pr,st⟩ h) 38)) w.heap.size 38 (Rc.vals ⟨1,t,s,pv,cm,n,pt,rd,wr,ps,pr,st⟩ h):=Blk.new _ _ _
 have HV:=Lib.hid (show (mayS st)=(mayS st) from rfl)
 clear ok i sm
 generalize hg0:mayS st=g0 at*
 clear hg0
 go_enter Tryz.func43,Tryz.ntmps43
 go_wp2_with (first
  |((with_reducible refine(hS _ hX).mono ?_);rintro e w1 ⟨rfl,hb1⟩
    have hY:=hX.trans (hb1.mono hX.size)))
 all_goals go_ret
 all_goals refine⟨ret_bool ?_,by first|exact hY|exact hX⟩
 all_goals first|rfl|(simp_all;done)|(simp_all;omega)
theorem fields_2 (r:Rc) (h:Hds) (w:World) (hk:r.k=2) (ok:r.ok) (i:RcIn w r h) (sm:RcSm r h):
 Calls Tryz.prog 43 #[.agg (r.vals h)] w fun e w'=>e=.returned (.bool (decide (0≤r.n)&&decide (r.n≤281474976710656)))∧Below w.heap.size w w':=by
 obtain⟨k,t,s,pv,cm,n,pt,rd,wr,ps,pr,st⟩:=r
 change k=2 at hk
 subst hk
 have hX:Below w.heap.size w (w.alloc (.cells (Rc.vals ⟨2,t,s,pv,cm,n,pt,rd,wr,ps,pr,st⟩ h) 38)):=by go_grown
 have B0:Blk (w.alloc (.cells (Rc.vals ⟨2,t,s,pv,cm,n,pt,rd,wr,ps,pr,st⟩ h) 38)) w.heap.size 38 (Rc.vals ⟨2,t,s,pv,cm,n,pt,rd,wr,ps,pr,st⟩ h):=Blk.new _ _ _
 have HV:=Lib.hid (show (decide (0≤n)&&decide (n≤281474976710656))=(decide (0≤n)&&decide (n≤281474976710656)) from rfl)
 clear ok i sm
 go_enter Tryz.func43,Tryz.ntmps43
 go_wp2
 all_goals go_ret
 all_goals refine⟨ret_bool ?_,hX⟩
 all_goals first|rfl|(simp_all;done)|(simp_all;omega)
theorem fields_3 (r:Rc) (h:Hds) (w:World) (hk:r.k=3) (ok:r.ok) (i:RcIn w r h) (sm:RcSm r h):
 Calls Tryz.prog 43 #[.agg (r.vals h)] w fun e w'=>e=.returned (.bool ((pendE ⟨r.t,r.s,r.rd,r.wr⟩==0)&&partsB r.ps))∧Below w.heap.size w w':=by
 obtain⟨k,t,s,pv,cm,n,pt,rd,wr,ps,pr,st⟩:=r
 change k=3 at hk
 subst hk
 have hS:=fun w' (hb:Below w.heap.size w w')=>pend_any ⟨t,s,rd,wr⟩ h.a.A h.b.A h.a.n h.b.n h.a.c h.b.c w' (i.below hb).rd (i.below hb).wr i.na sm.b
 have hQ:=fun w' (hb:Below w.heap.size w w')=>parts_any h.c.A h.c.n h.c.c ps w' (i.below hb).ps i.nc
 have hX:Below w.heap.size w (w.alloc (.cells (Rc.vals ⟨3,t,s,pv,cm,n,pt,rd,wr,ps,pr,st⟩ h) 38)):=by go_grown
 have B0:Blk (w.alloc (.cells (Rc.vals ⟨3,t,s,pv,cm,n,pt,rd,wr,ps,pr,st⟩ h) 38)) w.heap.size 38 (Rc.vals ⟨3,t,s,pv,cm,n,pt,rd,wr,ps,pr,st⟩ h):=Blk.new _ _ _
 have HV:=Lib.hid (show ((pendE ⟨t,s,rd,wr⟩==0)&&partsB ps)=((pendE ⟨t,s,rd,wr⟩==0)&&partsB ps) from rfl)
 clear ok i sm
 generalize hg0:pendE ⟨t,s,rd,wr⟩=g0 at*
 generalize hg1:partsB ps=g1 at*
 clear hg0 hg1
 go_enter Tryz.func43,Tryz.ntmps43
 go_wp2_with (first
  |((with_reducible refine(hS _ hX).mono ?_);rintro e w1 ⟨rfl,hb1⟩
    have hY:=hX.trans (hb1.mono hX.size)
    have C0:=B0.below hb1 B0.lt
    have l0:=C0.lt
    have x0_15:=C0.cell 15
    simp only[List.getElem?_toArray,List.getElem?_cons_succ,List.getElem?_cons_zero]at x0_15)
  |((with_reducible refine(hQ _ hY).mono ?_);rintro e w2 ⟨rfl,rfl⟩))
 all_goals go_ret
 all_goals refine⟨ret_bool ?_,by first|exact hY|exact hX⟩
 all_goals first|rfl|(simp_all;done)|(simp_all;omega)
theorem fields_4 (r:Rc) (h:Hds) (w:World) (hk:r.k=4) (ok:r.ok) (i:RcIn w r h) (sm:RcSm r h):
 Calls Tryz.prog 43 #[.agg (r.vals h)] w fun e w'=>e=.returned (.bool (r.t.may&&decB r.cm r.s))∧Below w.heap.size w w':=by
 obtain⟨k,t,s,pv,cm,n,pt,rd,wr,ps,pr,st⟩:=r
 change k=4 at hk
 subst hk
 have hS:=fun w' (hb:Below w.heap.size w w')=>txnMay_any t w'
 have hQ:=fun w' (hb:Below w.heap.size w w')=>decided_any cm s w'
 have hX:Below w.heap.size w (w.alloc (.cells (Rc.vals ⟨4,t,s,pv,cm,n,pt,rd,wr,ps,pr,st⟩ h) 38)):=by go_grown
 have B0:Blk (w.alloc (.cells (Rc.vals ⟨4,t,s,pv,cm,n,pt,rd,wr,ps,pr,st⟩ h) 38)) w.heap.size 38 (Rc.vals ⟨4,t,s,pv,cm,n,pt,rd,wr,ps,pr,st⟩ h):=Blk.new _ _ _
 have HV:=Lib.hid (show (t.may&&decB cm s)=(t.may&&decB cm s) from rfl)
 clear ok i sm
 generalize hg0:t.may=g0 at*
 generalize hg1:decB cm s=g1 at*
 clear hg0 hg1
 go_enter Tryz.func43,Tryz.ntmps43
 go_wp2_with (first
  |((with_reducible refine(hS _ hX).mono ?_);rintro e w1 ⟨rfl,hb1⟩
    have hY:=hX.trans (hb1.mono hX.size)
    have C0:=B0.below hb1 B0.lt
    have l0:=C0.lt
    have x0_4:=C0.cell 4
    have x0_5:=C0.cell 5
    have x0_6:=C0.cell 6
    have x0_10:=C0.cell 10
    simp only[List.getElem?_toArray,List.getElem?_cons_succ,List.getElem?_cons_zero]at x0_4 x0_5 x0_6 x0_10)
  |((with_reducible refine(hQ _ hY).mono ?_);rintro e w2 ⟨rfl,hb2⟩
    have hZ:=hY.trans (hb2.mono hY.size)))
 all_goals go_ret
 all_goals refine⟨ret_bool ?_,by first|exact hZ|exact hY|exact hX⟩
 all_goals first|rfl|(simp_all;done)|(simp_all;omega)
theorem fields_5 (r:Rc) (h:Hds) (w:World) (hk:r.k=5) (ok:r.ok) (i:RcIn w r h) (sm:RcSm r h):
 Calls Tryz.prog 43 #[.agg (r.vals h)] w fun e w'=>e=.returned (.bool r.s.may)∧Below w.heap.size w w':=by
 obtain⟨k,t,s,pv,cm,n,pt,rd,wr,ps,pr,st⟩:=r
 change k=5 at hk
 subst hk
 have hS:=fun w' (hb:Below w.heap.size w w')=>hmayB s w'
 have hX:Below w.heap.size w (w.alloc (.cells (Rc.vals ⟨5,t,s,pv,cm,n,pt,rd,wr,ps,pr,st⟩ h) 38)):=by go_grown
 have B0:Blk (w.alloc (.cells (Rc.vals ⟨5,t,s,pv,cm,n,pt,rd,wr,ps,pr,st⟩ h) 38)) w.heap.size 38 (Rc.vals ⟨5,t,s,pv,cm,n,pt,rd,wr,ps,pr,st⟩ h):=Blk.new _ _ _
 have HV:=Lib.hid (show s.may=s.may from rfl)
 clear ok i sm
 generalize hg0:s.may=g0 at*
 clear hg0
 go_enter Tryz.func43,Tryz.ntmps43
 go_wp2_with (first
  |((with_reducible refine(hS _ hX).mono ?_);rintro e w1 ⟨rfl,hb1⟩
    have hY:=hX.trans (hb1.mono hX.size)))
 all_goals go_ret
 all_goals refine⟨ret_bool ?_,by first|exact hY|exact hX⟩
 all_goals first|rfl|(simp_all;done)|(simp_all;omega)
theorem fields_6 (r:Rc) (h:Hds) (w:World) (hk:r.k=6) (ok:r.ok) (i:RcIn w r h) (sm:RcSm r h):
 Calls Tryz.prog 43 #[.agg (r.vals h)] w fun e w'=>e=.returned (.bool ((pointE r.pt==0)&&fgt (pointV r.pt) 0&&flt (pointV r.pt) 4607182418800017408&&rangesB r.n&&r.s.may))∧Below w.heap.size w w':=by
 obtain⟨k,t,s,pv,cm,n,pt,rd,wr,ps,pr,st⟩:=r
 change k=6 at hk
 subst hk
 have hS:=fun w' (hb:Below w.heap.size w w')=>point pt w' ok.pt
 have hQ:=fun w' (hb:Below w.heap.size w w')=>ranges_any n w'
 have hR:=fun w' (hb:Below w.heap.size w w')=>hmayB s w'
 have hX:Below w.heap.size w (w.alloc (.cells (Rc.vals ⟨6,t,s,pv,cm,n,pt,rd,wr,ps,pr,st⟩ h) 38)):=by go_grown
 have B0:Blk (w.alloc (.cells (Rc.vals ⟨6,t,s,pv,cm,n,pt,rd,wr,ps,pr,st⟩ h) 38)) w.heap.size 38 (Rc.vals ⟨6,t,s,pv,cm,n,pt,rd,wr,ps,pr,st⟩ h):=Blk.new _ _ _
 have HV:=Lib.hid (show ((pointE pt==0)&&fgt (pointV pt) 0&&flt (pointV pt) 4607182418800017408&&rangesB n&&s.may)=((pointE pt==0)&&fgt (pointV pt) 0&&flt (pointV pt) 4607182418800017408&&rangesB n&&s.may) from rfl)
 clear ok i sm
 generalize hg0:rangesB n=g0 at*
 generalize hg1:s.may=g1 at*
 clear hg0 hg1
 go_enter Tryz.func43,Tryz.ntmps43
 go_wp2_with (first
  |((with_reducible refine(hS _ hX).mono ?_);rintro e w1 ⟨rfl,rfl⟩)
  |((with_reducible refine(hQ _ hX).mono ?_);rintro e w2 ⟨rfl,rfl⟩)
  |((with_reducible refine(hR _ hX).mono ?_);rintro e w3 ⟨rfl,hb3⟩
    have hW:=hX.trans (hb3.mono hX.size)))
 all_goals go_ret
 all_goals refine⟨ret_bool ?_,by first|exact hW|exact hX⟩
 all_goals first|rfl|(simp_all [fgt,flt];done)|(simp_all;omega)
theorem fields_7 (r:Rc) (h:Hds) (w:World) (hk:r.k=7) (ok:r.ok) (i:RcIn w r h) (sm:RcSm r h):
 Calls Tryz.prog 43 #[.agg (r.vals h)] w fun e w'=>e=.returned (.bool (rangesB r.n))∧Below w.heap.size w w':=by
 obtain⟨k,t,s,pv,cm,n,pt,rd,wr,ps,pr,st⟩:=r
 change k=7 at hk
 subst hk
 have hS:=fun w' (hb:Below w.heap.size w w')=>ranges_any n w'
 have hX:Below w.heap.size w (w.alloc (.cells (Rc.vals ⟨7,t,s,pv,cm,n,pt,rd,wr,ps,pr,st⟩ h) 38)):=by go_grown
 have B0:Blk (w.alloc (.cells (Rc.vals ⟨7,t,s,pv,cm,n,pt,rd,wr,ps,pr,st⟩ h) 38)) w.heap.size 38 (Rc.vals ⟨7,t,s,pv,cm,n,pt,rd,wr,ps,pr,st⟩ h):=Blk.new _ _ _
 have HV:=Lib.hid (show (rangesB n)=(rangesB n) from rfl)
 clear ok i sm
 generalize hg0:rangesB n=g0 at*
 clear hg0
 go_enter Tryz.func43,Tryz.ntmps43
 go_wp2_with (first
  |((with_reducible refine(hS _ hX).mono ?_);rintro e w1 ⟨rfl,rfl⟩))
 all_goals go_ret
 all_goals refine⟨ret_bool ?_,by first|exact hX⟩
 all_goals first|rfl|(simp_all;done)|(simp_all;omega)
theorem fields_8 (r:Rc) (h:Hds) (w:World) (hk:r.k=8) (ok:r.ok) (i:RcIn w r h) (sm:RcSm r h):
 Calls Tryz.prog 43 #[.agg (r.vals h)] w fun e w'=>e=.returned (.bool (decide (1≤r.n)))∧Below w.heap.size w w':=by
 obtain⟨k,t,s,pv,cm,n,pt,rd,wr,ps,pr,st⟩:=r
 change k=8 at hk
 subst hk
 have hX:Below w.heap.size w (w.alloc (.cells (Rc.vals ⟨8,t,s,pv,cm,n,pt,rd,wr,ps,pr,st⟩ h) 38)):=by go_grown
 have B0:Blk (w.alloc (.cells (Rc.vals ⟨8,t,s,pv,cm,n,pt,rd,wr,ps,pr,st⟩ h) 38)) w.heap.size 38 (Rc.vals ⟨8,t,s,pv,cm,n,pt,rd,wr,ps,pr,st⟩ h):=Blk.new _ _ _
 have HV:=Lib.hid (show (decide (1≤n))=(decide (1≤n)) from rfl)
 clear ok i sm
 go_enter Tryz.func43,Tryz.ntmps43
 go_wp2
 all_goals go_ret
 all_goals refine⟨ret_bool ?_,hX⟩
 all_goals first|rfl|(simp_all;done)|(simp_all;omega)
theorem fields_9 (r:Rc) (h:Hds) (w:World) (hk:r.k=9) (ok:r.ok) (i:RcIn w r h) (sm:RcSm r h):
 Calls Tryz.prog 43 #[.agg (r.vals h)] w fun e w'=>e=.returned (.bool (r.t.may&&r.s.mom&&partsB r.ps))∧Below w.heap.size w w':=by
 obtain⟨k,t,s,pv,cm,n,pt,rd,wr,ps,pr,st⟩:=r
 change k=9 at hk
 subst hk
 have hS:=fun w' (hb:Below w.heap.size w w')=>txnMay_any t w'
 have hQ:=fun w' (hb:Below w.heap.size w w')=>moment_any s w'
 have hR:=fun w' (hb:Below w.heap.size w w')=>parts_any h.c.A h.c.n h.c.c ps w' (i.below hb).ps i.nc
 have hX:Below w.heap.size w (w.alloc (.cells (Rc.vals ⟨9,t,s,pv,cm,n,pt,rd,wr,ps,pr,st⟩ h) 38)):=by go_grown
 have B0:Blk (w.alloc (.cells (Rc.vals ⟨9,t,s,pv,cm,n,pt,rd,wr,ps,pr,st⟩ h) 38)) w.heap.size 38 (Rc.vals ⟨9,t,s,pv,cm,n,pt,rd,wr,ps,pr,st⟩ h):=Blk.new _ _ _
 have HV:=Lib.hid (show (t.may&&s.mom&&partsB ps)=(t.may&&s.mom&&partsB ps) from rfl)
 clear ok i sm
 generalize hg0:t.may=g0 at*
 generalize hg1:s.mom=g1 at*
 generalize hg2:partsB ps=g2 at*
 clear hg0 hg1 hg2
 go_enter Tryz.func43,Tryz.ntmps43
 go_wp2_with (first
  |((with_reducible refine(hS _ hX).mono ?_);rintro e w1 ⟨rfl,hb1⟩
    have hY:=hX.trans (hb1.mono hX.size)
    have C0:=B0.below hb1 B0.lt
    have l0:=C0.lt
    have x0_4:=C0.cell 4
    have x0_5:=C0.cell 5
    have x0_6:=C0.cell 6
    have x0_15:=C0.cell 15
    simp only[List.getElem?_toArray,List.getElem?_cons_succ,List.getElem?_cons_zero]at x0_4 x0_5 x0_6 x0_15)
  |((with_reducible refine(hQ _ hY).mono ?_);rintro e w2 ⟨rfl,hb2⟩
    have hZ:=hY.trans (hb2.mono hY.size)
    have C1:=C0.below hb2 C0.lt
    have l1:=C1.lt
    have x1_4:=C1.cell 4
    have x1_5:=C1.cell 5
    have x1_6:=C1.cell 6
    have x1_15:=C1.cell 15
    simp only[List.getElem?_toArray,List.getElem?_cons_succ,List.getElem?_cons_zero]at x1_4 x1_5 x1_6 x1_15)
  |((with_reducible refine(hR _ hZ).mono ?_);rintro e w3 ⟨rfl,rfl⟩))
 all_goals go_ret
 all_goals refine⟨ret_bool ?_,by first|exact hZ|exact hY|exact hX⟩
 all_goals first|rfl|(simp_all;done)|(simp_all;omega)
theorem fields_10 (r:Rc) (h:Hds) (w:World) (hk:r.k=10) (ok:r.ok) (i:RcIn w r h) (sm:RcSm r h):
 Calls Tryz.prog 43 #[.agg (r.vals h)] w fun e w'=>e=.returned (.bool r.t.may)∧Below w.heap.size w w':=by
 obtain⟨k,t,s,pv,cm,n,pt,rd,wr,ps,pr,st⟩:=r
 change k=10 at hk
 subst hk
 have hS:=fun w' (hb:Below w.heap.size w w')=>txnMay_any t w'
 have hX:Below w.heap.size w (w.alloc (.cells (Rc.vals ⟨10,t,s,pv,cm,n,pt,rd,wr,ps,pr,st⟩ h) 38)):=by go_grown
 have B0:Blk (w.alloc (.cells (Rc.vals ⟨10,t,s,pv,cm,n,pt,rd,wr,ps,pr,st⟩ h) 38)) w.heap.size 38 (Rc.vals ⟨10,t,s,pv,cm,n,pt,rd,wr,ps,pr,st⟩ h):=Blk.new _ _ _
 have HV:=Lib.hid (show t.may=t.may from rfl)
 clear ok i sm
 generalize hg0:t.may=g0 at*
 clear hg0
 go_enter Tryz.func43,Tryz.ntmps43
 go_wp2_with (first
  |((with_reducible refine(hS _ hX).mono ?_);rintro e w1 ⟨rfl,hb1⟩
    have hY:=hX.trans (hb1.mono hX.size)))
 all_goals go_ret
 all_goals refine⟨ret_bool ?_,by first|exact hY|exact hX⟩
 all_goals first|rfl|(simp_all;done)|(simp_all;omega)
theorem fields_11 (r:Rc) (h:Hds) (w:World) (hk:r.k=11) (ok:r.ok) (i:RcIn w r h) (sm:RcSm r h):
 Calls Tryz.prog 43 #[.agg (r.vals h)] w fun e w'=>e=.returned (.bool (applyB r.pv r.s r.t r.wr))∧Below w.heap.size w w':=by
 obtain⟨k,t,s,pv,cm,n,pt,rd,wr,ps,pr,st⟩:=r
 change k=11 at hk
 subst hk
 have hS:=fun w' (hb:Below w.heap.size w w')=>apply_any pv s t h.b.A h.b.n h.b.c wr w' (i.below hb).wr sm.b
 have hX:Below w.heap.size w (w.alloc (.cells (Rc.vals ⟨11,t,s,pv,cm,n,pt,rd,wr,ps,pr,st⟩ h) 38)):=by go_grown
 have B0:Blk (w.alloc (.cells (Rc.vals ⟨11,t,s,pv,cm,n,pt,rd,wr,ps,pr,st⟩ h) 38)) w.heap.size 38 (Rc.vals ⟨11,t,s,pv,cm,n,pt,rd,wr,ps,pr,st⟩ h):=Blk.new _ _ _
 have HV:=Lib.hid (show (applyB pv s t wr)=(applyB pv s t wr) from rfl)
 clear ok i sm
 generalize hg0:applyB pv s t wr=g0 at*
 clear hg0
 go_enter Tryz.func43,Tryz.ntmps43
 go_wp2_with (first
  |((with_reducible refine(hS _ hX).mono ?_);rintro e w1 ⟨rfl,hb1⟩
    have hY:=hX.trans (hb1.mono hX.size)))
 all_goals go_ret
 all_goals refine⟨ret_bool ?_,by first|exact hY|exact hX⟩
 all_goals first|rfl|(simp_all;done)|(simp_all;omega)
theorem fields_12 (r:Rc) (h:Hds) (w:World) (hk:r.k=12) (ok:r.ok) (i:RcIn w r h) (sm:RcSm r h):
 Calls Tryz.prog 43 #[.agg (r.vals h)] w fun e w'=>e=.returned (.bool (r.s.may&&prsB r.pr))∧Below w.heap.size w w':=by
 obtain⟨k,t,s,pv,cm,n,pt,rd,wr,ps,pr,st⟩:=r
 change k=12 at hk
 subst hk
 have hS:=fun w' (hb:Below w.heap.size w w')=>hmayB s w'
 have hQ:=fun w' (hb:Below w.heap.size w w')=>prs_any h.d.A h.d.n h.d.c pr w' (i.below hb).pr i.nd
 have hX:Below w.heap.size w (w.alloc (.cells (Rc.vals ⟨12,t,s,pv,cm,n,pt,rd,wr,ps,pr,st⟩ h) 38)):=by go_grown
 have B0:Blk (w.alloc (.cells (Rc.vals ⟨12,t,s,pv,cm,n,pt,rd,wr,ps,pr,st⟩ h) 38)) w.heap.size 38 (Rc.vals ⟨12,t,s,pv,cm,n,pt,rd,wr,ps,pr,st⟩ h):=Blk.new _ _ _
 have HV:=Lib.hid (show (s.may&&prsB pr)=(s.may&&prsB pr) from rfl)
 clear ok i sm
 generalize hg0:s.may=g0 at*
 generalize hg1:prsB pr=g1 at*
 clear hg0 hg1
 go_enter Tryz.func43,Tryz.ntmps43
 go_wp2_with (first
  |((with_reducible refine(hS _ hX).mono ?_);rintro e w1 ⟨rfl,hb1⟩
    have hY:=hX.trans (hb1.mono hX.size)
    have C0:=B0.below hb1 B0.lt
    have l0:=C0.lt
    have x0_16:=C0.cell 16
    simp only[List.getElem?_toArray,List.getElem?_cons_succ,List.getElem?_cons_zero]at x0_16)
  |((with_reducible refine(hQ _ hY).mono ?_);rintro e w2 ⟨rfl,hb2⟩
    have hZ:=hY.trans (hb2.mono hY.size)))
 all_goals go_ret
 all_goals refine⟨ret_bool ?_,by first|exact hZ|exact hY|exact hX⟩
 all_goals first|rfl|(simp_all;done)|(simp_all;omega)
theorem fields_any (r:Rc) (h:Hds) (w:World) (hk:kindB r.k=true) (ok:r.ok) (i:RcIn w r h) (sm:RcSm r h):
 Calls Tryz.prog 43 #[.agg (r.vals h)] w fun e w'=>e=.returned (.bool (fieldsB r))∧Below w.heap.size w w':=by
 unfold kindB at hk
 rw[decide_eq_true_eq]at hk
 have hc:r.k=1∨r.k=2∨r.k=3∨r.k=4∨r.k=5∨r.k=6∨r.k=7∨r.k=8∨r.k=9∨r.k=10∨r.k=11∨r.k=12:=by omega
 rcases hc with e|e|e|e|e|e|e|e|e|e|e|e
 · have e1:fieldsB r=(mayS r.st):=by unfold fieldsB;simp only[e];rfl
   rw[e1];exact fields_1 r h w e ok i sm
 · have e1:fieldsB r=(decide (0≤r.n)&&decide (r.n≤281474976710656)):=by unfold fieldsB;simp only[e];rfl
   rw[e1];exact fields_2 r h w e ok i sm
 · have e1:fieldsB r=((pendE ⟨r.t,r.s,r.rd,r.wr⟩==0)&&partsB r.ps):=by unfold fieldsB;simp only[e];rfl
   rw[e1];exact fields_3 r h w e ok i sm
 · have e1:fieldsB r=(r.t.may&&decB r.cm r.s):=by unfold fieldsB;simp only[e];rfl
   rw[e1];exact fields_4 r h w e ok i sm
 · have e1:fieldsB r=r.s.may:=by unfold fieldsB;simp only[e];rfl
   rw[e1];exact fields_5 r h w e ok i sm
 · have e1:fieldsB r=((pointE r.pt==0)&&fgt (pointV r.pt) 0&&flt (pointV r.pt) 4607182418800017408&&rangesB r.n&&r.s.may):=by unfold fieldsB;simp only[e];rfl
   rw[e1];exact fields_6 r h w e ok i sm
 · have e1:fieldsB r=(rangesB r.n):=by unfold fieldsB;simp only[e];rfl
   rw[e1];exact fields_7 r h w e ok i sm
 · have e1:fieldsB r=(decide (1≤r.n)):=by unfold fieldsB;simp only[e];rfl
   rw[e1];exact fields_8 r h w e ok i sm
 · have e1:fieldsB r=(r.t.may&&r.s.mom&&partsB r.ps):=by unfold fieldsB;simp only[e];rfl
   rw[e1];exact fields_9 r h w e ok i sm
 · have e1:fieldsB r=r.t.may:=by unfold fieldsB;simp only[e];rfl
   rw[e1];exact fields_10 r h w e ok i sm
 · have e1:fieldsB r=(applyB r.pv r.s r.t r.wr):=by unfold fieldsB;simp only[e];rfl
   rw[e1];exact fields_11 r h w e ok i sm
 · have e1:fieldsB r=(r.s.may&&prsB r.pr):=by unfold fieldsB;simp only[e];rfl
   rw[e1];exact fields_12 r h w e ok i sm
end Go.Proofs.YthdmanadhbpogaaGreat
/- Plain laws of a record that is read. -/
namespace Go.Proofs.YthdmanadhbpogaaGreat
set_option linter.unusedVariables false
open Go.RowKit Fl
theorem rBody_1e:RdEnc (rBody 1) encBody:=by
 have a0:RdEnc rSt (encSt):=rSt_enc
 refine a0.map fun l s=>?_
 rw[rBody_1]
 refine⟨rfl,?_⟩
 unfold encBody
 simp
theorem rBody_1s:Stk (rBody 1):=fun l s h=>by
 have hf:Stk rSt:=rSt_stk
 rw[rBody_1]
 exact hf l s h
theorem rBody_2e:RdEnc (rBody 2) encBody:=by
 have a0:RdEnc rInt (encI):=rInt_enc'
 refine a0.map fun l s=>?_
 rw[rBody_2]
 refine⟨rfl,?_⟩
 unfold encBody
 simp
theorem rBody_2s:Stk (rBody 2):=fun l s h=>by
 have hf:Stk rInt:=rInt_stk
 rw[rBody_2]
 exact hf l s h
theorem rBody_3e:RdEnc (rBody 3) encBody:=by
 have a0:RdEnc rPn (encPn):=rPn_enc
 have a1:RdEnc (rTwo rPn (rLs rInt) Prod.mk) (fun a:(Pn)×(List Int)=>(encPn) a.1++encLs encI a.2):=rTwo_enc a0 (rLs_enc rInt_enc') (rLs_stk _) fun _ _=>rfl
 refine a1.map fun l s=>?_
 rw[rBody_3]
 refine⟨rfl,?_⟩
 unfold encBody
 simp[rTwo]
theorem rBody_3s:Stk (rBody 3):=fun l s h=>by
 have hf:Stk (rTwo rPn (rLs rInt) Prod.mk):=(rTwo_stk rPn_stk (rLs_stk _))
 rw[rBody_3]
 exact hf l s h
theorem rBody_4e:RdEnc (rBody 4) encBody:=by
 have a0:RdEnc rTx (encTx):=rTx_enc
 have a1:RdEnc (rTwo rTx rFlag Prod.mk) (fun a:(Tx)×(Bool)=>(encTx) a.1++encB a.2):=rTwo_enc a0 rFlag_enc' rFlag_stk fun _ _=>rfl
 have a2:RdEnc (rTwo (rTwo rTx rFlag Prod.mk) rSp Prod.mk) (fun a:((Tx)×(Bool))×(Sp)=>(fun a:(Tx)×(Bool)=>(encTx) a.1++encB a.2) a.1++encSp a.2):=rTwo_enc a1 rSp_enc rSp_stk fun _ _=>rfl
 refine a2.map fun l s=>?_
 rw[rBody_4]
 refine⟨rfl,?_⟩
 unfold encBody
 simp[rTwo]
theorem rBody_4s:Stk (rBody 4):=fun l s h=>by
 have hf:Stk (rTwo (rTwo rTx rFlag Prod.mk) rSp Prod.mk):=(rTwo_stk (rTwo_stk rTx_stk rFlag_stk) rSp_stk)
 rw[rBody_4]
 exact hf l s h
theorem rBody_5e:RdEnc (rBody 5) encBody:=by
 have a0:RdEnc rSp (encSp):=rSp_enc
 refine a0.map fun l s=>?_
 rw[rBody_5]
 refine⟨rfl,?_⟩
 unfold encBody
 simp
theorem rBody_5s:Stk (rBody 5):=fun l s h=>by
 have hf:Stk rSp:=rSp_stk
 rw[rBody_5]
 exact hf l s h
theorem rBody_6e:RdEnc (rBody 6) encBody:=by
 have a0:RdEnc rFloat (encF64):=rFloat_enc'
 have a1:RdEnc (rTwo rFloat rInt Prod.mk) (fun a:(Nat)×(Int)=>(encF64) a.1++encI a.2):=rTwo_enc a0 rInt_enc' rInt_stk fun _ _=>rfl
 have a2:RdEnc (rTwo (rTwo rFloat rInt Prod.mk) rSp Prod.mk) (fun a:((Nat)×(Int))×(Sp)=>(fun a:(Nat)×(Int)=>(encF64) a.1++encI a.2) a.1++encSp a.2):=rTwo_enc a1 rSp_enc rSp_stk fun _ _=>rfl
 refine a2.map fun l s=>?_
 rw[rBody_6]
 refine⟨rfl,?_⟩
 unfold encBody
 simp[rTwo]
theorem rBody_6s:Stk (rBody 6):=fun l s h=>by
 have hf:Stk (rTwo (rTwo rFloat rInt Prod.mk) rSp Prod.mk):=(rTwo_stk (rTwo_stk rFloat_stk rInt_stk) rSp_stk)
 rw[rBody_6]
 exact hf l s h
theorem rBody_7e:RdEnc (rBody 7) encBody:=by
 have a0:RdEnc rInt (encI):=rInt_enc'
 refine a0.map fun l s=>?_
 rw[rBody_7]
 refine⟨rfl,?_⟩
 unfold encBody
 simp
theorem rBody_7s:Stk (rBody 7):=fun l s h=>by
 have hf:Stk rInt:=rInt_stk
 rw[rBody_7]
 exact hf l s h
theorem rBody_8e:RdEnc (rBody 8) encBody:=by
 have a0:RdEnc rInt (encI):=rInt_enc'
 refine a0.map fun l s=>?_
 rw[rBody_8]
 refine⟨rfl,?_⟩
 unfold encBody
 simp
theorem rBody_8s:Stk (rBody 8):=fun l s h=>by
 have hf:Stk rInt:=rInt_stk
 rw[rBody_8]
 exact hf l s h
theorem rBody_9e:RdEnc (rBody 9) encBody:=by
 have a0:RdEnc rTx (encTx):=rTx_enc
 have a1:RdEnc (rTwo rTx rSp Prod.mk) (fun a:(Tx)×(Sp)=>(encTx) a.1++encSp a.2):=rTwo_enc a0 rSp_enc rSp_stk fun _ _=>rfl
 have a2:RdEnc (rTwo (rTwo rTx rSp Prod.mk) (rLs rInt) Prod.mk) (fun a:((Tx)×(Sp))×(List Int)=>(fun a:(Tx)×(Sp)=>(encTx) a.1++encSp a.2) a.1++encLs encI a.2):=rTwo_enc a1 (rLs_enc rInt_enc') (rLs_stk _) fun _ _=>rfl
 refine a2.map fun l s=>?_
 rw[rBody_9]
 refine⟨rfl,?_⟩
 unfold encBody
 simp[rTwo]
theorem rBody_9s:Stk (rBody 9):=fun l s h=>by
 have hf:Stk (rTwo (rTwo rTx rSp Prod.mk) (rLs rInt) Prod.mk):=(rTwo_stk (rTwo_stk rTx_stk rSp_stk) (rLs_stk _))
 rw[rBody_9]
 exact hf l s h
theorem rBody_10e:RdEnc (rBody 10) encBody:=by
 have a0:RdEnc rTx (encTx):=rTx_enc
 refine a0.map fun l s=>?_
 rw[rBody_10]
 refine⟨rfl,?_⟩
 unfold encBody
 simp
theorem rBody_10s:Stk (rBody 10):=fun l s h=>by
 have hf:Stk rTx:=rTx_stk
 rw[rBody_10]
 exact hf l s h
theorem rBody_11e:RdEnc (rBody 11) encBody:=by
 have a0:RdEnc rSp (encSp):=rSp_enc
 have a1:RdEnc (rTwo rSp rSp Prod.mk) (fun a:(Sp)×(Sp)=>(encSp) a.1++encSp a.2):=rTwo_enc a0 rSp_enc rSp_stk fun _ _=>rfl
 have a2:RdEnc (rTwo (rTwo rSp rSp Prod.mk) rTx Prod.mk) (fun a:((Sp)×(Sp))×(Tx)=>(fun a:(Sp)×(Sp)=>(encSp) a.1++encSp a.2) a.1++encTx a.2):=rTwo_enc a1 rTx_enc rTx_stk fun _ _=>rfl
 have a3:RdEnc (rTwo (rTwo (rTwo rSp rSp Prod.mk) rTx Prod.mk) (rLs rWt) Prod.mk) (fun a:(((Sp)×(Sp))×(Tx))×(List Wt)=>(fun a:((Sp)×(Sp))×(Tx)=>(fun a:(Sp)×(Sp)=>(encSp) a.1++encSp a.2) a.1++encTx a.2) a.1++encLs encWt a.2):=rTwo_enc a2 (rLs_enc rWt_enc) (rLs_stk _) fun _ _=>rfl
 refine a3.map fun l s=>?_
 rw[rBody_11]
 refine⟨rfl,?_⟩
 unfold encBody
 simp[rTwo]
theorem rBody_11s:Stk (rBody 11):=fun l s h=>by
 have hf:Stk (rTwo (rTwo (rTwo rSp rSp Prod.mk) rTx Prod.mk) (rLs rWt) Prod.mk):=(rTwo_stk (rTwo_stk (rTwo_stk rSp_stk rSp_stk) rTx_stk) (rLs_stk _))
 rw[rBody_11]
 exact hf l s h
theorem rBody_12e:RdEnc (rBody 12) encBody:=by
 have a0:RdEnc rSp (encSp):=rSp_enc
 have a1:RdEnc (rTwo rSp (rLs rWt) Prod.mk) (fun a:(Sp)×(List Wt)=>(encSp) a.1++encLs encWt a.2):=rTwo_enc a0 (rLs_enc rWt_enc) (rLs_stk _) fun _ _=>rfl
 refine a1.map fun l s=>?_
 rw[rBody_12]
 refine⟨rfl,?_⟩
 unfold encBody
 simp[rTwo]
theorem rBody_12s:Stk (rBody 12):=fun l s h=>by
 have hf:Stk (rTwo rSp (rLs rWt) Prod.mk):=(rTwo_stk rSp_stk (rLs_stk _))
 rw[rBody_12]
 exact hf l s h
theorem kinds12 {k:Int} (h:kindB k=true):k=1∨k=2∨k=3∨k=4∨k=5∨k=6∨k=7∨k=8∨k=9∨k=10∨k=11∨k=12:=by
 unfold kindB at h
 rw[decide_eq_true_eq]at h
 omega
theorem encBody_o (r:Rc) (h:kindB r.k=false):encBody r=[]:=by
 unfold kindB at h
 rw[decide_eq_false_iff_not]at h
 unfold encBody
 rw[if_neg (by omega),if_neg (by omega),if_neg (by omega),if_neg (by omega),if_neg (by omega),if_neg (by omega),if_neg (by omega),if_neg (by omega),if_neg (by omega),if_neg (by omega),if_neg (by omega),if_neg (by omega)]
theorem rBody_enc (k:Int):RdEnc (rBody k) encBody:=by
 cases hk:kindB k
 · intro l s hs h
   rw[rBody_o k l s hk]
   exact⟨hs,by rw[encBody_o _ hk,List.append_nil]⟩
 · rcases kinds12 hk with rfl|rfl|rfl|rfl|rfl|rfl|rfl|rfl|rfl|rfl|rfl|rfl
   · exact rBody_1e
   · exact rBody_2e
   · exact rBody_3e
   · exact rBody_4e
   · exact rBody_5e
   · exact rBody_6e
   · exact rBody_7e
   · exact rBody_8e
   · exact rBody_9e
   · exact rBody_10e
   · exact rBody_11e
   · exact rBody_12e
theorem rBody_stk (k:Int):Stk (rBody k):=by
 cases hk:kindB k
 · intro l s h
   rw[rBody_o k _ s hk]
 · rcases kinds12 hk with rfl|rfl|rfl|rfl|rfl|rfl|rfl|rfl|rfl|rfl|rfl|rfl
   · exact rBody_1s
   · exact rBody_2s
   · exact rBody_3s
   · exact rBody_4s
   · exact rBody_5s
   · exact rBody_6s
   · exact rBody_7s
   · exact rBody_8s
   · exact rBody_9s
   · exact rBody_10s
   · exact rBody_11s
   · exact rBody_12s
theorem rBody_k (k:Int) (l:List UInt8) (s:RS):(rBody k l s).1.k=k:=by
 cases hk:kindB k
 · rw[rBody_o k _ s hk]
 · rcases kinds12 hk with rfl|rfl|rfl|rfl|rfl|rfl|rfl|rfl|rfl|rfl|rfl|rfl
   · rw[rBody_1]
   · rw[rBody_2]
   · rw[rBody_3]
   · rw[rBody_4]
   · rw[rBody_5]
   · rw[rBody_6]
   · rw[rBody_7]
   · rw[rBody_8]
   · rw[rBody_9]
   · rw[rBody_10]
   · rw[rBody_11]
   · rw[rBody_12]
theorem rRc_enc:RdEnc rRc encRc:=fun l s hs h=>by
 have h1:(rInt l s).2.e=0:=(rBody_stk _).ok h
 obtain⟨a1,a2⟩:=rInt_enc' l s hs h1
 obtain⟨b1,b2⟩:=rBody_enc (rInt l s).1 l _ a1 h
 refine⟨b1,?_⟩
 show l.take (rBody (rInt l s).1 l (rInt l s).2).2.at_=l.take s.at_++encRc (rBody (rInt l s).1 l (rInt l s).2).1
 unfold encRc
 rw[b2,a2,rBody_k,List.append_assoc]
structure RcCnt (N:Nat) (r:Rc):Prop where
 rd:r.rd.length≤N
 wr:r.wr.length≤N
 ps:r.ps.length≤N
 pr:r.pr.length≤N
 h:r.st.h.length≤N∧∀h∈r.st.h,h.vs.length≤N
 p:r.st.p.length≤N∧∀p∈r.st.p,p.r.length≤N∧p.w.length≤N
theorem rSt_cnt (l:List UInt8) (s:RS):((rSt l s).1.h.length≤l.length∧∀h∈(rSt l s).1.h,h.vs.length≤l.length)∧((rSt l s).1.p.length≤l.length∧∀p∈(rSt l s).1.p,p.r.length≤l.length∧p.w.length≤l.length):=
 ⟨⟨rLs_le l _,rLs_all (Q:=fun h:Hs=>h.vs.length≤l.length) l _ fun s=>rLs_le l _⟩,rLs_le l _,rLs_all (Q:=fun p:Pn=>p.r.length≤l.length∧p.w.length≤l.length) l _ fun s=>⟨rLs_le l _,rLs_le l _⟩⟩
theorem rRc_cnt (l:List UInt8) (s:RS):RcCnt l.length (rRc l s).1:=by
 have z0:([]:List Hs).length≤l.length∧∀h∈([]:List Hs),h.vs.length≤l.length:=⟨Nat.zero_le _,fun h hh=>by cases hh⟩
 have z1:([]:List Pn).length≤l.length∧∀p∈([]:List Pn),p.r.length≤l.length∧p.w.length≤l.length:=⟨Nat.zero_le _,fun h hh=>by cases hh⟩
 show RcCnt l.length (rBody (rInt l s).1 l (rInt l s).2).1
 generalize (rInt l s).2=s0
 generalize (rInt l s).1=k
 cases hk:kindB k
 · rw[rBody_o k _ s0 hk]
   exact⟨Nat.zero_le _,Nat.zero_le _,Nat.zero_le _,Nat.zero_le _,z0,z1⟩
 · rcases kinds12 hk with rfl|rfl|rfl|rfl|rfl|rfl|rfl|rfl|rfl|rfl|rfl|rfl
   · rw[rBody_1]
     exact⟨Nat.zero_le _,Nat.zero_le _,Nat.zero_le _,Nat.zero_le _,(rSt_cnt l _).1,(rSt_cnt l _).2⟩
   · rw[rBody_2]
     exact⟨Nat.zero_le _,Nat.zero_le _,Nat.zero_le _,Nat.zero_le _,z0,z1⟩
   · rw[rBody_3]
     exact⟨rLs_le l _,rLs_le l _,rLs_le l _,Nat.zero_le _,z0,z1⟩
   · rw[rBody_4]
     exact⟨Nat.zero_le _,Nat.zero_le _,Nat.zero_le _,Nat.zero_le _,z0,z1⟩
   · rw[rBody_5]
     exact⟨Nat.zero_le _,Nat.zero_le _,Nat.zero_le _,Nat.zero_le _,z0,z1⟩
   · rw[rBody_6]
     exact⟨Nat.zero_le _,Nat.zero_le _,Nat.zero_le _,Nat.zero_le _,z0,z1⟩
   · rw[rBody_7]
     exact⟨Nat.zero_le _,Nat.zero_le _,Nat.zero_le _,Nat.zero_le _,z0,z1⟩
   · rw[rBody_8]
     exact⟨Nat.zero_le _,Nat.zero_le _,Nat.zero_le _,Nat.zero_le _,z0,z1⟩
   · rw[rBody_9]
     exact⟨Nat.zero_le _,Nat.zero_le _,rLs_le l _,Nat.zero_le _,z0,z1⟩
   · rw[rBody_10]
     exact⟨Nat.zero_le _,Nat.zero_le _,Nat.zero_le _,Nat.zero_le _,z0,z1⟩
   · rw[rBody_11]
     exact⟨Nat.zero_le _,rLs_le l _,Nat.zero_le _,Nat.zero_le _,z0,z1⟩
   · rw[rBody_12]
     exact⟨Nat.zero_le _,Nat.zero_le _,Nat.zero_le _,rLs_le l _,z0,z1⟩
theorem RcCnt.sm {N:Nat} {r:Rc} {h:Hds} (hc:RcCnt N r) (hN:N≤1000000) (h1:r.rd.length=h.a.n) (h2:r.wr.length=h.b.n) (h3:r.ps.length=h.c.n) (h4:r.pr.length=h.d.n):RcSm r h:=
 ⟨by rw[←h1];exact Nat.le_trans hc.rd hN,by rw[←h2];exact Nat.le_trans hc.wr hN,by rw[←h3];exact Nat.le_trans hc.ps hN,by rw[←h4];exact Nat.le_trans hc.pr hN,
  ⟨Nat.le_trans hc.h.1 hN,fun x hx=>Nat.le_trans (hc.h.2 x hx) hN⟩,⟨Nat.le_trans hc.p.1 hN,fun x hx=>⟨Nat.le_trans (hc.p.2 x hx).1 hN,Nat.le_trans (hc.p.2 x hx).2 hN⟩⟩⟩
end Go.Proofs.YthdmanadhbpogaaGreat
/- Plain: a record that weighs no more than most is short, and so are its bytes. -/
namespace Go.Proofs.YthdmanadhbpogaaGreat
set_option linter.unusedVariables false
open Go.RowKit Fl
theorem sum_nn {α:Type} (wt:α→Int) (hw:∀a,0≤wt a) (l:List α):0≤(l.map wt).sum:=by
 induction l with
 |nil=>simp
 |cons a l ih=>have:=hw a;simp only[List.map_cons,List.sum_cons];omega
theorem weighG_gain {α:Type} {f:α→Int→Int} {most:Int} (wt:α→Int) (hw:∀a,0≤wt a) (hf:∀a n,0≤n→n≤most→0≤f a n∧(f a n≤most→n+wt a≤f a n)):
 ∀(l:List α) (n:Int),0≤n→weighG f most n l≤most→n+(l.map wt).sum≤weighG f most n l:=by
 intro l
 induction l with
 |nil=>intro n _ _;simp[weighG]
 |cons a l ih=>
  intro n h0 h
  by_cases hn:n≤most
  · have e:weighG f most n (a::l)=weighG f most (f a n) l:=by show (if _ then _ else _)=_;rw[if_pos hn]
    rw[e]at h ⊢
    obtain⟨h1,h2⟩:=hf a n h0 hn
    have h3:=ih _ h1 h
    have h4:=sum_nn wt hw l
    have h5:=h2 (by omega)
    simp only[List.map_cons,List.sum_cons]
    omega
  · rw[weighG_stop _ (by omega)]at h;omega
def wtW (a:Wt):Int:=1+(a.key.size:Int)+(a.v.t.size:Int)
def wtT (a:ByteArray):Int:=1+(a.size:Int)
def wtV (a:Vn):Int:=1+(a.v.t.size:Int)
def wtH (h:Hs):Int:=1+(h.key.size:Int)+(h.vs.map wtV).sum
def wtP (p:Pn):Int:=1+(p.r.map wtT).sum+(p.w.map wtW).sum
theorem wtW_nn (a:Wt):0≤wtW a:=by unfold wtW;omega
theorem wtT_nn (a:ByteArray):0≤wtT a:=by unfold wtT;omega
theorem wtV_nn (a:Vn):0≤wtV a:=by unfold wtV;omega
theorem wtH_nn (a:Hs):0≤wtH a:=by unfold wtH;have:=sum_nn wtV wtV_nn a.vs;omega
theorem wtP_nn (a:Pn):0≤wtP a:=by unfold wtP;have:=sum_nn wtT wtT_nn a.r;have:=sum_nn wtW wtW_nn a.w;omega
section
variable {most:Int} (hm:0≤most)
include hm
theorem weighW_gain:∀(l:List Wt) (n:Int),0≤n→weighW most n l≤most→n+(l.map wtW).sum≤weighW most n l:=by
 intro l
 induction l with
 |nil=>intro n _ _;simp[weighW]
 |cons a l ih=>
  intro n h0 h
  by_cases hn:n≤most
  · have e:weighW most n (a::l)=weighW most (stepW most n a) l:=by show (if _ then _ else _)=_;rw[if_pos hn]
    rw[e]at h ⊢
    have h3:=ih _ (stepW_range a hm h0).1 h
    have h4:=sum_nn wtW wtW_nn l
    have h5:stepW most n a=n+wtW a:=by
        have:stepW most n a≤most:=by omega
        unfold stepW fewI at this
        unfold stepW fewI wtW
        split at this<;>split<;>omega
    simp only[List.map_cons,List.sum_cons]
    omega
  · rw[weighW_stop _ (by omega)]at h;omega
theorem weighT_gain (l:List ByteArray) (h:weighT most l≤most):(l.map wtT).sum≤weighT most l:=by
 have:=weighG_gain (f:=stepT most) (most:=most) wtT wtT_nn (fun a n h0 _=>⟨(stepT_range a hm h0).1,fun h=>by
  have:=(fewI_range (n:=n) (more:=1+(a.size:Int)) (most:=most) h0 (by omega) hm).2.2 h
  show n+(1+(a.size:Int))≤fewI n (1+(a.size:Int)) most
  omega⟩) l 0 (by omega) h
 unfold weighT;omega
theorem stepH_gain (a:Hs) (n:Int) (h0:0≤n) (h:stepH most a n≤most):n+wtH a≤stepH most a n:=by
 have h2:=fewI_range (n:=n) (more:=1+(a.key.size:Int)) (most:=most) h0 (by omega) hm
 have h3:=weighG_gain (f:=stepV most) (most:=most) wtV wtV_nn (fun a n h0 _=>⟨(stepV_range a hm h0).1,fun h=>by
  have:=(fewI_range (n:=n) (more:=1+(a.v.t.size:Int)) (most:=most) h0 (by omega) hm).2.2 h
  show n+(1+(a.v.t.size:Int))≤fewI n (1+(a.v.t.size:Int)) most
  omega⟩) a.vs _ h2.1 h
 have h4:=sum_nn wtV wtV_nn a.vs
 have h5:stepH most a n=weighG (stepV most) most (fewI n (1+(a.key.size:Int)) most) a.vs:=rfl
 have h6:=h2.2.2 (by omega)
 unfold wtH
 omega
theorem weighH_gain (l:List Hs) (h:weighH most l≤most):(l.map wtH).sum≤weighH most l:=by
 have:=weighG_gain (f:=stepH most) (most:=most) wtH wtH_nn (fun a n h0 _=>⟨(stepH_range a hm h0).1,fun h=>stepH_gain hm a n h0 h⟩) l 0 (by omega) h
 unfold weighH;omega
theorem stepP_gain (p:Pn) (n:Int) (h0:0≤n) (h:stepP most p n≤most):n+wtP p≤stepP most p n:=by
 have h1:=weighT_range p.r hm
 have h2:=weighW_range p.w 0 hm (by omega) (by omega)
 have h3:=fewI_range (n:=n) (more:=1+weighT most p.r) (most:=most) h0 (by omega) hm
 have h4:=fewI_range (n:=fewI n (1+weighT most p.r) most) (more:=weighW most 0 p.w) (most:=most) h3.1 h2.1 hm
 have e:stepP most p n=fewI (fewI n (1+weighT most p.r) most) (weighW most 0 p.w) most:=rfl
 have h5:=h4.2.2 (by omega)
 have h6:=h3.2.2 (by omega)
 have h7:=weighT_gain hm p.r (by omega)
 have h8:=weighW_gain hm p.w 0 (by omega) (by omega)
 unfold wtP
 omega
theorem weighP_gain (l:List Pn) (h:weighP most l≤most):(l.map wtP).sum≤weighP most l:=by
 have:=weighG_gain (f:=stepP most) (most:=most) wtP wtP_nn (fun a n h0 _=>⟨(stepP_range a hm h0).1,fun h=>stepP_gain hm a n h0 h⟩) l 0 (by omega) h
 unfold weighP;omega
theorem weighS_gain (s:Stt) (h:weighS most s≤most):(s.h.map wtH).sum+(s.p.map wtP).sum≤weighS most s:=by
 have h1:=weighH_range s.h hm
 have h2:=weighP_range s.p hm
 have e:weighS most s=fewI (weighH most s.h) (weighP most s.p) most:=rfl
 have h3:=(fewI_range (n:=weighH most s.h) (more:=weighP most s.p) (most:=most) h1.1 h2.1 hm).2.2 (by omega)
 have h4:=weighH_gain hm s.h (by omega)
 have h5:=weighP_gain hm s.p (by omega)
 omega
end
theorem len_sum {α:Type} (wt:α→Int) (hw:∀a,1≤wt a) (l:List α):(l.length:Int)≤(l.map wt).sum:=by
 induction l with
 |nil=>simp
 |cons a l ih=>have:=hw a;simp only[List.map_cons,List.sum_cons,List.length_cons];omega
theorem mem_sum {α:Type} (wt:α→Int) (hw:∀a,0≤wt a) {l:List α} {a:α} (h:a∈l):wt a≤(l.map wt).sum:=by
 induction l with
 |nil=>cases h
 |cons b l ih=>
  have h1:=sum_nn wt hw l
  have h2:=hw b
  simp only[List.map_cons,List.sum_cons]
  rcases List.mem_cons.1 h with rfl|h
  · omega
  · have:=ih h;omega
theorem flat_leC {α:Type} (f:α→List UInt8) (wt:α→Int) (c:Int) (l:List α) (h:∀a∈l,((f a).length:Int)≤c*wt a):((l.flatMap f).length:Int)≤c*(l.map wt).sum:=by
 induction l with
 |nil=>simp
 |cons a l ih=>
  rw[List.flatMap_cons,List.length_append,List.map_cons,List.sum_cons,Int.mul_add]
  have h1:=h a List.mem_cons_self
  have h2:=ih fun b hb=>h b (List.mem_cons_of_mem _ hb)
  omega
end Go.Proofs.YthdmanadhbpogaaGreat
/- The walk of recs' May. -/
namespace Go.Proofs.YthdmanadhbpogaaGreat
set_option linter.unusedVariables false
open Go.RowKit Fl
attribute [local go_sem] run_store_float
theorem wpList_load_row_g {P:Program} {w:World} {ops:Array Oper} {rest:List Oper} {o:Oper} {a:Act} {Q:Exit→Act→World→Prop} (hw:Region.wanted o (yielded ops a.tmps)=true) (ty:TypeId) (x:Operand) (ho:o.op=.load ty x)
 (g:Nat) (hx:a.eval x=.pointer (some ⟨g,0,none⟩)) (t:TypeId) (cs:Array Value) (fr:Nat×Nat) (d:TypeDesc) (hg:w.heap[g]?=some (.cells cs t fr))
 (hu:P.underlying ty=some d) (hd:(match d with| .struct _| .array _ _=>true|_=>false)=true) (hi:(P.info? ty).map (·.size)=some cs.size)
 (h:wpList P ops Q rest (a.put o.dst (.agg cs)) w):wpList P ops Q (o::rest) a w:=
 wpList_step fun _ hK=>by rw[if_pos hw];exact wp_load_row ty x ho g hx t cs fr d hg hu hd hi (hK _ _ h)
theorem wipe_len (r:Rc) (h:Hds) (h1:r.rd.length=h.a.n) (h2:r.wr.length=h.b.n) (h3:r.ps.length=h.c.n) (h4:r.pr.length=h.d.n) (h5:r.st.h.length=h.e.n) (h6:r.st.p.length=h.f.n):
 (wipe r).rd.length=(wipeH r.k h).a.n∧(wipe r).wr.length=(wipeH r.k h).b.n∧(wipe r).ps.length=(wipeH r.k h).c.n∧(wipe r).pr.length=(wipeH r.k h).d.n∧(wipe r).st.h.length=(wipeH r.k h).e.n∧(wipe r).st.p.length=(wipeH r.k h).f.n:=by
 by_cases hk:kindB r.k=true
 · unfold kindB at hk
   rw[decide_eq_true_eq]at hk
   have hc:r.k=1∨r.k=2∨r.k=3∨r.k=4∨r.k=5∨r.k=6∨r.k=7∨r.k=8∨r.k=9∨r.k=10∨r.k=11∨r.k=12:=by omega
   rcases hc with e|e|e|e|e|e|e|e|e|e|e|e
   all_goals simp[wipe,wipeH,e,h1,h2,h3,h4,h5,h6,zeroS]
 · unfold kindB at hk
   rw[decide_eq_true_eq]at hk
   have e1:wipe r=r:=by unfold wipe;repeat (rw[if_neg (by omega)])
   have e2:wipeH r.k h=h:=by unfold wipeH;repeat (rw[if_neg (by omega)])
   rw[e1,e2]
   exact⟨h1,h2,h3,h4,h5,h6⟩
def recMay (r:Rc):Int:=if kindB r.k=false then 7 else if (wipe r).zeroB=false then 4 else if fieldsB r=false then 4 else 0
set_option maxRecDepth 100000 in
set_option maxHeartbeats 4000000 in
theorem recMay_any (r:Rc) (h:Hds) (w:World) (ok:r.ok) (i:RcIn w r h) (sm:RcSm r h):
 Calls Tryz.prog 12 #[.agg (r.vals h)] w fun e w'=>e=.returned (.int .i64 (recMay r))∧Below w.heap.size w w':=by
 have hW:=fun w'=>without_any r h w'
 obtain⟨l1,l2,l3,l4,l5,l6⟩:=wipe_len r h i.rd.1 i.wr.1 i.ps.1 i.pr.1 i.hs.1 i.pn.1
 have hZ0:=fun w'=>zero_any (wipe r) (wipeH r.k h) w' l1 l2 l3 l4 l5 l6
 have hF:=fun (hk:kindB r.k=true) w' (hb:Below w.heap.size w w')=>fields_any r h w' hk ok (i.below hb) sm
 have HV:=Lib.hid (show recMay r=(if kindB r.k=false then 7 else if (wipe r).zeroB=false then 4 else if fieldsB r=false then 4 else 0) from rfl)
 clear l1 l2 l3 l4 l5 l6 ok i sm
 have hX:Below w.heap.size w (w.alloc (.cells (r.vals h) 38)):=by go_grown
 have B0:Blk (w.alloc (.cells (r.vals h) 38)) w.heap.size 38 (r.vals h):=Blk.new _ _ _
 generalize (wipe r).zeroB=bz at*
 generalize fieldsB r=bf at*
 generalize wipe r=q at*
 generalize wipeH r.k h=g at*
 cases hk:kindB r.k
 · rw[hk]at hW HV
   clear hF hk
   go_enter Tryz.func12,Tryz.ntmps12
   go_wp2_with (first
    |(refine wpList_load_row rfl 38 _ rfl _ rfl _ _ (0,0) _ (Blk.new _ _ _) rfl rfl (by kernel_rfl) ?_)
    |((with_reducible refine(hW _).mono ?_);rintro e w1 ⟨rfl,hb1⟩)
    |(refine wpList_store_new rfl 38 _ _ rfl _ rfl rfl _ _ (by kernel_rfl) (by kernel_rfl) (by kernel_rfl) ?_))
   all_goals go_ret
   exact⟨ret_int (by rw[HV.out];rfl),(hX.trans (hb1.mono hX.size)).alloc (hX.trans (hb1.mono hX.size)).size _⟩
 · have hF:=hF hk
   rw[hk]at hW HV
   clear hk
   cases bz
   · clear hF
     go_enter Tryz.func12,Tryz.ntmps12
     go_wp2_with (first
        |(refine wpList_load_row rfl 38 _ rfl _ rfl _ _ (0,0) _ (Blk.new _ _ _) rfl rfl (by kernel_rfl) ?_)
        |((with_reducible refine(hW _).mono ?_);rintro e w1 ⟨rfl,hb1⟩
          have hY:=hX.trans (hb1.mono hX.size)
          have hY2:=hY.alloc hY.size (.cells (q.vals g) 38))
        |((with_reducible refine(hZ0 _).mono ?_);rintro e w2 ⟨rfl,hb2⟩
          have hZ:=hY2.trans (hb2.mono hY2.size))
        |(refine wpList_store_new rfl 38 _ _ rfl _ rfl rfl _ _ (by kernel_rfl) (by kernel_rfl) (by kernel_rfl) ?_))
     all_goals go_ret
     exact⟨ret_int (by rw[HV.out];rfl),hZ⟩
   · go_enter Tryz.func12,Tryz.ntmps12
     go_wp2_with (first
        |(refine wpList_load_row rfl 38 _ rfl _ rfl _ _ (0,0) _ (Blk.new _ _ _) rfl rfl (by kernel_rfl) ?_)
        |(refine wpList_load_row_g (by rfl) 38 _ rfl _ rfl _ _ (0,0) _ C2 rfl rfl (by kernel_rfl) ?_)
        |((with_reducible refine(hW _).mono ?_);rintro e w1 ⟨rfl,hb1⟩
          have hY:=hX.trans (hb1.mono hX.size)
          have C1:=B0.below hb1 B0.lt
          have hY2:=hY.alloc hY.size (.cells (q.vals g) 38)
          replace C1:=C1.alloc (.cells (q.vals g) 38))
        |((with_reducible refine(hZ0 _).mono ?_);rintro e w2 ⟨rfl,hb2⟩
          have C2:=C1.below hb2 C1.lt
          have hZ:=hY2.trans (hb2.mono hY2.size))
        |((with_reducible refine(hF _ hZ).mono ?_);rintro e w3 ⟨rfl,hb3⟩)
        |(refine wpList_store_new rfl 38 _ _ rfl _ rfl rfl _ _ (by kernel_rfl) (by kernel_rfl) (by kernel_rfl) ?_))
     all_goals go_ret
     all_goals refine⟨ret_int ?_,hZ.trans (hb3.mono hZ.size)⟩
     all_goals rw[HV.out]
     all_goals simp_all
end Go.Proofs.YthdmanadhbpogaaGreat
/- Plain: of what was written the reading tells just that. -/
namespace Go.Proofs.YthdmanadhbpogaaGreat
set_option linter.unusedVariables false
open Go.RowKit Fl
def Back {α:Type} (f:Rdf α) (enc:α→List UInt8) (Q:α→Prop):Prop:=∀a pre r,Q a→f (pre++(enc a++r)) ⟨pre.length,0,0⟩=(a,⟨pre.length+(enc a).length,0,0⟩)
theorem leV_leW:∀(k u:Nat),leV (leW k u)=u%256^k:=by
 intro k
 induction k with
 |zero=>intro u;simp[leW,leV,Nat.mod_one]
 |succ k ih=>
  intro u
  have e:(u%256).toUInt8.toNat=u%256:=by show u%256%256=_;omega
  show (u%256).toUInt8.toNat+256*leV (leW k (u/256))=_
  rw[e,ih,Nat.pow_succ,Nat.mul_comm (256^k) 256,Nat.mod_mul]
theorem dec_enc' (pre r:List UInt8) {n:Int} (h:i64ok n):dec (pre++(encI n++r)) pre.length=.ok n (pre.length+(encI n).length):=by
 rw[←List.append_assoc]
 exact dec_enc pre r h.1 h.2
theorem rInt_back:Back rInt encI i64ok:=fun n pre r h=>by
 unfold rInt
 rw[if_neg (by simp),dec_enc' pre r h]
theorem rFloat_back:Back rFloat encF64 fun x=>x<18446744073709551616∧canonB x=x:=fun x pre r h=>by
 obtain⟨hx,hc⟩:=h
 unfold rFloat encF64
 have hl:=leW_len 8 (canonB x)
 have e:((pre++(leW 8 (canonB x)++r)).drop pre.length).take 8=leW 8 (canonB x):=by
  rw[List.drop_left' rfl,List.take_append_of_le_length (by omega),List.take_of_length_le (by omega)]
 have e2:leV (leW 8 (canonB x))=x:=by rw[leV_leW,hc,Nat.mod_eq_of_lt (by simpa using hx)]
 rw[if_neg (by simp),if_neg (by simp only[List.length_append,hl];omega)]
 simp only[e,e2]
 rw[if_neg (by simp[hc]),hl]
theorem rKy_back (most:Int) (hm:most≤1000000000000):Back (rKy most) encKy fun k=>(k.size:Int)≤most:=fun k pre r h=>by
 have hk:(k.data.toList.length:Int)=(k.size:Int):=by rw[Array.length_toList];rfl
 have hd:=dec_enc' pre (k.data.toList++r) (n:=(k.data.toList.length:Int)) (by unfold i64ok;omega)
 have e1:pre++(encKy k++r)=pre++(encI (k.data.toList.length:Int)++(k.data.toList++r)):=by unfold encKy encT;simp only[List.append_assoc]
 have e:rText (pre++(encKy k++r)) ⟨pre.length,0,0⟩ most=(k.data.toList,⟨pre.length+(encKy k).length,0,0⟩):=by
  unfold rText
  rw[if_neg (by simp),e1,hd]
  simp only
  rw[if_neg (by omega),if_neg (by omega),if_neg (by simp only[List.length_append];omega)]
  have e2:((pre++(encI (k.data.toList.length:Int)++(k.data.toList++r))).drop (pre.length+(encI (k.data.toList.length:Int)).length)).take ((k.data.toList.length:Int)).toNat=k.data.toList:=by
   rw[←List.append_assoc,Int.toNat_natCast,←List.length_append,List.drop_left' rfl,List.take_append_of_le_length (Nat.le_refl _),List.take_of_length_le (Nat.le_refl _)]
  have e3:(encKy k).length=(encI (k.data.toList.length:Int)).length+k.data.toList.length:=by unfold encKy encT;rw[List.length_append]
  rw[e2,e3,Int.toNat_natCast,Nat.add_assoc]
 show (_,_)=_
 rw[e]
section
variable {α β γ:Type} {f:Rdf α} {g:Rdf β} {mk:α→β→γ} {ef:α→List UInt8} {eg:β→List UInt8} {e:γ→List UInt8} {Qf:α→Prop} {Qg:β→Prop} {Q:γ→Prop}
theorem Back.two (hf:Back f ef Qf) (hg:Back g eg Qg) (he:∀a b,e (mk a b)=ef a++eg b) (hQ:∀c,Q c→∃a b,c=mk a b∧Qf a∧Qg b):Back (rTwo f g mk) e Q:=fun c pre r h=>by
 obtain⟨a,b,rfl,ha,hb⟩:=hQ c h
 rw[he]
 have h1:=hf a pre (eg b++r) ha
 have h2:=hg b (pre++ef a) r hb
 rw[List.length_append]at h2
 have e1:pre++(ef a++eg b++r)=pre++(ef a++(eg b++r)):=by simp only[List.append_assoc]
 have e2:pre++(ef a++(eg b++r))=pre++ef a++(eg b++r):=by simp only[List.append_assoc]
 unfold rTwo
 rw[e1,h1]
 simp only
 rw[e2,h2,List.length_append,Nat.add_assoc]
theorem rLoop_back (hf:Back f ef Qf):∀(l:List α) (pre r:List UInt8),(∀a∈l,Qf a)→rLoop f (pre++(l.flatMap ef++r)) l.length ⟨pre.length,0,0⟩=(l,⟨pre.length+(l.flatMap ef).length,0,0⟩):=by
 intro l
 induction l with
 |nil=>intro pre r _;rfl
 |cons a l ih=>
  intro pre r h
  have h1:=hf a pre (l.flatMap ef++r) (h a List.mem_cons_self)
  have h2:=ih (pre++ef a) r fun b hb=>h b (List.mem_cons_of_mem _ hb)
  rw[List.length_append]at h2
  have e1:pre++((a::l).flatMap ef++r)=pre++(ef a++(l.flatMap ef++r)):=by simp only[List.flatMap_cons,List.append_assoc]
  have e2:pre++(ef a++(l.flatMap ef++r))=pre++ef a++(l.flatMap ef++r):=by simp only[List.append_assoc]
  have hn:=rLoop_next f (pre++((a::l).flatMap ef++r)) (k:=l.length+1) (s:=⟨pre.length,0,0⟩) (by omega) rfl
  rw[Nat.add_sub_cancel]at hn
  rw[List.length_cons,hn,e1,h1]
  simp only
  rw[e2,h2,List.flatMap_cons,List.length_append,Nat.add_assoc]
theorem flat_ge (h1:∀a:α,1≤(ef a).length):∀l:List α,l.length≤(l.flatMap ef).length:=by
 intro l
 induction l with
 |nil=>exact Nat.le_refl _
 |cons a l ih=>
  rw[List.flatMap_cons,List.length_append,List.length_cons]
  have:=h1 a
  omega
theorem rLs_back (hf:Back f ef Qf) (h1:∀a:α,1≤(ef a).length):Back (rLs f) (encLs ef) fun l=>l.length≤1000000000000∧∀a∈l,Qf a:=fun l pre r h=>by
 have e1:pre++(encLs ef l++r)=pre++(encI (l.length:Int)++(l.flatMap ef++r)):=by unfold encLs;simp only[List.append_assoc]
 have e2:pre++(encI (l.length:Int)++(l.flatMap ef++r))=pre++encI (l.length:Int)++(l.flatMap ef++r):=by simp only[List.append_assoc]
 have hd:=dec_enc' pre (l.flatMap ef++r) (n:=(l.length:Int)) (by unfold i64ok;have:=h.1;omega)
 have hge:=flat_ge h1 l
 have hc:rCnt (pre++(encI (l.length:Int)++(l.flatMap ef++r))) ⟨pre.length,0,0⟩=((l.length:Int),⟨pre.length+(encI (l.length:Int)).length,0,0⟩):=by
  unfold rCnt rCount
  rw[if_neg (by simp),hd]
  simp only
  rw[if_neg (by omega),if_neg]
  unfold rLeft
  rw[if_neg (by simp)]
  simp only[List.length_append]
  omega
 have h2:=rLoop_back hf l (pre++encI (l.length:Int)) r h.2
 rw[List.length_append]at h2
 unfold rLs
 rw[e1,hc]
 simp only
 rw[Int.toNat_natCast,e2,h2]
 unfold encLs
 rw[List.length_append,Nat.add_assoc]
end
theorem encI_pos (n:Int):1≤(encI n).length:=by
 unfold encI
 by_cases h:zig n<128
 · rw[encU_small h];exact Nat.le_refl _
 · rw[encU_big h,List.length_cons];omega
theorem encKy_pos (k:ByteArray):1≤(encKy k).length:=by
 unfold encKy encT
 rw[List.length_append]
 have:=encI_pos (k.data.toList.length:Int)
 omega
theorem rII_back:Back (rTwo rInt rInt Prod.mk) (fun a=>encI a.1++encI a.2) fun a=>i64ok a.1∧i64ok a.2:=rInt_back.two rInt_back (fun _ _=>rfl) fun c h=>⟨c.1,c.2,rfl,h.1,h.2⟩
theorem rSp_back:Back rSp encSp Sp.ok:=by
 rw[rSp_eq]
 exact rII_back.two rInt_back (fun a b=>by show encI _++(encI _++encI _)=(encI _++encI _)++encI _;rw[List.append_assoc]) fun c h=>⟨(c.w,c.l),c.n,rfl,⟨h.1,h.2.1⟩,h.2.2⟩
theorem rTx_back:Back rTx encTx Tx.ok:=by
 rw[rTx_eq]
 exact rII_back.two rInt_back (fun a b=>by show encI _++(encI _++encI _)=(encI _++encI _)++encI _;rw[List.append_assoc]) fun c h=>⟨(c.c,c.l),c.s,rfl,⟨h.1,h.2.1⟩,h.2.2⟩
def VlG (v:Vl):Prop:=v.ok∧v.may=true
theorem empty_of {t:ByteArray} (h:emptyB t=true):t=⟨#[]⟩:=by
 refine bytes_toList ?_
 have h1:t.toList=[]:=by simpa [emptyB] using h
 have h2:(⟨#[]⟩:ByteArray).toList=[]:=by
  simp
 rw[h1,h2]
theorem rVl_back:Back rVl encVl VlG:=fun v pre r h=>by
 obtain⟨hok,hm⟩:=h
 obtain⟨k,n,t⟩:=v
 have hk:=may_kind hm
 have e:rVl0 (pre++(encVl ⟨k,n,t⟩++r)) ⟨pre.length,0,0⟩=(⟨k,n,t⟩,⟨pre.length+(encVl ⟨k,n,t⟩).length,0,0⟩):=by
  unfold encVl
  rw[if_pos hm]
  have hcnt:∀(k:Int) (x:List UInt8),(k=0∨k=1∨k=2)→rCount (pre++(encI k++x)) ⟨pre.length,0,0⟩ 2 4=(k,⟨pre.length+(encI k).length,0,0⟩):=fun k x hk=>by
   unfold rCount
   rw[if_neg (by simp),dec_enc' pre x (by unfold i64ok;omega)]
   simp only
   rw[if_neg (by omega),if_neg (by omega)]
  simp only at hk
  rcases hk with rfl|rfl|rfl
  · rw[Vl.may0 rfl]at hm
    simp only[Bool.and_eq_true]at hm
    obtain⟨h1,h2⟩:=hm
    obtain rfl:=empty_of h2
    have hn:n=0:=by simpa using h1
    subst hn
    rw[if_neg (show ¬(0:Int)=1 by omega),if_neg (show ¬(0:Int)=2 by omega)]
    unfold rVl0
    rw[hcnt 0 r (.inl rfl)]
    rw[if_neg (show ¬(0:Int)=1 by omega),if_neg (show ¬(0:Int)=2 by omega)]
  · rw[Vl.may1 rfl]at hm
    simp only[Bool.and_eq_true]at hm
    obtain⟨h2,h1⟩:=hm
    obtain rfl:=empty_of h2
    have hc:canonB n=n:=by
        have h1':((n:Nat):Int)=(canonB n:Int):=by simpa using h1
        omega
    rw[if_pos (show (1:Int)=1 from rfl)]
    have e1:pre++(encI 1++encF64 n++r)=pre++(encI 1++(encF64 n++r)):=by simp only[List.append_assoc]
    have e2:pre++(encI 1++(encF64 n++r))=pre++encI 1++(encF64 n++r):=by simp only[List.append_assoc]
    have hf:=rFloat_back n (pre++encI 1) r ⟨hok.2.1,hc⟩
    rw[List.length_append]at hf
    unfold rVl0
    rw[e1,hcnt 1 _ (.inr (.inl rfl))]
    simp only
    rw[if_pos trivial,e2,hf,List.length_append,Nat.add_assoc]
  · rw[Vl.may2 rfl]at hm
    simp only[Bool.and_eq_true,decide_eq_true_eq]at hm
    obtain⟨h1,h2⟩:=hm
    have hn:n=0:=by simpa using h1
    subst hn
    rw[if_neg (show ¬(2:Int)=1 by omega),if_pos (show (2:Int)=2 from rfl)]
    have e1:pre++(encI 2++encKy t++r)=pre++(encI 2++(encKy t++r)):=by simp only[List.append_assoc]
    have e2:pre++(encI 2++(encKy t++r))=pre++encI 2++(encKy t++r):=by simp only[List.append_assoc]
    have hf:=rKy_back 64 (by omega) t (pre++encI 2) r h2
    rw[List.length_append]at hf
    unfold rVl0
    rw[e1,hcnt 2 _ (.inr (.inr rfl))]
    simp only
    rw[if_neg (by omega),if_pos trivial,e2,hf,List.length_append,Nat.add_assoc]
 unfold rVl
 rw[e,if_neg (by simp)]
def KyG (k:ByteArray):Prop:=(k.size:Int)≤262144
def WtG (a:Wt):Prop:=KyG a.key∧VlG a.v
def VnG (a:Vn):Prop:=a.s.ok∧VlG a.v
def LsG {α:Type} (Q:α→Prop) (l:List α):Prop:=l.length≤1000000000000∧∀a∈l,Q a
def HsG (h:Hs):Prop:=KyG h.key∧LsG VnG h.vs
def PnG (p:Pn):Prop:=p.t.ok∧p.s.ok∧LsG KyG p.r∧LsG WtG p.w
def FlG (x:Nat):Prop:=x<18446744073709551616∧canonB x=x
def RgG (r:Rg):Prop:=i64ok r.id∧i64ok r.ep∧FlG r.lo∧FlG r.hi
def SttG (s:Stt):Prop:=RgG s.r∧s.f.ok∧s.c.ok∧LsG HsG s.h∧LsG PnG s.p
theorem rKey_back:Back rKey encKy KyG:=rKy_back 262144 (by omega)
theorem rWt_back:Back rWt encWt WtG:=rKey_back.two rVl_back (fun _ _=>rfl) fun c h=>⟨c.key,c.v,rfl,h.1,h.2⟩
theorem rVn_back:Back rVn encVn VnG:=rSp_back.two rVl_back (fun _ _=>rfl) fun c h=>⟨c.s,c.v,rfl,h.1,h.2⟩
theorem app_pos {a b:List UInt8} (h:1≤a.length):1≤(a++b).length:=by rw[List.length_append];omega
theorem encWt_pos (a:Wt):1≤(encWt a).length:=app_pos (encKy_pos _)
theorem encSp_pos (a:Sp):1≤(encSp a).length:=app_pos (encI_pos _)
theorem encTx_pos (a:Tx):1≤(encTx a).length:=app_pos (encI_pos _)
theorem encVn_pos (a:Vn):1≤(encVn a).length:=app_pos (encSp_pos _)
theorem encHs_pos (a:Hs):1≤(encHs a).length:=app_pos (encKy_pos _)
theorem encPn_pos (a:Pn):1≤(encPn a).length:=app_pos (encTx_pos _)
theorem rHs_back:Back rHs encHs HsG:=rKey_back.two (rLs_back rVn_back encVn_pos) (fun _ _=>rfl) fun c h=>⟨c.key,c.vs,rfl,h.1,h.2⟩
theorem rTS_back:Back (rTwo rTx rSp Prod.mk) (fun a=>encTx a.1++encSp a.2) fun a=>a.1.ok∧a.2.ok:=rTx_back.two rSp_back (fun _ _=>rfl) fun c h=>⟨c.1,c.2,rfl,h.1,h.2⟩
theorem rTSK_back:Back (rTwo (rTwo rTx rSp Prod.mk) (rLs rKey) Prod.mk) (fun a=>(encTx a.1.1++encSp a.1.2)++encLs encKy a.2) fun a=>(a.1.1.ok∧a.1.2.ok)∧LsG KyG a.2:=
 rTS_back.two (rLs_back rKey_back encKy_pos) (fun _ _=>rfl) fun c h=>⟨c.1,c.2,rfl,h.1,h.2⟩
theorem rPn_back:Back rPn encPn PnG:=rTSK_back.two (rLs_back rWt_back encWt_pos) (fun a b=>by
 show encTx _++(encSp _++(encLs encKy _++encLs encWt _))=((encTx _++encSp _)++encLs encKy _)++encLs encWt _
 simp only[List.append_assoc]) fun c h=>⟨((c.t,c.s),c.r),c.w,rfl,⟨⟨h.1,h.2.1⟩,h.2.2.1⟩,h.2.2.2⟩
theorem rIIF_back:Back (rTwo (rTwo rInt rInt Prod.mk) rFloat Prod.mk) (fun a=>(encI a.1.1++encI a.1.2)++encF64 a.2) fun a=>(i64ok a.1.1∧i64ok a.1.2)∧FlG a.2:=rII_back.two rFloat_back (fun _ _=>rfl) fun c h=>⟨c.1,c.2,rfl,h.1,h.2⟩
theorem rRg_back:Back rRg encRg RgG:=rIIF_back.two rFloat_back (fun a b=>by
 show encI _++(encI _++(encF64 _++encF64 _))=((encI _++encI _)++encF64 _)++encF64 _
 simp only[List.append_assoc]) fun c h=>⟨((c.id,c.ep),c.lo),c.hi,rfl,⟨⟨h.1,h.2.1⟩,h.2.2.1⟩,h.2.2.2⟩
theorem rRS_back:Back (rTwo rRg rSp Prod.mk) (fun a=>encRg a.1++encSp a.2) fun a=>RgG a.1∧a.2.ok:=rRg_back.two rSp_back (fun _ _=>rfl) fun c h=>⟨c.1,c.2,rfl,h.1,h.2⟩
theorem rRSS_back:Back (rTwo (rTwo rRg rSp Prod.mk) rSp Prod.mk) (fun a=>(encRg a.1.1++encSp a.1.2)++encSp a.2) fun a=>(RgG a.1.1∧a.1.2.ok)∧a.2.ok:=rRS_back.two rSp_back (fun _ _=>rfl) fun c h=>⟨c.1,c.2,rfl,h.1,h.2⟩
theorem rRSSH_back:Back (rTwo (rTwo (rTwo rRg rSp Prod.mk) rSp Prod.mk) (rLs rHs) Prod.mk) (fun a=>((encRg a.1.1.1++encSp a.1.1.2)++encSp a.1.2)++encLs encHs a.2) fun a=>((RgG a.1.1.1∧a.1.1.2.ok)∧a.1.2.ok)∧LsG HsG a.2:=
 rRSS_back.two (rLs_back rHs_back encHs_pos) (fun _ _=>rfl) fun c h=>⟨c.1,c.2,rfl,h.1,h.2⟩
theorem rSt_back:Back rSt encSt SttG:=rRSSH_back.two (rLs_back rPn_back encPn_pos) (fun a b=>by
 show encRg _++(encSp _++(encSp _++(encLs encHs _++encLs encPn _)))=(((encRg _++encSp _)++encSp _)++encLs encHs _)++encLs encPn _
 simp only[List.append_assoc]) fun c h=>⟨(((c.r,c.f),c.c),c.h),c.p,rfl,⟨⟨⟨h.1,h.2.1⟩,h.2.2.1⟩,h.2.2.2.1⟩,h.2.2.2.2⟩
theorem rise_keys:∀(l:List ByteArray) (p:Option ByteArray),riseFrom p l=true→∀k∈l,KyG k:=by
 intro l
 induction l with
 |nil=>intro p _ k hk;cases hk
 |cons a l ih=>
  intro p h k hk
  have h':=h
  unfold riseFrom at h'
  simp only[Bool.and_eq_true]at h'
  rcases List.mem_cons.1 hk with rfl|hk
  · have:=h'.1.1
    unfold keyB at this
    simp only[Bool.and_eq_true,decide_eq_true_eq]at this
    unfold KyG;omega
  · exact ih _ h'.2 k hk
theorem allMayV:∀(l:List Wt),allMay l=true→∀a∈l,a.v.may=true:=by
 intro l
 induction l with
 |nil=>intro _ a h;cases h
 |cons x l ih=>
  intro h a ha
  have h':(x.v.may&&allMay l)=true:=h
  simp only[Bool.and_eq_true]at h'
  rcases List.mem_cons.1 ha with rfl|ha
  · exact h'.1
  · exact ih h'.2 a ha
theorem pend_good {p:Pn} (h:pendE p=0):(∀k∈p.r,KyG k)∧∀a∈p.w,KyG a.key∧a.v.may=true:=by
 unfold pendE at h
 split at h
 · omega
 · split at h
   · omega
   · split at h
     · omega
     · rename_i h1 h2 h3
       split at h
       · rename_i h4
         simp only[Bool.or_eq_true,Bool.not_eq_true',not_or,Bool.not_eq_false]at h3
         have r1:=h3.1
         have r2:=h3.2
         unfold riseB at r1 r2
         simp only[Bool.and_eq_true]at r1 r2
         refine⟨rise_keys _ _ r1.1,fun a ha=>⟨rise_keys _ _ r2.1 a.key (List.mem_map_of_mem ha),allMayV _ h4 a ha⟩⟩
       · omega
theorem vers_good:∀(l:List Vn) (p:Sp),versB p l=true→∀a∈l,a.v.may=true:=by
 intro l
 induction l with
 |nil=>intro p _ k hk;cases hk
 |cons x l ih=>
  intro p h a ha
  have h':(x.s.may&&decide (0<x.s.cmp p)&&x.v.may&&versB x.s l)=true:=h
  simp only[Bool.and_eq_true]at h'
  rcases List.mem_cons.1 ha with rfl|ha
  · exact h'.1.2
  · exact ih _ h'.2 a ha
theorem hists_good:∀(l:List Hs) (p:ByteArray),histsB p l=true→∀h∈l,KyG h.key∧∀v∈h.vs,v.v.may=true:=by
 intro l
 induction l with
 |nil=>intro p _ k hk;cases hk
 |cons x l ih=>
  intro p h a ha
  have h':(histB p x&&histsB x.key l)=true:=h
  simp only[Bool.and_eq_true]at h'
  rcases List.mem_cons.1 ha with rfl|ha
  · have h1:=h'.1
    unfold histB keyB at h1
    simp only[Bool.and_eq_true,decide_eq_true_eq]at h1
    exact⟨by unfold KyG;omega,vers_good _ _ h1.2⟩
  · exact ih _ h'.2 a ha
theorem pends_good:∀(l:List Pn) (H:List Hs) (m:List Pn),pendsE H m l=0→∀p∈l,pendE p=0:=by
 intro l
 induction l with
 |nil=>intro H m _ k hk;cases hk
 |cons x l ih=>
  intro H m h a ha
  have h':(if pendE x≠0 then pendE x else if (m.any fun y=>decide (y.t=x.t)) then 9 else if lockedB m x then 18 else if oldB H x then 20 else pendsE H (m++[x]) l)=0:=h
  split at h'
  · rename_i h1;exact absurd h' h1
  · rename_i h1
    split at h'
    · omega
    · split at h'
      · omega
      · split at h'
        · omega
        · rcases List.mem_cons.1 ha with rfl|ha
          · exact Decidable.byContradiction h1
          · exact ih _ _ h' a ha
theorem pt_good {x:Nat} (h:x≤4607182418800017408):FlG x:=by
 refine⟨by omega,?_⟩
 unfold canonB
 rw[dnan_iff,decide_eq_false (by omega)]
 rfl
def SttOk (s:Stt):Prop:=s.r.ok∧s.f.ok∧s.c.ok∧SmallH s.h∧SmallP s.p∧(∀h∈s.h,∀v∈h.vs,v.ok)∧∀p∈s.p,p.t.ok∧p.s.ok∧∀a∈p.w,a.ok
theorem stt_good {s:Stt} (h:mayS s=true) (ok:SttOk s):SttG s:=by
 obtain⟨o1,o2,o3,o4,o5,o6,o7⟩:=ok
 unfold mayS at h
 simp only[Bool.and_eq_true,decide_eq_true_eq]at h
 obtain⟨⟨⟨⟨⟨h1,h2⟩,h3⟩,h4⟩,h5⟩,h6⟩:=h
 have hp:=mayR_lo h1
 have hl:histsB ⟨#[]⟩ s.h=true:=by
  unfold loadE at h4
  split at h4
  · assumption
  · omega
 have hq:pendsE s.h [] s.p=0:=by
  unfold loadE at h4
  rw[if_pos hl]at h4;exact h4
 refine⟨⟨o1.1,o1.2.1,pt_good (by omega),pt_good (by omega)⟩,o2,o3,⟨by have:=o4.1;omega,fun h hh=>?_⟩,⟨by have:=o5.1;omega,fun p hp=>?_⟩⟩
 · obtain⟨a1,a2⟩:=hists_good _ _ hl h hh
   exact⟨a1,by have:=o4.2 h hh;omega,fun v hv=>⟨(o6 h hh v hv).1,(o6 h hh v hv).2,a2 v hv⟩⟩
 · obtain⟨a1,a2⟩:=pend_good (pends_good _ _ _ hq p hp)
   obtain⟨b1,b2,b3⟩:=o7 p hp
   have c:=o5.2 p hp
   exact⟨b1,b2,⟨by omega,a1⟩,⟨by omega,fun a ha=>⟨(a2 a ha).1,(b3 a ha).2,(a2 a ha).2⟩⟩⟩
end Go.Proofs.YthdmanadhbpogaaGreat
/- Plain: of the bytes of a record that may be the reading tells that record. -/
namespace Go.Proofs.YthdmanadhbpogaaGreat
set_option linter.unusedVariables false
open Go.RowKit Fl
theorem Sl.mem_rel {α:Type} {R:Rel α} {size:Nat} {w:World} {B n:Nat} {A:Option Addr} {l:List α} (h:Sl R size w B A n l) {a:α} (ha:a∈l):∃cs,R w B cs a:=by
 obtain⟨i,hi,rfl⟩:=List.mem_iff_getElem.1 ha
 obtain⟨ad,cs,_,_,_,_,hr⟩:=h.2 i l[i] (List.getElem?_eq_getElem hi)
 exact⟨cs,hr⟩
theorem sttOk_of {w:World} {s:Stt} {B n1 n2:Nat} {A1 A2:Option Addr} (o1:s.r.ok) (o2:s.f.ok) (o3:s.c.ok) (h1:SmallH s.h) (h2:SmallP s.p) (i1:Sl HsRel 2 w B A1 n1 s.h) (i2:Sl PnRel 8 w B A2 n2 s.p):SttOk s:=
 ⟨o1,o2,o3,h1,h2,fun h hh=>by
  obtain⟨cs,v,_,_,A,n,c,_,_,_,hs⟩:=i1.mem_rel hh
  exact Sl.all_ok hs,fun p hp=>by
  obtain⟨cs,u,v,_,a1,a2,_,A,n,c,_,_,_,hs⟩:=i2.mem_rel hp
  exact⟨a1,a2,Sl.all_ok hs⟩⟩
theorem lz {α:Type} {l:List α} (h:((l.length:Int)==0)=true):l=[]:=by
 have:(l.length:Int)=0:=by simpa using h
 exact List.length_eq_zero_iff.1 (by omega)
end Go.Proofs.YthdmanadhbpogaaGreat
