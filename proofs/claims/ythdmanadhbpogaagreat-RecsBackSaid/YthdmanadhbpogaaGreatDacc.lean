/- The walks of recs' fields and May. -/
import Derived.Test.YthdmanadhbpogaaGreatDacb
namespace Go.Proofs.YthdmanadhbpogaaGreat
set_option maxHeartbeats 4000000
set_option maxRecDepth 100000
set_option linter.unusedVariables false
open Go.RowKit Fl
attribute [local go_sem] run_store_float
structure RcSm (r:Rc) (h:Hds):Prop where
 a:h.a.n≤1000000
 b:h.b.n≤1000000
 c:h.c.n≤1000000
 d:h.d.n≤1000000
 h:SmallH r.st.h
 p:SmallP r.st.p
def fieldsB (r:Rc):Bool:=
 if r.k=1 then (mayS r.st) else
 if r.k=2 then (decide (0≤r.n)&&decide (r.n≤281474976710656)) else
 if r.k=3 then ((pendE ⟨r.t,r.s,r.rd,r.wr⟩==0)&&partsB r.ps) else
 if r.k=4 then (r.t.may&&decB r.cm r.s) else
 if r.k=5 then r.s.may else
 if r.k=6 then ((pointE r.pt==0)&&fgt (pointV r.pt) 0&&flt (pointV r.pt) 4607182418800017408&&rangesB r.n&&r.s.may) else
 if r.k=7 then (rangesB r.n) else
 if r.k=8 then (decide (1≤r.n)) else
 if r.k=9 then (r.t.may&&r.s.mom&&partsB r.ps) else
 if r.k=10 then r.t.may else
 if r.k=11 then (applyB r.pv r.s r.t r.wr) else
 if r.k=12 then (r.s.may&&prsB r.pr) else
 false
theorem fields_1 (r:Rc) (h:Hds) (w:World) (hk:r.k=1) (ok:r.ok) (i:RcIn w r h) (sm:RcSm r h):
 Calls Tryz.prog 43 #[.agg (r.vals h)] w fun e w'=>e=.returned (.bool (mayS r.st))∧Below w.heap.size w w':=by
 obtain⟨k,t,s,pv,cm,n,pt,rd,wr,ps,pr,st⟩:=r
 change k=1 at hk
 subst hk
 have hS:=fun w' (hb:Below w.heap.size w w')=>stateMay_any st h.e.A h.f.A h.e.n h.f.n h.e.c h.f.c w' ok.rg (i.below hb).hs (i.below hb).pn sm.h sm.p
 have hX:Below w.heap.size w (w.alloc (.cells (Rc.vals ⟨1,t,s,pv,cm,n,pt,rd,wr,ps,pr,st⟩ h) 38)):=by go_grown
 have B0:Blk (w.alloc (.cells (Rc.vals ⟨1,t,s,pv,cm,n,pt,rd,wr,ps,pr,st⟩ h) 38)) w.heap.size 38 (Rc.vals ⟨1,t,s,pv,cm,n,pt,rd,wr,ps,pr,st⟩ h):=Blk.new _ _ _
 have HV:=Lib.hid (show (mayS st)=(mayS st) from rfl)
 clear ok i sm
 generalize hg0:mayS st=g0 at*
 clear hg0
 go_enter Tryz.func43,Tryz.ntmps43
 go_wp2_with (first
  |((with_reducible refine(hS _ hX).mono ?_);rintro e w1 ⟨rfl,hb1⟩
    have hY:=hX.trans (hb1.mono hX.size)))
 all_goals go_ret
 all_goals refine⟨ret_bool ?_,by first|exact hY|exact hX⟩
 all_goals first|rfl|(simp_all;done)|(simp_all;omega)
theorem fields_2 (r:Rc) (h:Hds) (w:World) (hk:r.k=2) (ok:r.ok) (i:RcIn w r h) (sm:RcSm r h):
 Calls Tryz.prog 43 #[.agg (r.vals h)] w fun e w'=>e=.returned (.bool (decide (0≤r.n)&&decide (r.n≤281474976710656)))∧Below w.heap.size w w':=by
 obtain⟨k,t,s,pv,cm,n,pt,rd,wr,ps,pr,st⟩:=r
 change k=2 at hk
 subst hk
 have hX:Below w.heap.size w (w.alloc (.cells (Rc.vals ⟨2,t,s,pv,cm,n,pt,rd,wr,ps,pr,st⟩ h) 38)):=by go_grown
 have B0:Blk (w.alloc (.cells (Rc.vals ⟨2,t,s,pv,cm,n,pt,rd,wr,ps,pr,st⟩ h) 38)) w.heap.size 38 (Rc.vals ⟨2,t,s,pv,cm,n,pt,rd,wr,ps,pr,st⟩ h):=Blk.new _ _ _
 have HV:=Lib.hid (show (decide (0≤n)&&decide (n≤281474976710656))=(decide (0≤n)&&decide (n≤281474976710656)) from rfl)
 clear ok i sm
 go_enter Tryz.func43,Tryz.ntmps43
 go_wp2
 all_goals go_ret
 all_goals refine⟨ret_bool ?_,hX⟩
 all_goals first|rfl|(simp_all;done)|(simp_all;omega)
theorem fields_3 (r:Rc) (h:Hds) (w:World) (hk:r.k=3) (ok:r.ok) (i:RcIn w r h) (sm:RcSm r h):
 Calls Tryz.prog 43 #[.agg (r.vals h)] w fun e w'=>e=.returned (.bool ((pendE ⟨r.t,r.s,r.rd,r.wr⟩==0)&&partsB r.ps))∧Below w.heap.size w w':=by
 obtain⟨k,t,s,pv,cm,n,pt,rd,wr,ps,pr,st⟩:=r
 change k=3 at hk
 subst hk
 have hS:=fun w' (hb:Below w.heap.size w w')=>pend_any ⟨t,s,rd,wr⟩ h.a.A h.b.A h.a.n h.b.n h.a.c h.b.c w' (i.below hb).rd (i.below hb).wr i.na sm.b
 have hQ:=fun w' (hb:Below w.heap.size w w')=>parts_any h.c.A h.c.n h.c.c ps w' (i.below hb).ps i.nc
 have hX:Below w.heap.size w (w.alloc (.cells (Rc.vals ⟨3,t,s,pv,cm,n,pt,rd,wr,ps,pr,st⟩ h) 38)):=by go_grown
 have B0:Blk (w.alloc (.cells (Rc.vals ⟨3,t,s,pv,cm,n,pt,rd,wr,ps,pr,st⟩ h) 38)) w.heap.size 38 (Rc.vals ⟨3,t,s,pv,cm,n,pt,rd,wr,ps,pr,st⟩ h):=Blk.new _ _ _
 have HV:=Lib.hid (show ((pendE ⟨t,s,rd,wr⟩==0)&&partsB ps)=((pendE ⟨t,s,rd,wr⟩==0)&&partsB ps) from rfl)
 clear ok i sm
 generalize hg0:pendE ⟨t,s,rd,wr⟩=g0 at*
 generalize hg1:partsB ps=g1 at*
 clear hg0 hg1
 go_enter Tryz.func43,Tryz.ntmps43
 go_wp2_with (first
  |((with_reducible refine(hS _ hX).mono ?_);rintro e w1 ⟨rfl,hb1⟩
    have hY:=hX.trans (hb1.mono hX.size)
    have C0:=B0.below hb1 B0.lt
    have l0:=C0.lt
    have x0_15:=C0.cell 15
    simp only[List.getElem?_toArray,List.getElem?_cons_succ,List.getElem?_cons_zero]at x0_15)
  |((with_reducible refine(hQ _ hY).mono ?_);rintro e w2 ⟨rfl,rfl⟩))
 all_goals go_ret
 all_goals refine⟨ret_bool ?_,by first|exact hY|exact hX⟩
 all_goals first|rfl|(simp_all;done)|(simp_all;omega)
theorem fields_4 (r:Rc) (h:Hds) (w:World) (hk:r.k=4) (ok:r.ok) (i:RcIn w r h) (sm:RcSm r h):
 Calls Tryz.prog 43 #[.agg (r.vals h)] w fun e w'=>e=.returned (.bool (r.t.may&&decB r.cm r.s))∧Below w.heap.size w w':=by
 obtain⟨k,t,s,pv,cm,n,pt,rd,wr,ps,pr,st⟩:=r
 change k=4 at hk
 subst hk
 have hS:=fun w' (hb:Below w.heap.size w w')=>txnMay_any t w'
 have hQ:=fun w' (hb:Below w.heap.size w w')=>decided_any cm s w'
 have hX:Below w.heap.size w (w.alloc (.cells (Rc.vals ⟨4,t,s,pv,cm,n,pt,rd,wr,ps,pr,st⟩ h) 38)):=by go_grown
 have B0:Blk (w.alloc (.cells (Rc.vals ⟨4,t,s,pv,cm,n,pt,rd,wr,ps,pr,st⟩ h) 38)) w.heap.size 38 (Rc.vals ⟨4,t,s,pv,cm,n,pt,rd,wr,ps,pr,st⟩ h):=Blk.new _ _ _
 have HV:=Lib.hid (show (t.may&&decB cm s)=(t.may&&decB cm s) from rfl)
 clear ok i sm
 generalize hg0:t.may=g0 at*
 generalize hg1:decB cm s=g1 at*
 clear hg0 hg1
 go_enter Tryz.func43,Tryz.ntmps43
 go_wp2_with (first
  |((with_reducible refine(hS _ hX).mono ?_);rintro e w1 ⟨rfl,hb1⟩
    have hY:=hX.trans (hb1.mono hX.size)
    have C0:=B0.below hb1 B0.lt
    have l0:=C0.lt
    have x0_4:=C0.cell 4
    have x0_5:=C0.cell 5
    have x0_6:=C0.cell 6
    have x0_10:=C0.cell 10
    simp only[List.getElem?_toArray,List.getElem?_cons_succ,List.getElem?_cons_zero]at x0_4 x0_5 x0_6 x0_10)
  |((with_reducible refine(hQ _ hY).mono ?_);rintro e w2 ⟨rfl,hb2⟩
    have hZ:=hY.trans (hb2.mono hY.size)))
 all_goals go_ret
 all_goals refine⟨ret_bool ?_,by first|exact hZ|exact hY|exact hX⟩
 all_goals first|rfl|(simp_all;done)|(simp_all;omega)
theorem fields_5 (r:Rc) (h:Hds) (w:World) (hk:r.k=5) (ok:r.ok) (i:RcIn w r h) (sm:RcSm r h):
 Calls Tryz.prog 43 #[.agg (r.vals h)] w fun e w'=>e=.returned (.bool r.s.may)∧Below w.heap.size w w':=by
 obtain⟨k,t,s,pv,cm,n,pt,rd,wr,ps,pr,st⟩:=r
 change k=5 at hk
 subst hk
 have hS:=fun w' (hb:Below w.heap.size w w')=>hmayB s w'
 have hX:Below w.heap.size w (w.alloc (.cells (Rc.vals ⟨5,t,s,pv,cm,n,pt,rd,wr,ps,pr,st⟩ h) 38)):=by go_grown
 have B0:Blk (w.alloc (.cells (Rc.vals ⟨5,t,s,pv,cm,n,pt,rd,wr,ps,pr,st⟩ h) 38)) w.heap.size 38 (Rc.vals ⟨5,t,s,pv,cm,n,pt,rd,wr,ps,pr,st⟩ h):=Blk.new _ _ _
 have HV:=Lib.hid (show s.may=s.may from rfl)
 clear ok i sm
 generalize hg0:s.may=g0 at*
 clear hg0
 go_enter Tryz.func43,Tryz.ntmps43
 go_wp2_with (first
  |((with_reducible refine(hS _ hX).mono ?_);rintro e w1 ⟨rfl,hb1⟩
    have hY:=hX.trans (hb1.mono hX.size)))
 all_goals go_ret
 all_goals refine⟨ret_bool ?_,by first|exact hY|exact hX⟩
 all_goals first|rfl|(simp_all;done)|(simp_all;omega)
theorem fields_6 (r:Rc) (h:Hds) (w:World) (hk:r.k=6) (ok:r.ok) (i:RcIn w r h) (sm:RcSm r h):
 Calls Tryz.prog 43 #[.agg (r.vals h)] w fun e w'=>e=.returned (.bool ((pointE r.pt==0)&&fgt (pointV r.pt) 0&&flt (pointV r.pt) 4607182418800017408&&rangesB r.n&&r.s.may))∧Below w.heap.size w w':=by
 obtain⟨k,t,s,pv,cm,n,pt,rd,wr,ps,pr,st⟩:=r
 change k=6 at hk
 subst hk
 have hS:=fun w' (hb:Below w.heap.size w w')=>point pt w' ok.pt
 have hQ:=fun w' (hb:Below w.heap.size w w')=>ranges_any n w'
 have hR:=fun w' (hb:Below w.heap.size w w')=>hmayB s w'
 have hX:Below w.heap.size w (w.alloc (.cells (Rc.vals ⟨6,t,s,pv,cm,n,pt,rd,wr,ps,pr,st⟩ h) 38)):=by go_grown
 have B0:Blk (w.alloc (.cells (Rc.vals ⟨6,t,s,pv,cm,n,pt,rd,wr,ps,pr,st⟩ h) 38)) w.heap.size 38 (Rc.vals ⟨6,t,s,pv,cm,n,pt,rd,wr,ps,pr,st⟩ h):=Blk.new _ _ _
 have HV:=Lib.hid (show ((pointE pt==0)&&fgt (pointV pt) 0&&flt (pointV pt) 4607182418800017408&&rangesB n&&s.may)=((pointE pt==0)&&fgt (pointV pt) 0&&flt (pointV pt) 4607182418800017408&&rangesB n&&s.may) from rfl)
 clear ok i sm
 generalize hg0:rangesB n=g0 at*
 generalize hg1:s.may=g1 at*
 clear hg0 hg1
 go_enter Tryz.func43,Tryz.ntmps43
 go_wp2_with (first
  |((with_reducible refine(hS _ hX).mono ?_);rintro e w1 ⟨rfl,rfl⟩)
  |((with_reducible refine(hQ _ hX).mono ?_);rintro e w2 ⟨rfl,rfl⟩)
  |((with_reducible refine(hR _ hX).mono ?_);rintro e w3 ⟨rfl,hb3⟩
    have hW:=hX.trans (hb3.mono hX.size)))
 all_goals go_ret
 all_goals refine⟨ret_bool ?_,by first|exact hW|exact hX⟩
 all_goals first|rfl|(simp_all [fgt,flt];done)|(simp_all;omega)
theorem fields_7 (r:Rc) (h:Hds) (w:World) (hk:r.k=7) (ok:r.ok) (i:RcIn w r h) (sm:RcSm r h):
 Calls Tryz.prog 43 #[.agg (r.vals h)] w fun e w'=>e=.returned (.bool (rangesB r.n))∧Below w.heap.size w w':=by
 obtain⟨k,t,s,pv,cm,n,pt,rd,wr,ps,pr,st⟩:=r
 change k=7 at hk
 subst hk
 have hS:=fun w' (hb:Below w.heap.size w w')=>ranges_any n w'
 have hX:Below w.heap.size w (w.alloc (.cells (Rc.vals ⟨7,t,s,pv,cm,n,pt,rd,wr,ps,pr,st⟩ h) 38)):=by go_grown
 have B0:Blk (w.alloc (.cells (Rc.vals ⟨7,t,s,pv,cm,n,pt,rd,wr,ps,pr,st⟩ h) 38)) w.heap.size 38 (Rc.vals ⟨7,t,s,pv,cm,n,pt,rd,wr,ps,pr,st⟩ h):=Blk.new _ _ _
 have HV:=Lib.hid (show (rangesB n)=(rangesB n) from rfl)
 clear ok i sm
 generalize hg0:rangesB n=g0 at*
 clear hg0
 go_enter Tryz.func43,Tryz.ntmps43
 go_wp2_with (first
  |((with_reducible refine(hS _ hX).mono ?_);rintro e w1 ⟨rfl,rfl⟩))
 all_goals go_ret
 all_goals refine⟨ret_bool ?_,by first|exact hX⟩
 all_goals first|rfl|(simp_all;done)|(simp_all;omega)
theorem fields_8 (r:Rc) (h:Hds) (w:World) (hk:r.k=8) (ok:r.ok) (i:RcIn w r h) (sm:RcSm r h):
 Calls Tryz.prog 43 #[.agg (r.vals h)] w fun e w'=>e=.returned (.bool (decide (1≤r.n)))∧Below w.heap.size w w':=by
 obtain⟨k,t,s,pv,cm,n,pt,rd,wr,ps,pr,st⟩:=r
 change k=8 at hk
 subst hk
 have hX:Below w.heap.size w (w.alloc (.cells (Rc.vals ⟨8,t,s,pv,cm,n,pt,rd,wr,ps,pr,st⟩ h) 38)):=by go_grown
 have B0:Blk (w.alloc (.cells (Rc.vals ⟨8,t,s,pv,cm,n,pt,rd,wr,ps,pr,st⟩ h) 38)) w.heap.size 38 (Rc.vals ⟨8,t,s,pv,cm,n,pt,rd,wr,ps,pr,st⟩ h):=Blk.new _ _ _
 have HV:=Lib.hid (show (decide (1≤n))=(decide (1≤n)) from rfl)
 clear ok i sm
 go_enter Tryz.func43,Tryz.ntmps43
 go_wp2
 all_goals go_ret
 all_goals refine⟨ret_bool ?_,hX⟩
 all_goals first|rfl|(simp_all;done)|(simp_all;omega)
theorem fields_9 (r:Rc) (h:Hds) (w:World) (hk:r.k=9) (ok:r.ok) (i:RcIn w r h) (sm:RcSm r h):
 Calls Tryz.prog 43 #[.agg (r.vals h)] w fun e w'=>e=.returned (.bool (r.t.may&&r.s.mom&&partsB r.ps))∧Below w.heap.size w w':=by
 obtain⟨k,t,s,pv,cm,n,pt,rd,wr,ps,pr,st⟩:=r
 change k=9 at hk
 subst hk
 have hS:=fun w' (hb:Below w.heap.size w w')=>txnMay_any t w'
 have hQ:=fun w' (hb:Below w.heap.size w w')=>moment_any s w'
 have hR:=fun w' (hb:Below w.heap.size w w')=>parts_any h.c.A h.c.n h.c.c ps w' (i.below hb).ps i.nc
 have hX:Below w.heap.size w (w.alloc (.cells (Rc.vals ⟨9,t,s,pv,cm,n,pt,rd,wr,ps,pr,st⟩ h) 38)):=by go_grown
 have B0:Blk (w.alloc (.cells (Rc.vals ⟨9,t,s,pv,cm,n,pt,rd,wr,ps,pr,st⟩ h) 38)) w.heap.size 38 (Rc.vals ⟨9,t,s,pv,cm,n,pt,rd,wr,ps,pr,st⟩ h):=Blk.new _ _ _
 have HV:=Lib.hid (show (t.may&&s.mom&&partsB ps)=(t.may&&s.mom&&partsB ps) from rfl)
 clear ok i sm
 generalize hg0:t.may=g0 at*
 generalize hg1:s.mom=g1 at*
 generalize hg2:partsB ps=g2 at*
 clear hg0 hg1 hg2
 go_enter Tryz.func43,Tryz.ntmps43
 go_wp2_with (first
  |((with_reducible refine(hS _ hX).mono ?_);rintro e w1 ⟨rfl,hb1⟩
    have hY:=hX.trans (hb1.mono hX.size)
    have C0:=B0.below hb1 B0.lt
    have l0:=C0.lt
    have x0_4:=C0.cell 4
    have x0_5:=C0.cell 5
    have x0_6:=C0.cell 6
    have x0_15:=C0.cell 15
    simp only[List.getElem?_toArray,List.getElem?_cons_succ,List.getElem?_cons_zero]at x0_4 x0_5 x0_6 x0_15)
  |((with_reducible refine(hQ _ hY).mono ?_);rintro e w2 ⟨rfl,hb2⟩
    have hZ:=hY.trans (hb2.mono hY.size)
    have C1:=C0.below hb2 C0.lt
    have l1:=C1.lt
    have x1_4:=C1.cell 4
    have x1_5:=C1.cell 5
    have x1_6:=C1.cell 6
    have x1_15:=C1.cell 15
    simp only[List.getElem?_toArray,List.getElem?_cons_succ,List.getElem?_cons_zero]at x1_4 x1_5 x1_6 x1_15)
  |((with_reducible refine(hR _ hZ).mono ?_);rintro e w3 ⟨rfl,rfl⟩))
 all_goals go_ret
 all_goals refine⟨ret_bool ?_,by first|exact hZ|exact hY|exact hX⟩
 all_goals first|rfl|(simp_all;done)|(simp_all;omega)
theorem fields_10 (r:Rc) (h:Hds) (w:World) (hk:r.k=10) (ok:r.ok) (i:RcIn w r h) (sm:RcSm r h):
 Calls Tryz.prog 43 #[.agg (r.vals h)] w fun e w'=>e=.returned (.bool r.t.may)∧Below w.heap.size w w':=by
 obtain⟨k,t,s,pv,cm,n,pt,rd,wr,ps,pr,st⟩:=r
 change k=10 at hk
 subst hk
 have hS:=fun w' (hb:Below w.heap.size w w')=>txnMay_any t w'
 have hX:Below w.heap.size w (w.alloc (.cells (Rc.vals ⟨10,t,s,pv,cm,n,pt,rd,wr,ps,pr,st⟩ h) 38)):=by go_grown
 have B0:Blk (w.alloc (.cells (Rc.vals ⟨10,t,s,pv,cm,n,pt,rd,wr,ps,pr,st⟩ h) 38)) w.heap.size 38 (Rc.vals ⟨10,t,s,pv,cm,n,pt,rd,wr,ps,pr,st⟩ h):=Blk.new _ _ _
 have HV:=Lib.hid (show t.may=t.may from rfl)
 clear ok i sm
 generalize hg0:t.may=g0 at*
 clear hg0
 go_enter Tryz.func43,Tryz.ntmps43
 go_wp2_with (first
  |((with_reducible refine(hS _ hX).mono ?_);rintro e w1 ⟨rfl,hb1⟩
    have hY:=hX.trans (hb1.mono hX.size)))
 all_goals go_ret
 all_goals refine⟨ret_bool ?_,by first|exact hY|exact hX⟩
 all_goals first|rfl|(simp_all;done)|(simp_all;omega)
theorem fields_11 (r:Rc) (h:Hds) (w:World) (hk:r.k=11) (ok:r.ok) (i:RcIn w r h) (sm:RcSm r h):
 Calls Tryz.prog 43 #[.agg (r.vals h)] w fun e w'=>e=.returned (.bool (applyB r.pv r.s r.t r.wr))∧Below w.heap.size w w':=by
 obtain⟨k,t,s,pv,cm,n,pt,rd,wr,ps,pr,st⟩:=r
 change k=11 at hk
 subst hk
 have hS:=fun w' (hb:Below w.heap.size w w')=>apply_any pv s t h.b.A h.b.n h.b.c wr w' (i.below hb).wr sm.b
 have hX:Below w.heap.size w (w.alloc (.cells (Rc.vals ⟨11,t,s,pv,cm,n,pt,rd,wr,ps,pr,st⟩ h) 38)):=by go_grown
 have B0:Blk (w.alloc (.cells (Rc.vals ⟨11,t,s,pv,cm,n,pt,rd,wr,ps,pr,st⟩ h) 38)) w.heap.size 38 (Rc.vals ⟨11,t,s,pv,cm,n,pt,rd,wr,ps,pr,st⟩ h):=Blk.new _ _ _
 have HV:=Lib.hid (show (applyB pv s t wr)=(applyB pv s t wr) from rfl)
 clear ok i sm
 generalize hg0:applyB pv s t wr=g0 at*
 clear hg0
 go_enter Tryz.func43,Tryz.ntmps43
 go_wp2_with (first
  |((with_reducible refine(hS _ hX).mono ?_);rintro e w1 ⟨rfl,hb1⟩
    have hY:=hX.trans (hb1.mono hX.size)))
 all_goals go_ret
 all_goals refine⟨ret_bool ?_,by first|exact hY|exact hX⟩
 all_goals first|rfl|(simp_all;done)|(simp_all;omega)
theorem fields_12 (r:Rc) (h:Hds) (w:World) (hk:r.k=12) (ok:r.ok) (i:RcIn w r h) (sm:RcSm r h):
 Calls Tryz.prog 43 #[.agg (r.vals h)] w fun e w'=>e=.returned (.bool (r.s.may&&prsB r.pr))∧Below w.heap.size w w':=by
 obtain⟨k,t,s,pv,cm,n,pt,rd,wr,ps,pr,st⟩:=r
 change k=12 at hk
 subst hk
 have hS:=fun w' (hb:Below w.heap.size w w')=>hmayB s w'
 have hQ:=fun w' (hb:Below w.heap.size w w')=>prs_any h.d.A h.d.n h.d.c pr w' (i.below hb).pr i.nd
 have hX:Below w.heap.size w (w.alloc (.cells (Rc.vals ⟨12,t,s,pv,cm,n,pt,rd,wr,ps,pr,st⟩ h) 38)):=by go_grown
 have B0:Blk (w.alloc (.cells (Rc.vals ⟨12,t,s,pv,cm,n,pt,rd,wr,ps,pr,st⟩ h) 38)) w.heap.size 38 (Rc.vals ⟨12,t,s,pv,cm,n,pt,rd,wr,ps,pr,st⟩ h):=Blk.new _ _ _
 have HV:=Lib.hid (show (s.may&&prsB pr)=(s.may&&prsB pr) from rfl)
 clear ok i sm
 generalize hg0:s.may=g0 at*
 generalize hg1:prsB pr=g1 at*
 clear hg0 hg1
 go_enter Tryz.func43,Tryz.ntmps43
 go_wp2_with (first
  |((with_reducible refine(hS _ hX).mono ?_);rintro e w1 ⟨rfl,hb1⟩
    have hY:=hX.trans (hb1.mono hX.size)
    have C0:=B0.below hb1 B0.lt
    have l0:=C0.lt
    have x0_16:=C0.cell 16
    simp only[List.getElem?_toArray,List.getElem?_cons_succ,List.getElem?_cons_zero]at x0_16)
  |((with_reducible refine(hQ _ hY).mono ?_);rintro e w2 ⟨rfl,hb2⟩
    have hZ:=hY.trans (hb2.mono hY.size)))
 all_goals go_ret
 all_goals refine⟨ret_bool ?_,by first|exact hZ|exact hY|exact hX⟩
 all_goals first|rfl|(simp_all;done)|(simp_all;omega)
theorem fields_any (r:Rc) (h:Hds) (w:World) (hk:kindB r.k=true) (ok:r.ok) (i:RcIn w r h) (sm:RcSm r h):
 Calls Tryz.prog 43 #[.agg (r.vals h)] w fun e w'=>e=.returned (.bool (fieldsB r))∧Below w.heap.size w w':=by
 unfold kindB at hk
 rw[decide_eq_true_eq]at hk
 have hc:r.k=1∨r.k=2∨r.k=3∨r.k=4∨r.k=5∨r.k=6∨r.k=7∨r.k=8∨r.k=9∨r.k=10∨r.k=11∨r.k=12:=by omega
 rcases hc with e|e|e|e|e|e|e|e|e|e|e|e
 · have e1:fieldsB r=(mayS r.st):=by unfold fieldsB;simp only[e];rfl
   rw[e1];exact fields_1 r h w e ok i sm
 · have e1:fieldsB r=(decide (0≤r.n)&&decide (r.n≤281474976710656)):=by unfold fieldsB;simp only[e];rfl
   rw[e1];exact fields_2 r h w e ok i sm
 · have e1:fieldsB r=((pendE ⟨r.t,r.s,r.rd,r.wr⟩==0)&&partsB r.ps):=by unfold fieldsB;simp only[e];rfl
   rw[e1];exact fields_3 r h w e ok i sm
 · have e1:fieldsB r=(r.t.may&&decB r.cm r.s):=by unfold fieldsB;simp only[e];rfl
   rw[e1];exact fields_4 r h w e ok i sm
 · have e1:fieldsB r=r.s.may:=by unfold fieldsB;simp only[e];rfl
   rw[e1];exact fields_5 r h w e ok i sm
 · have e1:fieldsB r=((pointE r.pt==0)&&fgt (pointV r.pt) 0&&flt (pointV r.pt) 4607182418800017408&&rangesB r.n&&r.s.may):=by unfold fieldsB;simp only[e];rfl
   rw[e1];exact fields_6 r h w e ok i sm
 · have e1:fieldsB r=(rangesB r.n):=by unfold fieldsB;simp only[e];rfl
   rw[e1];exact fields_7 r h w e ok i sm
 · have e1:fieldsB r=(decide (1≤r.n)):=by unfold fieldsB;simp only[e];rfl
   rw[e1];exact fields_8 r h w e ok i sm
 · have e1:fieldsB r=(r.t.may&&r.s.mom&&partsB r.ps):=by unfold fieldsB;simp only[e];rfl
   rw[e1];exact fields_9 r h w e ok i sm
 · have e1:fieldsB r=r.t.may:=by unfold fieldsB;simp only[e];rfl
   rw[e1];exact fields_10 r h w e ok i sm
 · have e1:fieldsB r=(applyB r.pv r.s r.t r.wr):=by unfold fieldsB;simp only[e];rfl
   rw[e1];exact fields_11 r h w e ok i sm
 · have e1:fieldsB r=(r.s.may&&prsB r.pr):=by unfold fieldsB;simp only[e];rfl
   rw[e1];exact fields_12 r h w e ok i sm
end Go.Proofs.YthdmanadhbpogaaGreat
