/- The walks of the document's Applies and good. -/
import Derived.Test.YtcalkfgibflbnaaGreatDacb
import Derived.Test.YtcalkfgibflbnaaGreatDadc
namespace Go.Proofs.YtcalkfgibflbnaaGreat
set_option maxHeartbeats 4000000
set_option maxRecDepth 100000
set_option linter.unusedVariables false
open Go.RowKit Fl
attribute [local go_sem] run_store_float
def rappliesB (pv s:Sp) (t:Tx) (l:List Wt):Bool:=pv.may&&s.may&&decide (pv.cmp s<0)&&t.may&&decide (1≤l.length)&&wrsB l
theorem rapplies_any (pv s:Sp) (t:Tx) (A:Option Addr) (n c:Nat) (l:List Wt) (w:World) (h:Sl WtRel 4 w w.heap.size A n l) (hn:n≤maxLen):
 Calls Tryz.prog 74 #[pv.val,s.val,t.val,.slice A n c] w fun e w'=>e=.returned (.bool (rappliesB pv s t l))∧Below w.heap.size w w':=by
 have hM:=fun w=>rhmay_any pv w
 have hN:=fun w=>rhmay_any s w
 have hC:=fun w=>rless_any pv s w
 have hT:=fun w=>rtxnMay_any t w
 have hP:=fun w' (hb:Below w.heap.size w w')=>rwrs_any A n c l w' ((h.below WtRel.kept hb).more WtRel.kept hb.size) hn
 have HZ:=Lib.hid (show rappliesB pv s t l=(pv.may&&s.may&&decide (pv.cmp s<0)&&t.may&&decide (1≤n)&&wrsB l) by unfold rappliesB;rw[h.1])
 have hX:Below w.heap.size w (((w.alloc (.cells pv.arr 26)).alloc (.cells s.arr 26)).alloc (.cells #[.int .i64 t.c,.int .i64 t.l,.int .i64 t.s] 23)):=by go_grown
 have B0:=((Blk.new w 26 pv.arr).alloc (.cells s.arr 26)).alloc (.cells #[.int .i64 t.c,.int .i64 t.l,.int .i64 t.s] 23)
 have B1:=(Blk.new' (w:=w.alloc (.cells pv.arr 26)) (g:=w.heap.size+1) 26 s.arr (by simp)).alloc (.cells #[.int .i64 t.c,.int .i64 t.l,.int .i64 t.s] 23)
 have B2:=Blk.new' (w:=(w.alloc (.cells pv.arr 26)).alloc (.cells s.arr 26)) (g:=w.heap.size+1+1) 23 #[.int .i64 t.c,.int .i64 t.l,.int .i64 t.s] (by simp)
 clear h
 generalize decide (pv.cmp s<0)=z at*
 generalize wrsB l=p at*
 generalize hg1:pv.may=b1 at*
 generalize hg2:s.may=b2 at*
 generalize hg3:t.may=b3 at*
 clear hg1 hg2 hg3
 go_enter Tryz.func74,Tryz.ntmps74
 go_wp2_with (first
  |((with_reducible refine(hM _).mono ?_);rintro e w1 ⟨rfl,hb1⟩
    have C0:=B0.below hb1 B0.lt
    have C1:=B1.below hb1 B1.lt
    have C2:=B2.below hb1 B2.lt
    have hY:=hX.trans (hb1.mono hX.size)
    obtain⟨g0,x0,x1,x2⟩:=C0.three
    obtain⟨g1,y0,y1,y2⟩:=C1.three
    obtain⟨g2,t0,t1,t2⟩:=C2.three)
  |((with_reducible refine(hN _).mono ?_);rintro e w2 ⟨rfl,hb2⟩
    have D0:=C0.below hb2 C0.lt
    have D1:=C1.below hb2 C1.lt
    have D2:=C2.below hb2 C2.lt
    have hZ:=hY.trans (hb2.mono hY.size)
    obtain⟨k0,r0,r1,r2⟩:=D0.three
    obtain⟨k1,u0,u1,u2⟩:=D1.three
    obtain⟨k2,v0,v1,v2⟩:=D2.three)
  |((with_reducible refine(hC _).mono ?_);rintro e w3 ⟨rfl,hb3⟩
    have E2:=D2.below hb3 D2.lt
    have hU:=hZ.trans (hb3.mono hZ.size)
    obtain⟨m2,q0,q1,q2⟩:=E2.three)
  |((with_reducible refine(hT _).mono ?_);rintro e w4 ⟨rfl,hb4⟩
    have hV:=hU.trans (hb4.mono hU.size))
  |((with_reducible refine(hP _ hV).mono ?_);rintro e w5 ⟨rfl,hb5⟩))
 all_goals go_ret
 all_goals refine⟨ret_bool ?_,by first|exact hV.trans (hb5.mono hV.size)|exact hV|exact hU|exact hZ|exact hY⟩
 all_goals rw[HZ.out]
 all_goals first|(simp_all;done)|(simp_all;omega)
def goodB (r:Rc):Bool:=
 if r.k=1 then (mayS r.st) else
 if r.k=2 then (decide (0≤r.n)&&decide (r.n≤281474976710656)) else
 if r.k=3 then ((pendE ⟨r.t,r.s,r.rd,r.wr⟩==0)&&partsB r.ps) else
 if r.k=4 then (r.t.may&&r.s.may&&(r.s.zero== !r.cm)) else
 if r.k=5 then r.s.may else
 if r.k=6 then (fgt r.pt 0&&flt r.pt 4607182418800017408&&decide (1≤r.n)&&decide (r.n≤12)&&r.s.may) else
 if r.k=7 then (decide (1≤r.n)&&decide (r.n≤12)) else
 if r.k=8 then (decide (1≤r.n)) else
 if r.k=9 then (r.t.may&&r.s.may&& !r.s.zero&&partsB r.ps) else
 if r.k=10 then r.t.may else
 if r.k=11 then (rappliesB r.pv r.s r.t r.wr) else
 if r.k=12 then (r.s.may&&prsB r.pr) else
 false
theorem good_1 (r:Rc) (h:Hds) (w:World) (hk:r.k=1) (ok:r.ok) (i:RcIn w r h) (sm:RcSm r h):
 Calls Tryz.prog 173 #[.agg (r.vals h)] w fun e w'=>e=.returned (.bool (mayS r.st))∧Below w.heap.size w w':=by
 obtain⟨k,t,s,pv,cm,n,pt,rd,wr,ps,pr,st⟩:=r
 change k=1 at hk
 subst hk
 have z1:=fun w=>zero_run s w
 have hM:=fun w=>rhmay_any s w
 have hT:=fun w=>rtxnMay_any t w
 have hS:=fun w' (hb:Below w.heap.size w w')=>rstateMay_any st h.e.A h.f.A h.e.n h.f.n h.e.c h.f.c w' ok.rg (i.below hb).hs (i.below hb).pn sm.h sm.p
 have hX:Below w.heap.size w (w.alloc (.cells (Rc.vals ⟨1,t,s,pv,cm,n,pt,rd,wr,ps,pr,st⟩ h) 69)):=by go_grown
 have B0:Blk (w.alloc (.cells (Rc.vals ⟨1,t,s,pv,cm,n,pt,rd,wr,ps,pr,st⟩ h) 69)) w.heap.size 69 (Rc.vals ⟨1,t,s,pv,cm,n,pt,rd,wr,ps,pr,st⟩ h):=Blk.new _ _ _
 clear ok i sm
 generalize hg0:mayS st=g0 at*
 generalize hg1:s.may=g1 at*
 generalize hg2:t.may=g2 at*
 generalize hg3:s.zero=g3 at*
 clear hg0 hg1 hg2 hg3
 go_enter Tryz.func173,Tryz.ntmps173
 go_wp2_with (first
  |((with_reducible refine(hM _).mono ?_);rintro e w1 ⟨rfl,hb1⟩
    have hY:=hX.trans (hb1.mono hX.size)
    have C0:=B0.below hb1 B0.lt
    have l0:=C0.lt
    have x0_0:=C0.cell 0
    have x0_1:=C0.cell 1
    have x0_2:=C0.cell 2
    have x0_3:=C0.cell 3
    have x0_17:=C0.cell 17
    have x0_18:=C0.cell 18
    have x0_19:=C0.cell 19
    have x0_20:=C0.cell 20
    have x0_21:=C0.cell 21
    have x0_22:=C0.cell 22
    have x0_23:=C0.cell 23
    have x0_24:=C0.cell 24
    have x0_25:=C0.cell 25
    have x0_26:=C0.cell 26
    have x0_27:=C0.cell 27
    have x0_28:=C0.cell 28
    simp only[List.getElem?_toArray,List.getElem?_cons_succ,List.getElem?_cons_zero]at x0_0 x0_1 x0_2 x0_3 x0_17 x0_18 x0_19 x0_20 x0_21 x0_22 x0_23 x0_24 x0_25 x0_26 x0_27 x0_28)
  |((with_reducible refine(hT _).mono ?_);rintro e w2 ⟨rfl,hb2⟩
    have hZ:=hY.trans (hb2.mono hY.size)
    have C1:=C0.below hb2 C0.lt
    have l1:=C1.lt
    have x1_0:=C1.cell 0
    have x1_17:=C1.cell 17
    have x1_18:=C1.cell 18
    have x1_19:=C1.cell 19
    have x1_20:=C1.cell 20
    have x1_21:=C1.cell 21
    have x1_22:=C1.cell 22
    have x1_23:=C1.cell 23
    have x1_24:=C1.cell 24
    have x1_25:=C1.cell 25
    have x1_26:=C1.cell 26
    have x1_27:=C1.cell 27
    have x1_28:=C1.cell 28
    simp only[List.getElem?_toArray,List.getElem?_cons_succ,List.getElem?_cons_zero]at x1_0 x1_17 x1_18 x1_19 x1_20 x1_21 x1_22 x1_23 x1_24 x1_25 x1_26 x1_27 x1_28)
  |((with_reducible refine(hS _ hZ).mono ?_);rintro e w3 ⟨rfl,hb3⟩
    have hU:=hZ.trans (hb3.mono hZ.size)))
 all_goals go_ret
 all_goals refine⟨ret_bool ?_,by first|exact hU|exact hZ⟩
 all_goals first|rfl|(simp_all;done)|(simp_all;omega)
theorem good_2 (r:Rc) (h:Hds) (w:World) (hk:r.k=2) (ok:r.ok) (i:RcIn w r h) (sm:RcSm r h):
 Calls Tryz.prog 173 #[.agg (r.vals h)] w fun e w'=>e=.returned (.bool (decide (0≤r.n)&&decide (r.n≤281474976710656)))∧Below w.heap.size w w':=by
 obtain⟨k,t,s,pv,cm,n,pt,rd,wr,ps,pr,st⟩:=r
 change k=2 at hk
 subst hk
 have z1:=fun w=>zero_run s w
 have hM:=fun w=>rhmay_any s w
 have hT:=fun w=>rtxnMay_any t w
 have hX:Below w.heap.size w (w.alloc (.cells (Rc.vals ⟨2,t,s,pv,cm,n,pt,rd,wr,ps,pr,st⟩ h) 69)):=by go_grown
 have B0:Blk (w.alloc (.cells (Rc.vals ⟨2,t,s,pv,cm,n,pt,rd,wr,ps,pr,st⟩ h) 69)) w.heap.size 69 (Rc.vals ⟨2,t,s,pv,cm,n,pt,rd,wr,ps,pr,st⟩ h):=Blk.new _ _ _
 clear ok i sm
 generalize hg0:s.may=g0 at*
 generalize hg1:t.may=g1 at*
 generalize hg2:s.zero=g2 at*
 clear hg0 hg1 hg2
 go_enter Tryz.func173,Tryz.ntmps173
 go_wp2_with (first
  |((with_reducible refine(hM _).mono ?_);rintro e w1 ⟨rfl,hb1⟩
    have hY:=hX.trans (hb1.mono hX.size)
    have C0:=B0.below hb1 B0.lt
    have l0:=C0.lt
    have x0_0:=C0.cell 0
    have x0_1:=C0.cell 1
    have x0_2:=C0.cell 2
    have x0_3:=C0.cell 3
    have x0_11:=C0.cell 11
    simp only[List.getElem?_toArray,List.getElem?_cons_succ,List.getElem?_cons_zero]at x0_0 x0_1 x0_2 x0_3 x0_11)
  |((with_reducible refine(hT _).mono ?_);rintro e w2 ⟨rfl,hb2⟩
    have hZ:=hY.trans (hb2.mono hY.size)
    have C1:=C0.below hb2 C0.lt
    have l1:=C1.lt
    have x1_0:=C1.cell 0
    have x1_11:=C1.cell 11
    simp only[List.getElem?_toArray,List.getElem?_cons_succ,List.getElem?_cons_zero]at x1_0 x1_11))
 all_goals go_ret
 all_goals refine⟨ret_bool ?_,by first|exact hZ⟩
 all_goals first|rfl|(simp_all;done)|(simp_all;omega)
theorem good_3 (r:Rc) (h:Hds) (w:World) (hk:r.k=3) (ok:r.ok) (i:RcIn w r h) (sm:RcSm r h):
 Calls Tryz.prog 173 #[.agg (r.vals h)] w fun e w'=>e=.returned (.bool ((pendE ⟨r.t,r.s,r.rd,r.wr⟩==0)&&partsB r.ps))∧Below w.heap.size w w':=by
 obtain⟨k,t,s,pv,cm,n,pt,rd,wr,ps,pr,st⟩:=r
 change k=3 at hk
 subst hk
 have z1:=fun w=>zero_run s w
 have hM:=fun w=>rhmay_any s w
 have hT:=fun w=>rtxnMay_any t w
 have hS:=fun w' (hb:Below w.heap.size w w')=>rpend_any ⟨t,s,rd,wr⟩ h.a.A h.b.A h.a.n h.b.n h.a.c h.b.c w' (i.below hb).rd (i.below hb).wr i.na i.nb
 have hQ:=fun w' (hb:Below w.heap.size w w')=>rparts_any h.c.A h.c.n h.c.c ps w' (i.below hb).ps i.nc
 have hX:Below w.heap.size w (w.alloc (.cells (Rc.vals ⟨3,t,s,pv,cm,n,pt,rd,wr,ps,pr,st⟩ h) 69)):=by go_grown
 have B0:Blk (w.alloc (.cells (Rc.vals ⟨3,t,s,pv,cm,n,pt,rd,wr,ps,pr,st⟩ h) 69)) w.heap.size 69 (Rc.vals ⟨3,t,s,pv,cm,n,pt,rd,wr,ps,pr,st⟩ h):=Blk.new _ _ _
 clear ok i sm
 generalize hg0:pendE ⟨t,s,rd,wr⟩=g0 at*
 generalize hg1:partsB ps=g1 at*
 generalize hg2:s.may=g2 at*
 generalize hg3:t.may=g3 at*
 generalize hg4:s.zero=g4 at*
 clear hg0 hg1 hg2 hg3 hg4
 go_enter Tryz.func173,Tryz.ntmps173
 go_wp2_with (first
  |((with_reducible refine(hM _).mono ?_);rintro e w1 ⟨rfl,hb1⟩
    have hY:=hX.trans (hb1.mono hX.size)
    have C0:=B0.below hb1 B0.lt
    have l0:=C0.lt
    have x0_0:=C0.cell 0
    have x0_1:=C0.cell 1
    have x0_2:=C0.cell 2
    have x0_3:=C0.cell 3
    have x0_4:=C0.cell 4
    have x0_5:=C0.cell 5
    have x0_6:=C0.cell 6
    have x0_13:=C0.cell 13
    have x0_14:=C0.cell 14
    have x0_15:=C0.cell 15
    simp only[List.getElem?_toArray,List.getElem?_cons_succ,List.getElem?_cons_zero]at x0_0 x0_1 x0_2 x0_3 x0_4 x0_5 x0_6 x0_13 x0_14 x0_15)
  |((with_reducible refine(hT _).mono ?_);rintro e w2 ⟨rfl,hb2⟩
    have hZ:=hY.trans (hb2.mono hY.size)
    have C1:=C0.below hb2 C0.lt
    have l1:=C1.lt
    have x1_0:=C1.cell 0
    have x1_1:=C1.cell 1
    have x1_2:=C1.cell 2
    have x1_3:=C1.cell 3
    have x1_4:=C1.cell 4
    have x1_5:=C1.cell 5
    have x1_6:=C1.cell 6
    have x1_13:=C1.cell 13
    have x1_14:=C1.cell 14
    have x1_15:=C1.cell 15
    simp only[List.getElem?_toArray,List.getElem?_cons_succ,List.getElem?_cons_zero]at x1_0 x1_1 x1_2 x1_3 x1_4 x1_5 x1_6 x1_13 x1_14 x1_15)
  |((with_reducible refine(hS _ hZ).mono ?_);rintro e w3 ⟨rfl,hb3⟩
    have hU:=hZ.trans (hb3.mono hZ.size)
    have C2:=C1.below hb3 C1.lt
    have l2:=C2.lt
    have x2_15:=C2.cell 15
    simp only[List.getElem?_toArray,List.getElem?_cons_succ,List.getElem?_cons_zero]at x2_15)
  |((with_reducible refine(hQ _ hU).mono ?_);rintro e w4 ⟨rfl,hb4⟩
    have hV:=hU.trans (hb4.mono hU.size)))
 all_goals go_ret
 all_goals refine⟨ret_bool ?_,by first|exact hV|exact hU|exact hZ⟩
 all_goals first|rfl|(simp_all;done)|(simp_all;omega)
theorem good_4 (r:Rc) (h:Hds) (w:World) (hk:r.k=4) (ok:r.ok) (i:RcIn w r h) (sm:RcSm r h):
 Calls Tryz.prog 173 #[.agg (r.vals h)] w fun e w'=>e=.returned (.bool (r.t.may&&r.s.may&&(r.s.zero== !r.cm)))∧Below w.heap.size w w':=by
 obtain⟨k,t,s,pv,cm,n,pt,rd,wr,ps,pr,st⟩:=r
 change k=4 at hk
 subst hk
 have z1:=fun w=>zero_run s w
 have hM:=fun w=>rhmay_any s w
 have hT:=fun w=>rtxnMay_any t w
 have hX:Below w.heap.size w (w.alloc (.cells (Rc.vals ⟨4,t,s,pv,cm,n,pt,rd,wr,ps,pr,st⟩ h) 69)):=by go_grown
 have B0:Blk (w.alloc (.cells (Rc.vals ⟨4,t,s,pv,cm,n,pt,rd,wr,ps,pr,st⟩ h) 69)) w.heap.size 69 (Rc.vals ⟨4,t,s,pv,cm,n,pt,rd,wr,ps,pr,st⟩ h):=Blk.new _ _ _
 clear ok i sm
 generalize hg0:s.may=g0 at*
 generalize hg1:t.may=g1 at*
 generalize hg2:s.zero=g2 at*
 clear hg0 hg1 hg2
 go_enter Tryz.func173,Tryz.ntmps173
 go_wp2_with (first
  |((with_reducible refine(hM _).mono ?_);rintro e w1 ⟨rfl,hb1⟩
    have hY:=hX.trans (hb1.mono hX.size)
    have C0:=B0.below hb1 B0.lt
    have l0:=C0.lt
    have x0_0:=C0.cell 0
    have x0_1:=C0.cell 1
    have x0_2:=C0.cell 2
    have x0_3:=C0.cell 3
    have x0_10:=C0.cell 10
    simp only[List.getElem?_toArray,List.getElem?_cons_succ,List.getElem?_cons_zero]at x0_0 x0_1 x0_2 x0_3 x0_10)
  |((with_reducible refine(hT _).mono ?_);rintro e w2 ⟨rfl,hb2⟩
    have hZ:=hY.trans (hb2.mono hY.size)
    have C1:=C0.below hb2 C0.lt
    have l1:=C1.lt
    have x1_0:=C1.cell 0
    have x1_10:=C1.cell 10
    simp only[List.getElem?_toArray,List.getElem?_cons_succ,List.getElem?_cons_zero]at x1_0 x1_10))
 all_goals go_ret
 all_goals refine⟨ret_bool ?_,by first|exact hZ⟩
 all_goals first|rfl|(simp_all;done)|(simp_all;omega)
theorem good_5 (r:Rc) (h:Hds) (w:World) (hk:r.k=5) (ok:r.ok) (i:RcIn w r h) (sm:RcSm r h):
 Calls Tryz.prog 173 #[.agg (r.vals h)] w fun e w'=>e=.returned (.bool r.s.may)∧Below w.heap.size w w':=by
 obtain⟨k,t,s,pv,cm,n,pt,rd,wr,ps,pr,st⟩:=r
 change k=5 at hk
 subst hk
 have z1:=fun w=>zero_run s w
 have hM:=fun w=>rhmay_any s w
 have hT:=fun w=>rtxnMay_any t w
 have hX:Below w.heap.size w (w.alloc (.cells (Rc.vals ⟨5,t,s,pv,cm,n,pt,rd,wr,ps,pr,st⟩ h) 69)):=by go_grown
 have B0:Blk (w.alloc (.cells (Rc.vals ⟨5,t,s,pv,cm,n,pt,rd,wr,ps,pr,st⟩ h) 69)) w.heap.size 69 (Rc.vals ⟨5,t,s,pv,cm,n,pt,rd,wr,ps,pr,st⟩ h):=Blk.new _ _ _
 clear ok i sm
 generalize hg0:s.may=g0 at*
 generalize hg1:t.may=g1 at*
 generalize hg2:s.zero=g2 at*
 clear hg0 hg1 hg2
 go_enter Tryz.func173,Tryz.ntmps173
 go_wp2_with (first
  |((with_reducible refine(hM _).mono ?_);rintro e w1 ⟨rfl,hb1⟩
    have hY:=hX.trans (hb1.mono hX.size)
    have C0:=B0.below hb1 B0.lt
    have l0:=C0.lt
    have x0_0:=C0.cell 0
    have x0_1:=C0.cell 1
    have x0_2:=C0.cell 2
    have x0_3:=C0.cell 3
    simp only[List.getElem?_toArray,List.getElem?_cons_succ,List.getElem?_cons_zero]at x0_0 x0_1 x0_2 x0_3)
  |((with_reducible refine(hT _).mono ?_);rintro e w2 ⟨rfl,hb2⟩
    have hZ:=hY.trans (hb2.mono hY.size)
    have C1:=C0.below hb2 C0.lt
    have l1:=C1.lt
    have x1_0:=C1.cell 0
    simp only[List.getElem?_toArray,List.getElem?_cons_zero]at x1_0))
 all_goals go_ret
 all_goals refine⟨ret_bool ?_,by first|exact hZ⟩
 all_goals first|rfl|(simp_all;done)|(simp_all;omega)
theorem good_6 (r:Rc) (h:Hds) (w:World) (hk:r.k=6) (ok:r.ok) (i:RcIn w r h) (sm:RcSm r h):
 Calls Tryz.prog 173 #[.agg (r.vals h)] w fun e w'=>e=.returned (.bool (fgt r.pt 0&&flt r.pt 4607182418800017408&&decide (1≤r.n)&&decide (r.n≤12)&&r.s.may))∧Below w.heap.size w w':=by
 obtain⟨k,t,s,pv,cm,n,pt,rd,wr,ps,pr,st⟩:=r
 change k=6 at hk
 subst hk
 have z1:=fun w=>zero_run s w
 have hM:=fun w=>rhmay_any s w
 have hT:=fun w=>rtxnMay_any t w
 have hX:Below w.heap.size w (w.alloc (.cells (Rc.vals ⟨6,t,s,pv,cm,n,pt,rd,wr,ps,pr,st⟩ h) 69)):=by go_grown
 have B0:Blk (w.alloc (.cells (Rc.vals ⟨6,t,s,pv,cm,n,pt,rd,wr,ps,pr,st⟩ h) 69)) w.heap.size 69 (Rc.vals ⟨6,t,s,pv,cm,n,pt,rd,wr,ps,pr,st⟩ h):=Blk.new _ _ _
 clear ok i sm
 generalize hg0:s.may=g0 at*
 generalize hg1:t.may=g1 at*
 generalize hg2:s.zero=g2 at*
 clear hg0 hg1 hg2
 go_enter Tryz.func173,Tryz.ntmps173
 go_wp2_with (first
  |((with_reducible refine(hM _).mono ?_);rintro e w1 ⟨rfl,hb1⟩
    have hY:=hX.trans (hb1.mono hX.size)
    have C0:=B0.below hb1 B0.lt
    have l0:=C0.lt
    have x0_0:=C0.cell 0
    have x0_1:=C0.cell 1
    have x0_2:=C0.cell 2
    have x0_3:=C0.cell 3
    have x0_11:=C0.cell 11
    have x0_12:=C0.cell 12
    simp only[List.getElem?_toArray,List.getElem?_cons_succ,List.getElem?_cons_zero]at x0_0 x0_1 x0_2 x0_3 x0_11 x0_12)
  |((with_reducible refine(hT _).mono ?_);rintro e w2 ⟨rfl,hb2⟩
    have hZ:=hY.trans (hb2.mono hY.size)
    have C1:=C0.below hb2 C0.lt
    have l1:=C1.lt
    have x1_0:=C1.cell 0
    have x1_11:=C1.cell 11
    have x1_12:=C1.cell 12
    simp only[List.getElem?_toArray,List.getElem?_cons_succ,List.getElem?_cons_zero]at x1_0 x1_11 x1_12))
 all_goals go_ret
 all_goals refine⟨ret_bool ?_,by first|exact hZ⟩
 all_goals first|rfl|(simp_all [fgt,flt];done)|(simp_all;omega)
theorem good_7 (r:Rc) (h:Hds) (w:World) (hk:r.k=7) (ok:r.ok) (i:RcIn w r h) (sm:RcSm r h):
 Calls Tryz.prog 173 #[.agg (r.vals h)] w fun e w'=>e=.returned (.bool (decide (1≤r.n)&&decide (r.n≤12)))∧Below w.heap.size w w':=by
 obtain⟨k,t,s,pv,cm,n,pt,rd,wr,ps,pr,st⟩:=r
 change k=7 at hk
 subst hk
 have z1:=fun w=>zero_run s w
 have hM:=fun w=>rhmay_any s w
 have hT:=fun w=>rtxnMay_any t w
 have hX:Below w.heap.size w (w.alloc (.cells (Rc.vals ⟨7,t,s,pv,cm,n,pt,rd,wr,ps,pr,st⟩ h) 69)):=by go_grown
 have B0:Blk (w.alloc (.cells (Rc.vals ⟨7,t,s,pv,cm,n,pt,rd,wr,ps,pr,st⟩ h) 69)) w.heap.size 69 (Rc.vals ⟨7,t,s,pv,cm,n,pt,rd,wr,ps,pr,st⟩ h):=Blk.new _ _ _
 clear ok i sm
 generalize hg0:s.may=g0 at*
 generalize hg1:t.may=g1 at*
 generalize hg2:s.zero=g2 at*
 clear hg0 hg1 hg2
 go_enter Tryz.func173,Tryz.ntmps173
 go_wp2_with (first
  |((with_reducible refine(hM _).mono ?_);rintro e w1 ⟨rfl,hb1⟩
    have hY:=hX.trans (hb1.mono hX.size)
    have C0:=B0.below hb1 B0.lt
    have l0:=C0.lt
    have x0_0:=C0.cell 0
    have x0_1:=C0.cell 1
    have x0_2:=C0.cell 2
    have x0_3:=C0.cell 3
    have x0_11:=C0.cell 11
    simp only[List.getElem?_toArray,List.getElem?_cons_succ,List.getElem?_cons_zero]at x0_0 x0_1 x0_2 x0_3 x0_11)
  |((with_reducible refine(hT _).mono ?_);rintro e w2 ⟨rfl,hb2⟩
    have hZ:=hY.trans (hb2.mono hY.size)
    have C1:=C0.below hb2 C0.lt
    have l1:=C1.lt
    have x1_0:=C1.cell 0
    have x1_11:=C1.cell 11
    simp only[List.getElem?_toArray,List.getElem?_cons_succ,List.getElem?_cons_zero]at x1_0 x1_11))
 all_goals go_ret
 all_goals refine⟨ret_bool ?_,by first|exact hZ⟩
 all_goals first|rfl|(simp_all;done)|(simp_all;omega)
theorem good_8 (r:Rc) (h:Hds) (w:World) (hk:r.k=8) (ok:r.ok) (i:RcIn w r h) (sm:RcSm r h):
 Calls Tryz.prog 173 #[.agg (r.vals h)] w fun e w'=>e=.returned (.bool (decide (1≤r.n)))∧Below w.heap.size w w':=by
 obtain⟨k,t,s,pv,cm,n,pt,rd,wr,ps,pr,st⟩:=r
 change k=8 at hk
 subst hk
 have z1:=fun w=>zero_run s w
 have hM:=fun w=>rhmay_any s w
 have hT:=fun w=>rtxnMay_any t w
 have hX:Below w.heap.size w (w.alloc (.cells (Rc.vals ⟨8,t,s,pv,cm,n,pt,rd,wr,ps,pr,st⟩ h) 69)):=by go_grown
 have B0:Blk (w.alloc (.cells (Rc.vals ⟨8,t,s,pv,cm,n,pt,rd,wr,ps,pr,st⟩ h) 69)) w.heap.size 69 (Rc.vals ⟨8,t,s,pv,cm,n,pt,rd,wr,ps,pr,st⟩ h):=Blk.new _ _ _
 clear ok i sm
 generalize hg0:s.may=g0 at*
 generalize hg1:t.may=g1 at*
 generalize hg2:s.zero=g2 at*
 clear hg0 hg1 hg2
 go_enter Tryz.func173,Tryz.ntmps173
 go_wp2_with (first
  |((with_reducible refine(hM _).mono ?_);rintro e w1 ⟨rfl,hb1⟩
    have hY:=hX.trans (hb1.mono hX.size)
    have C0:=B0.below hb1 B0.lt
    have l0:=C0.lt
    have x0_0:=C0.cell 0
    have x0_1:=C0.cell 1
    have x0_2:=C0.cell 2
    have x0_3:=C0.cell 3
    have x0_11:=C0.cell 11
    simp only[List.getElem?_toArray,List.getElem?_cons_succ,List.getElem?_cons_zero]at x0_0 x0_1 x0_2 x0_3 x0_11)
  |((with_reducible refine(hT _).mono ?_);rintro e w2 ⟨rfl,hb2⟩
    have hZ:=hY.trans (hb2.mono hY.size)
    have C1:=C0.below hb2 C0.lt
    have l1:=C1.lt
    have x1_0:=C1.cell 0
    have x1_11:=C1.cell 11
    simp only[List.getElem?_toArray,List.getElem?_cons_succ,List.getElem?_cons_zero]at x1_0 x1_11))
 all_goals go_ret
 all_goals refine⟨ret_bool ?_,by first|exact hZ⟩
 all_goals first|rfl|(simp_all;done)|(simp_all;omega)
theorem good_9 (r:Rc) (h:Hds) (w:World) (hk:r.k=9) (ok:r.ok) (i:RcIn w r h) (sm:RcSm r h):
 Calls Tryz.prog 173 #[.agg (r.vals h)] w fun e w'=>e=.returned (.bool (r.t.may&&r.s.may&& !r.s.zero&&partsB r.ps))∧Below w.heap.size w w':=by
 obtain⟨k,t,s,pv,cm,n,pt,rd,wr,ps,pr,st⟩:=r
 change k=9 at hk
 subst hk
 have z1:=fun w=>zero_run s w
 have hM:=fun w=>rhmay_any s w
 have hT:=fun w=>rtxnMay_any t w
 have hS:=fun w' (hb:Below w.heap.size w w')=>rparts_any h.c.A h.c.n h.c.c ps w' (i.below hb).ps i.nc
 have hX:Below w.heap.size w (w.alloc (.cells (Rc.vals ⟨9,t,s,pv,cm,n,pt,rd,wr,ps,pr,st⟩ h) 69)):=by go_grown
 have B0:Blk (w.alloc (.cells (Rc.vals ⟨9,t,s,pv,cm,n,pt,rd,wr,ps,pr,st⟩ h) 69)) w.heap.size 69 (Rc.vals ⟨9,t,s,pv,cm,n,pt,rd,wr,ps,pr,st⟩ h):=Blk.new _ _ _
 clear ok i sm
 generalize hg0:partsB ps=g0 at*
 generalize hg1:s.may=g1 at*
 generalize hg2:t.may=g2 at*
 generalize hg3:s.zero=g3 at*
 clear hg0 hg1 hg2 hg3
 go_enter Tryz.func173,Tryz.ntmps173
 go_wp2_with (first
  |((with_reducible refine(hM _).mono ?_);rintro e w1 ⟨rfl,hb1⟩
    have hY:=hX.trans (hb1.mono hX.size)
    have C0:=B0.below hb1 B0.lt
    have l0:=C0.lt
    have x0_0:=C0.cell 0
    have x0_1:=C0.cell 1
    have x0_2:=C0.cell 2
    have x0_3:=C0.cell 3
    have x0_15:=C0.cell 15
    simp only[List.getElem?_toArray,List.getElem?_cons_succ,List.getElem?_cons_zero]at x0_0 x0_1 x0_2 x0_3 x0_15)
  |((with_reducible refine(hT _).mono ?_);rintro e w2 ⟨rfl,hb2⟩
    have hZ:=hY.trans (hb2.mono hY.size)
    have C1:=C0.below hb2 C0.lt
    have l1:=C1.lt
    have x1_0:=C1.cell 0
    have x1_15:=C1.cell 15
    simp only[List.getElem?_toArray,List.getElem?_cons_succ,List.getElem?_cons_zero]at x1_0 x1_15)
  |((with_reducible refine(hS _ hZ).mono ?_);rintro e w3 ⟨rfl,hb3⟩
    have hU:=hZ.trans (hb3.mono hZ.size)))
 all_goals go_ret
 all_goals refine⟨ret_bool ?_,by first|exact hU|exact hZ⟩
 all_goals first|rfl|(simp_all;done)|(simp_all;omega)
theorem good_10 (r:Rc) (h:Hds) (w:World) (hk:r.k=10) (ok:r.ok) (i:RcIn w r h) (sm:RcSm r h):
 Calls Tryz.prog 173 #[.agg (r.vals h)] w fun e w'=>e=.returned (.bool r.t.may)∧Below w.heap.size w w':=by
 obtain⟨k,t,s,pv,cm,n,pt,rd,wr,ps,pr,st⟩:=r
 change k=10 at hk
 subst hk
 have z1:=fun w=>zero_run s w
 have hM:=fun w=>rhmay_any s w
 have hT:=fun w=>rtxnMay_any t w
 have hX:Below w.heap.size w (w.alloc (.cells (Rc.vals ⟨10,t,s,pv,cm,n,pt,rd,wr,ps,pr,st⟩ h) 69)):=by go_grown
 have B0:Blk (w.alloc (.cells (Rc.vals ⟨10,t,s,pv,cm,n,pt,rd,wr,ps,pr,st⟩ h) 69)) w.heap.size 69 (Rc.vals ⟨10,t,s,pv,cm,n,pt,rd,wr,ps,pr,st⟩ h):=Blk.new _ _ _
 clear ok i sm
 generalize hg0:s.may=g0 at*
 generalize hg1:t.may=g1 at*
 generalize hg2:s.zero=g2 at*
 clear hg0 hg1 hg2
 go_enter Tryz.func173,Tryz.ntmps173
 go_wp2_with (first
  |((with_reducible refine(hM _).mono ?_);rintro e w1 ⟨rfl,hb1⟩
    have hY:=hX.trans (hb1.mono hX.size)
    have C0:=B0.below hb1 B0.lt
    have l0:=C0.lt
    have x0_0:=C0.cell 0
    have x0_1:=C0.cell 1
    have x0_2:=C0.cell 2
    have x0_3:=C0.cell 3
    simp only[List.getElem?_toArray,List.getElem?_cons_succ,List.getElem?_cons_zero]at x0_0 x0_1 x0_2 x0_3)
  |((with_reducible refine(hT _).mono ?_);rintro e w2 ⟨rfl,hb2⟩
    have hZ:=hY.trans (hb2.mono hY.size)
    have C1:=C0.below hb2 C0.lt
    have l1:=C1.lt
    have x1_0:=C1.cell 0
    simp only[List.getElem?_toArray,List.getElem?_cons_zero]at x1_0))
 all_goals go_ret
 all_goals refine⟨ret_bool ?_,by first|exact hZ⟩
 all_goals first|rfl|(simp_all;done)|(simp_all;omega)
theorem good_11 (r:Rc) (h:Hds) (w:World) (hk:r.k=11) (ok:r.ok) (i:RcIn w r h) (sm:RcSm r h):
 Calls Tryz.prog 173 #[.agg (r.vals h)] w fun e w'=>e=.returned (.bool (rappliesB r.pv r.s r.t r.wr))∧Below w.heap.size w w':=by
 obtain⟨k,t,s,pv,cm,n,pt,rd,wr,ps,pr,st⟩:=r
 change k=11 at hk
 subst hk
 have z1:=fun w=>zero_run s w
 have hM:=fun w=>rhmay_any s w
 have hT:=fun w=>rtxnMay_any t w
 have hS:=fun w' (hb:Below w.heap.size w w')=>rapplies_any pv s t h.b.A h.b.n h.b.c wr w' (i.below hb).wr i.nb
 have hX:Below w.heap.size w (w.alloc (.cells (Rc.vals ⟨11,t,s,pv,cm,n,pt,rd,wr,ps,pr,st⟩ h) 69)):=by go_grown
 have B0:Blk (w.alloc (.cells (Rc.vals ⟨11,t,s,pv,cm,n,pt,rd,wr,ps,pr,st⟩ h) 69)) w.heap.size 69 (Rc.vals ⟨11,t,s,pv,cm,n,pt,rd,wr,ps,pr,st⟩ h):=Blk.new _ _ _
 clear ok i sm
 generalize hg0:rappliesB pv s t wr=g0 at*
 generalize hg1:s.may=g1 at*
 generalize hg2:t.may=g2 at*
 generalize hg3:s.zero=g3 at*
 clear hg0 hg1 hg2 hg3
 go_enter Tryz.func173,Tryz.ntmps173
 go_wp2_with (first
  |((with_reducible refine(hM _).mono ?_);rintro e w1 ⟨rfl,hb1⟩
    have hY:=hX.trans (hb1.mono hX.size)
    have C0:=B0.below hb1 B0.lt
    have l0:=C0.lt
    have x0_0:=C0.cell 0
    have x0_1:=C0.cell 1
    have x0_2:=C0.cell 2
    have x0_3:=C0.cell 3
    have x0_4:=C0.cell 4
    have x0_5:=C0.cell 5
    have x0_6:=C0.cell 6
    have x0_7:=C0.cell 7
    have x0_8:=C0.cell 8
    have x0_9:=C0.cell 9
    have x0_14:=C0.cell 14
    simp only[List.getElem?_toArray,List.getElem?_cons_succ,List.getElem?_cons_zero]at x0_0 x0_1 x0_2 x0_3 x0_4 x0_5 x0_6 x0_7 x0_8 x0_9 x0_14)
  |((with_reducible refine(hT _).mono ?_);rintro e w2 ⟨rfl,hb2⟩
    have hZ:=hY.trans (hb2.mono hY.size)
    have C1:=C0.below hb2 C0.lt
    have l1:=C1.lt
    have x1_0:=C1.cell 0
    have x1_1:=C1.cell 1
    have x1_2:=C1.cell 2
    have x1_3:=C1.cell 3
    have x1_4:=C1.cell 4
    have x1_5:=C1.cell 5
    have x1_6:=C1.cell 6
    have x1_7:=C1.cell 7
    have x1_8:=C1.cell 8
    have x1_9:=C1.cell 9
    have x1_14:=C1.cell 14
    simp only[List.getElem?_toArray,List.getElem?_cons_succ,List.getElem?_cons_zero]at x1_0 x1_1 x1_2 x1_3 x1_4 x1_5 x1_6 x1_7 x1_8 x1_9 x1_14)
  |((with_reducible refine(hS _ hZ).mono ?_);rintro e w3 ⟨rfl,hb3⟩
    have hU:=hZ.trans (hb3.mono hZ.size)))
 all_goals go_ret
 all_goals refine⟨ret_bool ?_,by first|exact hU|exact hZ⟩
 all_goals first|rfl|(simp_all;done)|(simp_all;omega)
theorem good_12 (r:Rc) (h:Hds) (w:World) (hk:r.k=12) (ok:r.ok) (i:RcIn w r h) (sm:RcSm r h):
 Calls Tryz.prog 173 #[.agg (r.vals h)] w fun e w'=>e=.returned (.bool (r.s.may&&prsB r.pr))∧Below w.heap.size w w':=by
 obtain⟨k,t,s,pv,cm,n,pt,rd,wr,ps,pr,st⟩:=r
 change k=12 at hk
 subst hk
 have z1:=fun w=>zero_run s w
 have hM:=fun w=>rhmay_any s w
 have hT:=fun w=>rtxnMay_any t w
 have hS:=fun w' (hb:Below w.heap.size w w')=>rprs_any h.d.A h.d.n h.d.c pr w' (i.below hb).pr i.nd
 have hX:Below w.heap.size w (w.alloc (.cells (Rc.vals ⟨12,t,s,pv,cm,n,pt,rd,wr,ps,pr,st⟩ h) 69)):=by go_grown
 have B0:Blk (w.alloc (.cells (Rc.vals ⟨12,t,s,pv,cm,n,pt,rd,wr,ps,pr,st⟩ h) 69)) w.heap.size 69 (Rc.vals ⟨12,t,s,pv,cm,n,pt,rd,wr,ps,pr,st⟩ h):=Blk.new _ _ _
 clear ok i sm
 generalize hg0:prsB pr=g0 at*
 generalize hg1:s.may=g1 at*
 generalize hg2:t.may=g2 at*
 generalize hg3:s.zero=g3 at*
 clear hg0 hg1 hg2 hg3
 go_enter Tryz.func173,Tryz.ntmps173
 go_wp2_with (first
  |((with_reducible refine(hM _).mono ?_);rintro e w1 ⟨rfl,hb1⟩
    have hY:=hX.trans (hb1.mono hX.size)
    have C0:=B0.below hb1 B0.lt
    have l0:=C0.lt
    have x0_0:=C0.cell 0
    have x0_1:=C0.cell 1
    have x0_2:=C0.cell 2
    have x0_3:=C0.cell 3
    have x0_16:=C0.cell 16
    simp only[List.getElem?_toArray,List.getElem?_cons_succ,List.getElem?_cons_zero]at x0_0 x0_1 x0_2 x0_3 x0_16)
  |((with_reducible refine(hT _).mono ?_);rintro e w2 ⟨rfl,hb2⟩
    have hZ:=hY.trans (hb2.mono hY.size)
    have C1:=C0.below hb2 C0.lt
    have l1:=C1.lt
    have x1_0:=C1.cell 0
    have x1_16:=C1.cell 16
    simp only[List.getElem?_toArray,List.getElem?_cons_succ,List.getElem?_cons_zero]at x1_0 x1_16)
  |((with_reducible refine(hS _ hZ).mono ?_);rintro e w3 ⟨rfl,hb3⟩
    have hU:=hZ.trans (hb3.mono hZ.size)))
 all_goals go_ret
 all_goals refine⟨ret_bool ?_,by first|exact hU|exact hZ⟩
 all_goals first|rfl|(simp_all;done)|(simp_all;omega)
theorem good_any (r:Rc) (h:Hds) (w:World) (hk:kindB r.k=true) (ok:r.ok) (i:RcIn w r h) (sm:RcSm r h):
 Calls Tryz.prog 173 #[.agg (r.vals h)] w fun e w'=>e=.returned (.bool (goodB r))∧Below w.heap.size w w':=by
 unfold kindB at hk
 rw[decide_eq_true_eq]at hk
 have hc:r.k=1∨r.k=2∨r.k=3∨r.k=4∨r.k=5∨r.k=6∨r.k=7∨r.k=8∨r.k=9∨r.k=10∨r.k=11∨r.k=12:=by omega
 rcases hc with e|e|e|e|e|e|e|e|e|e|e|e
 · have e1:goodB r=(mayS r.st):=by unfold goodB;simp only[e];rfl
   rw[e1];exact good_1 r h w e ok i sm
 · have e1:goodB r=(decide (0≤r.n)&&decide (r.n≤281474976710656)):=by unfold goodB;simp only[e];rfl
   rw[e1];exact good_2 r h w e ok i sm
 · have e1:goodB r=((pendE ⟨r.t,r.s,r.rd,r.wr⟩==0)&&partsB r.ps):=by unfold goodB;simp only[e];rfl
   rw[e1];exact good_3 r h w e ok i sm
 · have e1:goodB r=(r.t.may&&r.s.may&&(r.s.zero== !r.cm)):=by unfold goodB;simp only[e];rfl
   rw[e1];exact good_4 r h w e ok i sm
 · have e1:goodB r=r.s.may:=by unfold goodB;simp only[e];rfl
   rw[e1];exact good_5 r h w e ok i sm
 · have e1:goodB r=(fgt r.pt 0&&flt r.pt 4607182418800017408&&decide (1≤r.n)&&decide (r.n≤12)&&r.s.may):=by unfold goodB;simp only[e];rfl
   rw[e1];exact good_6 r h w e ok i sm
 · have e1:goodB r=(decide (1≤r.n)&&decide (r.n≤12)):=by unfold goodB;simp only[e];rfl
   rw[e1];exact good_7 r h w e ok i sm
 · have e1:goodB r=(decide (1≤r.n)):=by unfold goodB;simp only[e];rfl
   rw[e1];exact good_8 r h w e ok i sm
 · have e1:goodB r=(r.t.may&&r.s.may&& !r.s.zero&&partsB r.ps):=by unfold goodB;simp only[e];rfl
   rw[e1];exact good_9 r h w e ok i sm
 · have e1:goodB r=r.t.may:=by unfold goodB;simp only[e];rfl
   rw[e1];exact good_10 r h w e ok i sm
 · have e1:goodB r=(rappliesB r.pv r.s r.t r.wr):=by unfold goodB;simp only[e];rfl
   rw[e1];exact good_11 r h w e ok i sm
 · have e1:goodB r=(r.s.may&&prsB r.pr):=by unfold goodB;simp only[e];rfl
   rw[e1];exact good_12 r h w e ok i sm
end Go.Proofs.YtcalkfgibflbnaaGreat
