/- The walk of raceref.Rec. -/
import Derived.Test.YtcalkfgibflbnaaGreatDaag
namespace Go.Proofs.YtcalkfgibflbnaaGreat
set_option linter.unusedVariables false
open Go.RowKit Fl
attribute [local go_sem] run_store_float
theorem sp_run (a t:Sp) (w:World):(Op.equalIn 10000 26 (.agg #[.int .i64 a.w,.int .i64 a.l,.int .i64 a.n]) (.agg #[.int .i64 t.w,.int .i64 t.l,.int .i64 t.n])).run Tryz.prog w=.ok (decide (a=t)) w:=by
 have e:decide (a=t)=((a.w==t.w)&&(a.l==t.l)&&(a.n==t.n)):=by
  obtain⟨a1,a2,a3⟩:=a
  obtain⟨b1,b2,b3⟩:=t
  rw[Bool.eq_iff_iff]
  simp[and_assoc]
 rw[e]
 cases h1:(a.w==t.w)<;>cases h2:(a.l==t.l)<;>cases h3:(a.n==t.n)
 all_goals simp[go_sem,h1,h2,h3]
def recSame (a b:Rc) (sb:Bool):Bool:=(a.k==b.k)&&decide (a.t=b.t)&&decide (a.s=b.s)&&decide (a.pv=b.pv)&&(a.cm==b.cm)&&(a.n==b.n)&&((a.pt:Int)==b.pt)&&
 sameL (fun x y=>x.toList==y.toList) a.rd b.rd&&sameL Wt.same a.wr b.wr&&sameL (fun x y=>x==y) a.ps b.ps&&sameL Wt.same a.pr b.pr&&sb
set_option maxRecDepth 100000 in
set_option maxHeartbeats 8000000 in
theorem rec_any (a b:Rc) (h g:Hds) (sb:Bool) (w:World) (i:RcIn w a h) (j:RcIn w b g)
 (hS:∀w',Below w.heap.size w w'→Calls Tryz.prog 40 #[.agg (a.st.arr (.slice h.e.A h.e.n h.e.c) (.slice h.f.A h.f.n h.f.c)),.agg (b.st.arr (.slice g.e.A g.e.n g.e.c) (.slice g.f.A g.f.n g.f.c))] w' fun e w''=>e=.returned (.bool sb)∧Below w'.heap.size w' w''):
 Calls Tryz.prog 78 #[.agg (a.vals h),.agg (b.vals g)] w fun e w'=>e=.returned (.bool (recSame a b sb))∧Below w.heap.size w w':=by
 have z0:=fun w=>txn_run a.t b.t w
 have z1:=fun w=>sp_run a.s b.s w
 have z2:=fun w=>sp_run a.pv b.pv w
 have hB:=fun w=>rbits a.pt b.pt w
 have hT:=fun w' (hb:Below w.heap.size w w')=>texts_any h.a.A g.a.A h.a.n g.a.n h.a.c g.a.c a.rd b.rd w' (i.below hb).rd (j.below hb).rd i.na j.na
 have hW:=fun w' (hb:Below w.heap.size w w')=>wts_any h.b.A g.b.A h.b.n g.b.n h.b.c g.b.c a.wr b.wr w' (i.below hb).wr (j.below hb).wr i.nb j.nb
 have hN:=fun w' (hb:Below w.heap.size w w')=>intsS_any h.c.A g.c.A h.c.n g.c.n h.c.c g.c.c a.ps b.ps w' (i.below hb).ps (j.below hb).ps i.nc j.nc
 have hP:=fun w' (hb:Below w.heap.size w w')=>prsS_any h.d.A g.d.A h.d.n g.d.n h.d.c g.d.c a.pr b.pr w' (i.below hb).pr (j.below hb).pr i.nd j.nd
 have HZ:=Lib.hid (show recSame a b sb=((a.k==b.k)&&decide (a.t=b.t)&&decide (a.s=b.s)&&decide (a.pv=b.pv)&&(a.cm==b.cm)&&(a.n==b.n)&&((a.pt:Int)==b.pt)&&
  sameL (fun x y=>x.toList==y.toList) a.rd b.rd&&sameL Wt.same a.wr b.wr&&sameL (fun x y=>x==y) a.ps b.ps&&sameL Wt.same a.pr b.pr&&sb) from rfl)
 clear i j
 have hX:Below w.heap.size w ((w.alloc (.cells (a.vals h) 69)).alloc (.cells (b.vals g) 69)):=by go_grown
 have B0:Blk ((w.alloc (.cells (a.vals h) 69)).alloc (.cells (b.vals g) 69)) w.heap.size 69 (a.vals h):=(Blk.new _ _ _).alloc _
 have B1:Blk ((w.alloc (.cells (a.vals h) 69)).alloc (.cells (b.vals g) 69)) (w.heap.size+1) 69 (b.vals g):=Blk.new' _ _ (by simp)
 generalize decide (a.t=b.t)=b0 at*
 generalize decide (a.s=b.s)=b1 at*
 generalize decide (a.pv=b.pv)=b2 at*
 generalize sameL (fun x y=>x.toList==y.toList) a.rd b.rd=b3 at*
 generalize sameL Wt.same a.wr b.wr=b4 at*
 generalize sameL (fun x y=>x==y) a.ps b.ps=b5 at*
 generalize sameL Wt.same a.pr b.pr=b6 at*
 go_enter Tryz.func78,Tryz.ntmps78
 go_wp2_with (first
  |((with_reducible refine(hB _).mono ?_);rintro e w0 ⟨rfl,rfl⟩)
  |((with_reducible refine(hT _ hX).mono ?_);rintro e w1 ⟨rfl,hb1⟩
    have hY1:=hX.trans (hb1.mono hX.size)
    have C1:=B0.below hb1 B0.lt
    have lC1:=C1.lt
    have xC1_14:=C1.cell 14
    have D1:=B1.below hb1 B1.lt
    have lD1:=D1.lt
    have xD1_14:=D1.cell 14
    simp only[List.getElem?_toArray,List.getElem?_cons_succ,List.getElem?_cons_zero]at xC1_14 xD1_14)
  |((with_reducible refine(hW _ hY1).mono ?_);rintro e w2 ⟨rfl,hb2⟩
    have hY2:=hY1.trans (hb2.mono hY1.size)
    have C2:=C1.below hb2 C1.lt
    have lC2:=C2.lt
    have xC2_15:=C2.cell 15
    have D2:=D1.below hb2 D1.lt
    have lD2:=D2.lt
    have xD2_15:=D2.cell 15
    simp only[List.getElem?_toArray,List.getElem?_cons_succ,List.getElem?_cons_zero]at xC2_15 xD2_15)
  |((with_reducible refine(hN _ hY2).mono ?_);rintro e w3 ⟨rfl,hb3⟩
    have hY3:=hY2.trans (hb3.mono hY2.size)
    have C3:=C2.below hb3 C2.lt
    have lC3:=C3.lt
    have xC3_16:=C3.cell 16
    have D3:=D2.below hb3 D2.lt
    have lD3:=D3.lt
    have xD3_16:=D3.cell 16
    simp only[List.getElem?_toArray,List.getElem?_cons_succ,List.getElem?_cons_zero]at xC3_16 xD3_16)
  |((with_reducible refine(hP _ hY3).mono ?_);rintro e w4 ⟨rfl,hb4⟩
    have hY4:=hY3.trans (hb4.mono hY3.size)
    have C4:=C3.below hb4 C3.lt
    have lC4:=C4.lt
    have xC4_17:=C4.cell 17
    have xC4_18:=C4.cell 18
    have xC4_19:=C4.cell 19
    have xC4_20:=C4.cell 20
    have xC4_21:=C4.cell 21
    have xC4_22:=C4.cell 22
    have xC4_23:=C4.cell 23
    have xC4_24:=C4.cell 24
    have xC4_25:=C4.cell 25
    have xC4_26:=C4.cell 26
    have xC4_27:=C4.cell 27
    have xC4_28:=C4.cell 28
    have D4:=D3.below hb4 D3.lt
    have lD4:=D4.lt
    have xD4_17:=D4.cell 17
    have xD4_18:=D4.cell 18
    have xD4_19:=D4.cell 19
    have xD4_20:=D4.cell 20
    have xD4_21:=D4.cell 21
    have xD4_22:=D4.cell 22
    have xD4_23:=D4.cell 23
    have xD4_24:=D4.cell 24
    have xD4_25:=D4.cell 25
    have xD4_26:=D4.cell 26
    have xD4_27:=D4.cell 27
    have xD4_28:=D4.cell 28
    simp only[List.getElem?_toArray,List.getElem?_cons_succ,List.getElem?_cons_zero]at xC4_17 xC4_18 xC4_19 xC4_20 xC4_21 xC4_22 xC4_23 xC4_24 xC4_25 xC4_26 xC4_27 xC4_28 xD4_17 xD4_18 xD4_19 xD4_20 xD4_21 xD4_22 xD4_23 xD4_24 xD4_25 xD4_26 xD4_27 xD4_28)
  |((with_reducible refine(hS _ hY4).mono ?_);rintro e w5 ⟨rfl,hb5⟩))
 all_goals go_ret
 all_goals refine⟨ret_bool ?_,by first|exact hY4.trans (hb5.mono hY4.size)|exact hY4|exact hY3|exact hY2|exact hY1|exact hX⟩
 all_goals rw[HZ.out]
 all_goals simp_all
end Go.Proofs.YtcalkfgibflbnaaGreat
