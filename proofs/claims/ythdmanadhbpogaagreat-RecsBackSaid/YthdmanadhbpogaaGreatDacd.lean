/- The walk of recs' May. -/
import Derived.Test.YthdmanadhbpogaaGreatDacc
namespace Go.Proofs.YthdmanadhbpogaaGreat
set_option linter.unusedVariables false
open Go.RowKit Fl
attribute [local go_sem] run_store_float
theorem wpList_load_row_g {P:Program} {w:World} {ops:Array Oper} {rest:List Oper} {o:Oper} {a:Act} {Q:Exit→Act→World→Prop} (hw:Region.wanted o (yielded ops a.tmps)=true) (ty:TypeId) (x:Operand) (ho:o.op=.load ty x)
 (g:Nat) (hx:a.eval x=.pointer (some ⟨g,0,none⟩)) (t:TypeId) (cs:Array Value) (fr:Nat×Nat) (d:TypeDesc) (hg:w.heap[g]?=some (.cells cs t fr))
 (hu:P.underlying ty=some d) (hd:(match d with| .struct _| .array _ _=>true|_=>false)=true) (hi:(P.info? ty).map (·.size)=some cs.size)
 (h:wpList P ops Q rest (a.put o.dst (.agg cs)) w):wpList P ops Q (o::rest) a w:=
 wpList_step fun _ hK=>by rw[if_pos hw];exact wp_load_row ty x ho g hx t cs fr d hg hu hd hi (hK _ _ h)
theorem wipe_len (r:Rc) (h:Hds) (h1:r.rd.length=h.a.n) (h2:r.wr.length=h.b.n) (h3:r.ps.length=h.c.n) (h4:r.pr.length=h.d.n) (h5:r.st.h.length=h.e.n) (h6:r.st.p.length=h.f.n):
 (wipe r).rd.length=(wipeH r.k h).a.n∧(wipe r).wr.length=(wipeH r.k h).b.n∧(wipe r).ps.length=(wipeH r.k h).c.n∧(wipe r).pr.length=(wipeH r.k h).d.n∧(wipe r).st.h.length=(wipeH r.k h).e.n∧(wipe r).st.p.length=(wipeH r.k h).f.n:=by
 by_cases hk:kindB r.k=true
 · unfold kindB at hk
   rw[decide_eq_true_eq]at hk
   have hc:r.k=1∨r.k=2∨r.k=3∨r.k=4∨r.k=5∨r.k=6∨r.k=7∨r.k=8∨r.k=9∨r.k=10∨r.k=11∨r.k=12:=by omega
   rcases hc with e|e|e|e|e|e|e|e|e|e|e|e
   all_goals simp[wipe,wipeH,e,h1,h2,h3,h4,h5,h6,zeroS]
 · unfold kindB at hk
   rw[decide_eq_true_eq]at hk
   have e1:wipe r=r:=by unfold wipe;repeat (rw[if_neg (by omega)])
   have e2:wipeH r.k h=h:=by unfold wipeH;repeat (rw[if_neg (by omega)])
   rw[e1,e2]
   exact⟨h1,h2,h3,h4,h5,h6⟩
def recMay (r:Rc):Int:=if kindB r.k=false then 7 else if (wipe r).zeroB=false then 4 else if fieldsB r=false then 4 else 0
set_option maxRecDepth 100000 in
set_option maxHeartbeats 4000000 in
theorem recMay_any (r:Rc) (h:Hds) (w:World) (ok:r.ok) (i:RcIn w r h) (sm:RcSm r h):
 Calls Tryz.prog 12 #[.agg (r.vals h)] w fun e w'=>e=.returned (.int .i64 (recMay r))∧Below w.heap.size w w':=by
 have hW:=fun w'=>without_any r h w'
 obtain⟨l1,l2,l3,l4,l5,l6⟩:=wipe_len r h i.rd.1 i.wr.1 i.ps.1 i.pr.1 i.hs.1 i.pn.1
 have hZ0:=fun w'=>zero_any (wipe r) (wipeH r.k h) w' l1 l2 l3 l4 l5 l6
 have hF:=fun (hk:kindB r.k=true) w' (hb:Below w.heap.size w w')=>fields_any r h w' hk ok (i.below hb) sm
 have HV:=Lib.hid (show recMay r=(if kindB r.k=false then 7 else if (wipe r).zeroB=false then 4 else if fieldsB r=false then 4 else 0) from rfl)
 clear l1 l2 l3 l4 l5 l6 ok i sm
 have hX:Below w.heap.size w (w.alloc (.cells (r.vals h) 38)):=by go_grown
 have B0:Blk (w.alloc (.cells (r.vals h) 38)) w.heap.size 38 (r.vals h):=Blk.new _ _ _
 generalize (wipe r).zeroB=bz at*
 generalize fieldsB r=bf at*
 generalize wipe r=q at*
 generalize wipeH r.k h=g at*
 cases hk:kindB r.k
 · rw[hk]at hW HV
   clear hF hk
   go_enter Tryz.func12,Tryz.ntmps12
   go_wp2_with (first
    |(refine wpList_load_row rfl 38 _ rfl _ rfl _ _ (0,0) _ (Blk.new _ _ _) rfl rfl (by kernel_rfl) ?_)
    |((with_reducible refine(hW _).mono ?_);rintro e w1 ⟨rfl,hb1⟩)
    |(refine wpList_store_new rfl 38 _ _ rfl _ rfl rfl _ _ (by kernel_rfl) (by kernel_rfl) (by kernel_rfl) ?_))
   all_goals go_ret
   exact⟨ret_int (by rw[HV.out];rfl),(hX.trans (hb1.mono hX.size)).alloc (hX.trans (hb1.mono hX.size)).size _⟩
 · have hF:=hF hk
   rw[hk]at hW HV
   clear hk
   cases bz
   · clear hF
     go_enter Tryz.func12,Tryz.ntmps12
     go_wp2_with (first
        |(refine wpList_load_row rfl 38 _ rfl _ rfl _ _ (0,0) _ (Blk.new _ _ _) rfl rfl (by kernel_rfl) ?_)
        |((with_reducible refine(hW _).mono ?_);rintro e w1 ⟨rfl,hb1⟩
          have hY:=hX.trans (hb1.mono hX.size)
          have hY2:=hY.alloc hY.size (.cells (q.vals g) 38))
        |((with_reducible refine(hZ0 _).mono ?_);rintro e w2 ⟨rfl,hb2⟩
          have hZ:=hY2.trans (hb2.mono hY2.size))
        |(refine wpList_store_new rfl 38 _ _ rfl _ rfl rfl _ _ (by kernel_rfl) (by kernel_rfl) (by kernel_rfl) ?_))
     all_goals go_ret
     exact⟨ret_int (by rw[HV.out];rfl),hZ⟩
   · go_enter Tryz.func12,Tryz.ntmps12
     go_wp2_with (first
        |(refine wpList_load_row rfl 38 _ rfl _ rfl _ _ (0,0) _ (Blk.new _ _ _) rfl rfl (by kernel_rfl) ?_)
        |(refine wpList_load_row_g (by rfl) 38 _ rfl _ rfl _ _ (0,0) _ C2 rfl rfl (by kernel_rfl) ?_)
        |((with_reducible refine(hW _).mono ?_);rintro e w1 ⟨rfl,hb1⟩
          have hY:=hX.trans (hb1.mono hX.size)
          have C1:=B0.below hb1 B0.lt
          have hY2:=hY.alloc hY.size (.cells (q.vals g) 38)
          replace C1:=C1.alloc (.cells (q.vals g) 38))
        |((with_reducible refine(hZ0 _).mono ?_);rintro e w2 ⟨rfl,hb2⟩
          have C2:=C1.below hb2 C1.lt
          have hZ:=hY2.trans (hb2.mono hY2.size))
        |((with_reducible refine(hF _ hZ).mono ?_);rintro e w3 ⟨rfl,hb3⟩)
        |(refine wpList_store_new rfl 38 _ _ rfl _ rfl rfl _ _ (by kernel_rfl) (by kernel_rfl) (by kernel_rfl) ?_))
     all_goals go_ret
     all_goals refine⟨ret_int ?_,hZ.trans (hb3.mono hZ.size)⟩
     all_goals rw[HV.out]
     all_goals simp_all
end Go.Proofs.YthdmanadhbpogaaGreat
