/- The walks of raceref15.Texts, raceref10.TxnLess, raceref11.in. -/
import Derived.Test.YtcalkfgibflbnaaGreatDaad
namespace Go.Proofs.YtcalkfgibflbnaaGreat
set_option maxHeartbeats 1000000
set_option maxRecDepth 100000
set_option linter.unusedVariables false
open Go.RowKit Fl
attribute [local go_sem] run_store_float
def Tx.less (a b:Tx):Bool:=if a.c≠b.c then decide (a.c<b.c) else if a.l≠b.l then decide (a.l<b.l) else decide (a.s<b.s)
theorem rtxnLess_any (a b:Tx) (w:World):Calls Tryz.prog 215 #[a.val,b.val] w fun e w'=>e=.returned (.bool (a.less b))∧Below w.heap.size w w':=by
 by_cases h1:a.c=b.c
 · by_cases h2:a.l=b.l
   · have hr:a.less b=decide (a.s<b.s):=by unfold Tx.less;simp[h1,h2]
     have hq1:(a.c !=b.c)=false:=by simp[h1]
     have hq2:(a.l !=b.l)=false:=by simp[h2]
     rw[hr]
     clear hr h1 h2
     go_enter Tryz.func215,Tryz.ntmps215
     go_wp2
     go_ret
     exact⟨rfl,by go_grown⟩
   · have hr:a.less b=decide (a.l<b.l):=by unfold Tx.less;simp[h1,h2]
     have hq1:(a.c !=b.c)=false:=by simp[h1]
     have hq2:(a.l !=b.l)=true:=by simp[h2]
     rw[hr]
     clear hr h1 h2
     go_enter Tryz.func215,Tryz.ntmps215
     go_wp2
     go_ret
     exact⟨rfl,by go_grown⟩
 · have hr:a.less b=decide (a.c<b.c):=by unfold Tx.less;simp[h1]
   have hq1:(a.c !=b.c)=true:=by simp[h1]
   rw[hr]
   clear hr h1
   go_enter Tryz.func215,Tryz.ntmps215
   go_wp2
   go_ret
   exact⟨rfl,by go_grown⟩
theorem rinK_any (r:Rg) (k:ByteArray) (w:World) (hk:k.size≤maxLen):
 Calls Tryz.prog 122 #[r.val,.string k] w fun e w'=>e=.returned (.bool (inK r k))∧Below w.heap.size w w':=by
 have ho:=fun w=>rof_any k w hk
 have hi:=fun w=>rin_any r (ofB k) w
 obtain⟨l2,c0,c1,c2,c3,-⟩:=(Blk.new w 35 #[.int .i64 r.id,.int .i64 r.ep,.float .f64 r.lo,.float .f64 r.hi]).four
 have hX:Below w.heap.size w (w.alloc (.cells #[.int .i64 r.id,.int .i64 r.ep,.float .f64 r.lo,.float .f64 r.hi] 35)):=by go_grown
 go_enter Tryz.func122,Tryz.ntmps122
 go_wp2
 generalize (w.alloc (.cells #[.int .i64 r.id,.int .i64 r.ep,.float .f64 r.lo,.float .f64 r.hi] 35))=w0 at*
 go_region_held3 (fun w'=>w'.cell? ⟨w.heap.size,0,none⟩=some (.int .i64 r.id)∧w'.cell? ⟨w.heap.size,1,none⟩=some (.int .i64 r.ep)∧w'.cell? ⟨w.heap.size,2,none⟩=some (.float .f64 r.lo)∧w'.cell? ⟨w.heap.size,3,none⟩=some (.float .f64 r.hi))
  (first|exact⟨c0,c1,c2,c3⟩|exact⟨(hb1.cell (p:=⟨_,_,none⟩) l2).trans c0,(hb1.cell (p:=⟨_,_,none⟩) l2).trans c1,(hb1.cell (p:=⟨_,_,none⟩) l2).trans c2,(hb1.cell (p:=⟨_,_,none⟩) l2).trans c3⟩)
  (first|((with_reducible refine(ho _).mono ?_);rintro e w1 ⟨rfl,rfl⟩)|((with_reducible refine(hi _).mono ?_);rintro e w1 ⟨rfl,hw1⟩;have hb1:Below w0.heap.size w0 w1:=by rw[←hw1];exact(Below.refl _ _).drew.alloc (Nat.le_refl _) _))
 go_wp2
 go_ret
 exact⟨rfl,hX.trans (hb1.mono hX.size)⟩
end Go.Proofs.YtcalkfgibflbnaaGreat
