/- The walk of raceref's State against a state that is nothing. -/
import Derived.Test.YthdmanadhbpogaaGreatFaaf
namespace Go.Proofs.YthdmanadhbpogaaGreat
set_option maxHeartbeats 4000000
set_option maxRecDepth 100000
set_option linter.unusedVariables false
open Go.RowKit Fl
attribute [local go_sem] run_store_float
theorem hists_nil (A:Option Addr) (n c:Nat) (w:World):Calls Tryz.prog 82 #[.slice A n c,.slice none 0 0] w fun e w'=>e=.returned (.bool ((n:Int)==0))∧w=w':=by
 by_cases hn:n=0
 · subst hn
   go_enter Tryz.func82,Tryz.ntmps82
   go_wp2
   go_loopw [5] (fun i wr=>i=.int .i64 0∧w=wr) (fun _ _=>0)
   case atStart=>exact⟨rfl,rfl⟩
   case round=>
    obtain⟨rfl,rfl⟩:=hrel
    go_wp2
    go_ret
    exact⟨rfl,rfl⟩
 · have hb0:((n:Int) !=(0:Int))=true:=by simp;omega
   have hb1:((n:Int)==(0:Int))=false:=by simp;omega
   rw[hb1]
   go_enter Tryz.func82,Tryz.ntmps82
   go_wp2
   go_ret
   exact⟨rfl,rfl⟩
theorem pends_nil (A:Option Addr) (n c:Nat) (w:World):Calls Tryz.prog 83 #[.slice A n c,.slice none 0 0] w fun e w'=>e=.returned (.bool ((n:Int)==0))∧w=w':=by
 by_cases hn:n=0
 · subst hn
   go_enter Tryz.func83,Tryz.ntmps83
   go_wp2
   go_loopw [5] (fun i wr=>i=.int .i64 0∧w=wr) (fun _ _=>0)
   case atStart=>exact⟨rfl,rfl⟩
   case round=>
    obtain⟨rfl,rfl⟩:=hrel
    go_wp2
    go_ret
    exact⟨rfl,rfl⟩
 · have hb0:((n:Int) !=(0:Int))=true:=by simp;omega
   have hb1:((n:Int)==(0:Int))=false:=by simp;omega
   rw[hb1]
   go_enter Tryz.func83,Tryz.ntmps83
   go_wp2
   go_ret
   exact⟨rfl,rfl⟩
theorem stateZ_any (s:Stt) (A1 A2:Option Addr) (n1 n2 c1 c2:Nat) (w:World) (h1:s.h.length=n1) (h2:s.p.length=n2):
 Calls Tryz.prog 33 #[.agg (s.arr (.slice A1 n1 c1) (.slice A2 n2 c2)),.agg (zeroCells)] w fun e w'=>e=.returned (.bool s.zeroB)∧Below w.heap.size w w':=by
 have hR:=fun w=>range_any s.r ⟨0,0,0,0⟩ w
 have z1:=fun w=>zero_run s.f w
 have z2:=fun w=>zero_run s.c w
 have hH:=fun w=>hists_nil A1 n1 c1 w
 have hP:=fun w=>pends_nil A2 n2 c2 w
 have HZ:=Lib.hid (show s.zeroB=(s.r.same ⟨0,0,0,0⟩&&s.f.zero&&s.c.zero&&((n1:Int)==0)&&((n2:Int)==0)) by unfold Stt.zeroB;rw[h1,h2];rfl)
 clear h1 h2
 have hX:Below w.heap.size w ((w.alloc (.cells (s.arr (.slice A1 n1 c1) (.slice A2 n2 c2)) 36)).alloc (.cells (zeroCells) 36)):=by go_grown
 have i2:Blk ((w.alloc (.cells (s.arr (.slice A1 n1 c1) (.slice A2 n2 c2)) 36)).alloc (.cells (zeroCells) 36)) w.heap.size 36 (s.arr (.slice A1 n1 c1) (.slice A2 n2 c2)):=(Blk.new _ _ _).alloc _
 have i3:Blk ((w.alloc (.cells (s.arr (.slice A1 n1 c1) (.slice A2 n2 c2)) 36)).alloc (.cells (zeroCells) 36)) (w.heap.size+1) 36 (zeroCells):=Blk.new' _ _ (by simp)
 generalize s.r.same ⟨0,0,0,0⟩=b0 at*
 generalize s.f.zero=b1 at*
 generalize s.c.zero=b2 at*
 go_enter Tryz.func33,Tryz.ntmps33
 go_wp2_with (first
  |((with_reducible refine(hR _).mono ?_);rintro e w3 ⟨rfl,hb3⟩
    have j2:=i2.below hb3 i2.lt
    have j3:=i3.below hb3 i3.lt
    have hY:=hX.trans (hb3.mono hX.size)
    obtain⟨l2,x0,x1,x2,x3,x4,x5,x6,x7,x8,x9,x10,x11⟩:=dozenC j2
    obtain⟨l3,y0,y1,y2,y3,y4,y5,y6,y7,y8,y9,y10,y11⟩:=dozenC j3)
  |((with_reducible refine(hH _).mono ?_);rintro e w4 ⟨rfl,rfl⟩)
  |((with_reducible refine(hP _).mono ?_);rintro e w5 ⟨rfl,rfl⟩))
 all_goals go_ret
 all_goals refine⟨ret_bool ?_,hY⟩
 all_goals rw[HZ.out]
 all_goals simp_all
end Go.Proofs.YthdmanadhbpogaaGreat
