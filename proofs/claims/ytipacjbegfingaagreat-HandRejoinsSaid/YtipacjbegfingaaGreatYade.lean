/- The walk of HandTwice. -/
import Derived.Test.YtipacjbegfingaaGreatYabb
import Derived.Test.YtipacjbegfingaaGreatYabd
namespace Go.Proofs.YtipacjbegfingaaGreat
set_option linter.unusedVariables false
open Go.RowKit Fl
attribute [local go_sem] run_store_float

set_option maxRecDepth 100000 in
set_option maxHeartbeats 4000000 in
theorem few_any (s : Stt) (A1 A2 : Option Addr) (n1 n2 c1 c2 : Nat) (w : World) (h1 : Sl HsRel 2 w w.heap.size A1 n1 s.h) (h2 : Sl PnRel 8 w w.heap.size A2 n2 s.p) (hn1 : n1 ≤ maxLen) (hn2 : n2 ≤ maxLen) :
    Calls Tryz.prog 6 #[.agg (s.arr (.slice A1 n1 c1) (.slice A2 n2 c2))] w fun e w' => e = .returned (.bool (decide (weighS 20000 s ≤ 20000))) ∧ Below w.heap.size w w' := by
  have hX : Below w.heap.size w (w.alloc (.cells (s.arr (.slice A1 n1 c1) (.slice A2 n2 c2)) 30)) := by go_grown
  have hW := weighS_any s A1 A2 n1 n2 c1 c2 20000 _ ((h1.below HsRel.kept hX).more HsRel.kept hX.size) ((h2.below PnRel.kept hX).more PnRel.kept hX.size) hn1 hn2 (by omega) (by omega)
  generalize weighS 20000 s = z at *
  go_enter Tryz.func6, Tryz.ntmps6
  go_wp2_with ((with_reducible refine hW.mono ?_); rintro e w1 ⟨rfl, hb⟩)
  go_ret
  exact ⟨rfl, hX.trans (hb.mono hX.size)⟩

end Go.Proofs.YtipacjbegfingaaGreat
