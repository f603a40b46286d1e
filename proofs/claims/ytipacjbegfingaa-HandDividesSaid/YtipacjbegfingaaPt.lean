/- The walk of the document's Split. -/
import Derived.Test.YtipacjbegfingaaPs
namespace Go.Proofs.Ytipacjbegfingaa
open Go.RowKit Fl
attribute [local go_sem] run_store_float
set_option maxHeartbeats 2000000 in
theorem rsplit_any (r : Rg) (x : Nat) (child : Int) (w : World) (hok : r.ok) (hx : x < 18446744073709551616) :
    Calls Try.prog 37 #[r.val, .float .f64 x, .int .i64 child] w fun e w' => e = .returned (.tuple #[(splitL r x child).val, (splitU r x child).val, .int .i64 (splitE r x child)]) ∧ Below w.heap.size w w' := by
  have HX := Lib.hid hx; clear hx
  have hep := hok.2.1.2
  have hep0 := hok.2.1.1
  go_enter Try.func37, Try.ntmps37
  go_wp2_with (first
    | ((with_reducible refine (rmay_any r _ hok).mono ?_); rintro e w1 ⟨rfl, rfl⟩)
    | ((with_reducible refine (is_any x _ HX.out).mono ?_); rintro e w1 ⟨rfl, rfl⟩))
  · go_returns
    exact sp1 (by simp [splitBad, *]) (by go_grown)
  · go_returns
    exact sp1 (by simp [splitBad, *]) (by go_grown)
  · go_returns
    exact sp1 (sbad ‹_›) (by go_grown)
  · go_returns
    rename_i h
    exact sp24 (sgood ‹_› ‹_›) (by rw [Bool.and_eq_false_iff]; right; unfold flt; simpa using h) (by go_grown)
  · go_region
    all_goals go_wp2
    all_goals go_returns
    exact sp0 (sgood ‹_› ‹_›) (by rename_i h; rw [fgl ‹_›]; unfold flt; simpa using h) (by go_grown)
  · go_returns
    exact sp24 (sgood ‹_› ‹_›) (by rw [fngl ‹_›]; rfl) (by go_grown)
  · go_returns
    exact sp1 (by simp [splitBad, *]) (by go_grown)
  · go_returns
    exact sp1 (by simp [splitBad, *]) (by go_grown)
  · go_returns
    exact sp1 (by simp [splitBad, *]) (by go_grown)
end Go.Proofs.Ytipacjbegfingaa
