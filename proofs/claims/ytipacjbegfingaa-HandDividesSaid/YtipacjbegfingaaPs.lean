/- The walk of Split. -/
import Derived.Test.YtipacjbegfingaaPr
namespace Go.Proofs.Ytipacjbegfingaa
open Go.RowKit Fl
attribute [local go_sem] run_store_float
def splitBad (r : Rg) (x : Nat) (child : Int) : Bool := decide (r.ep = 9223372036854775807) || !mayR r || decide (child < 1) || decide (12 < child) || decide (child = r.id) || !ptB x
def splitE (r : Rg) (x : Nat) (child : Int) : Int := if splitBad r x child then 1 else if flt r.lo x && flt x r.hi then 0 else 24
def splitL (r : Rg) (x : Nat) (child : Int) : Rg := if splitE r x child = 0 then ⟨r.id, r.ep + 1, r.lo, x⟩ else ⟨0, 0, 0, 0⟩
def splitU (r : Rg) (x : Nat) (child : Int) : Rg := if splitE r x child = 0 then ⟨child, 0, x, r.hi⟩ else ⟨0, 0, 0, 0⟩

theorem split1 {r : Rg} {x : Nat} {child : Int} (h : splitBad r x child = true) : splitL r x child = ⟨0, 0, 0, 0⟩ ∧ splitU r x child = ⟨0, 0, 0, 0⟩ ∧ splitE r x child = 1 := by
  have e : splitE r x child = 1 := by unfold splitE; rw [h]; rfl
  unfold splitL splitU; rw [e]; exact ⟨rfl, rfl, rfl⟩
theorem split24 {r : Rg} {x : Nat} {child : Int} (h : splitBad r x child = false) (h2 : (flt r.lo x && flt x r.hi) = false) : splitL r x child = ⟨0, 0, 0, 0⟩ ∧ splitU r x child = ⟨0, 0, 0, 0⟩ ∧ splitE r x child = 24 := by
  have e : splitE r x child = 24 := by unfold splitE; rw [h, h2]; rfl
  unfold splitL splitU; rw [e]; exact ⟨rfl, rfl, rfl⟩
theorem split0 {r : Rg} {x : Nat} {child : Int} (h : splitBad r x child = false) (h2 : (flt r.lo x && flt x r.hi) = true) : splitL r x child = ⟨r.id, r.ep + 1, r.lo, x⟩ ∧ splitU r x child = ⟨child, 0, x, r.hi⟩ ∧ splitE r x child = 0 := by
  have e : splitE r x child = 0 := by unfold splitE; rw [h, h2]; rfl
  unfold splitL splitU; rw [e]; exact ⟨rfl, rfl, rfl⟩

theorem sp1 {r : Rg} {x : Nat} {child : Int} {w w' : World} (h : splitBad r x child = true) (hb : Below w.heap.size w w') :
    Ending.returned (.tuple #[Rg.val ⟨0, 0, 0, 0⟩, Rg.val ⟨0, 0, 0, 0⟩, .int .i64 1]) = Ending.returned (.tuple #[(splitL r x child).val, (splitU r x child).val, .int .i64 (splitE r x child)]) ∧ Below w.heap.size w w' := by
  obtain ⟨a, b, c⟩ := split1 h; rw [a, b, c]; exact ⟨rfl, hb⟩
theorem sp24 {r : Rg} {x : Nat} {child : Int} {w w' : World} (h : splitBad r x child = false) (h2 : (flt r.lo x && flt x r.hi) = false) (hb : Below w.heap.size w w') :
    Ending.returned (.tuple #[Rg.val ⟨0, 0, 0, 0⟩, Rg.val ⟨0, 0, 0, 0⟩, .int .i64 24]) = Ending.returned (.tuple #[(splitL r x child).val, (splitU r x child).val, .int .i64 (splitE r x child)]) ∧ Below w.heap.size w w' := by
  obtain ⟨a, b, c⟩ := split24 h h2; rw [a, b, c]; exact ⟨rfl, hb⟩
theorem sp0 {r : Rg} {x : Nat} {child : Int} {w w' : World} (h : splitBad r x child = false) (h2 : (flt r.lo x && flt x r.hi) = true) (hb : Below w.heap.size w w') :
    Ending.returned (.tuple #[Rg.val ⟨r.id, r.ep + 1, r.lo, x⟩, Rg.val ⟨child, 0, x, r.hi⟩, .int .i64 0]) = Ending.returned (.tuple #[(splitL r x child).val, (splitU r x child).val, .int .i64 (splitE r x child)]) ∧ Below w.heap.size w w' := by
  obtain ⟨a, b, c⟩ := split0 h h2; rw [a, b, c]; exact ⟨rfl, hb⟩
/-- the tests of Split, as the walk leaves them -/
theorem sbad {r : Rg} {x : Nat} {child : Int} (h : ((((r.ep == 9223372036854775807) = true ∨ child < 1) ∨ 12 < child) ∨ (child == r.id) = true) ∨ (!ptB x) = true) : splitBad r x child = true := by
  unfold splitBad; simp at h ⊢; rcases h with (((h | h) | h) | h) | h <;> simp [h]
theorem sgood {r : Rg} {x : Nat} {child : Int} (hm : mayR r = true) (h : ((((r.ep == 9223372036854775807) = false ∧ 1 ≤ child) ∧ child ≤ 12) ∧ (child == r.id) = false) ∧ (!ptB x) = false) : splitBad r x child = false := by
  unfold splitBad; simp at h ⊢; simp [hm, h]
theorem fgl {x y : Nat} (h : FloatKind.f64.format.order x y = some Ordering.gt) : flt y x = true := by rw [← fgt_flt]; unfold fgt; rw [h]; rfl
theorem fngl {x y : Nat} (h : ¬ FloatKind.f64.format.order x y = some Ordering.gt) : flt y x = false := by rw [← fgt_flt]; unfold fgt; simpa using h

set_option maxHeartbeats 2000000 in
theorem split_any (r : Rg) (x : Nat) (child : Int) (w : World) (hok : r.ok) (hx : x < 18446744073709551616) :
    Calls Try.prog 31 #[r.val, .float .f64 x, .int .i64 child] w fun e w' => e = .returned (.tuple #[(splitL r x child).val, (splitU r x child).val, .int .i64 (splitE r x child)]) ∧ Below w.heap.size w w' := by
  have HX := Lib.hid hx; clear hx
  have hep := hok.2.1.2
  have hep0 := hok.2.1.1
  go_enter Try.func31, Try.ntmps31
  go_wp2_with (first
    | ((with_reducible refine (may_any r _ hok).mono ?_); rintro e w1 ⟨rfl, rfl⟩)
    | ((with_reducible refine (point_any x _ HX.out).mono ?_); rintro e w1 ⟨rfl, rfl⟩))
  · go_returns
    exact sp1 (by simp [splitBad, *]) (by go_grown)
  · go_returns
    exact sp1 (by simp [splitBad, *]) (by go_grown)
  · go_returns
    exact sp1 (sbad ‹_›) (by go_grown)
  · go_returns
    rename_i h
    exact sp24 (sgood ‹_› ‹_›) (by rw [Bool.and_eq_false_iff]; right; unfold flt; simpa using h) (by go_grown)
  · go_region
    all_goals go_wp2
    all_goals go_returns
    exact sp0 (sgood ‹_› ‹_›) (by rename_i h; rw [fgl ‹_›]; unfold flt; simpa using h) (by go_grown)
  · go_returns
    exact sp24 (sgood ‹_› ‹_›) (by rw [fngl ‹_›]; rfl) (by go_grown)
  · go_returns
    exact sp1 (by simp [splitBad, *]) (by go_grown)
  · go_returns
    exact sp1 (by simp [splitBad, *]) (by go_grown)
  · go_returns
    exact sp1 (by simp [splitBad, *]) (by go_grown)
end Go.Proofs.Ytipacjbegfingaa
