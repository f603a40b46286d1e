/- The walks of the functions that look at a float's bits: Bits, Canon. -/
import Derived.Test.YtglddefjmnjgdaaProg
import Derived.Test.YtglddefjmnjgdaaFlc
import Derived.WalkKit
import Derived.WalkSpells
import Derived.WalkLawsBesides
import Derived.Deep.QuietTactic
import Derived.BigQuiet
import Derived.Lib.Hide
namespace Go.Proofs.Ytglddefjmnjgdaa
open Go.RowKit Fl
@[go_sem] theorem run_bits64 (a : Nat) (w : World) : (callFunc 58 #[.float .f64 a]).run Try.prog w = .ok (.value (.int .u64 a)) w := by
  rw [run_callFunc_extern Try.func58 (by kernel_rfl) (by kernel_rfl) (by kernel_rfl) (e := Extern.MathFloatBits.float64bits) (by kernel_rfl)]; rfl
@[go_sem] theorem run_from64 (a : Int) (w : World) : (callFunc 61 #[.int .u64 a]).run Try.prog w = .ok (.value (.float .f64 a.toNat)) w := by
  rw [run_callFunc_extern Try.func61 (by kernel_rfl) (by kernel_rfl) (by kernel_rfl) (e := Extern.MathFloatBits.float64frombits) (by kernel_rfl)]; rfl

theorem ret_int {k : IntKind} {a b : Int} (h : a = b) : Ending.returned (.int k a) = .returned (.int k b) := by rw [h]
theorem ret_bool {a b : Bool} (h : a = b) : Ending.returned (.bool a) = .returned (.bool b) := by rw [h]

set_option maxHeartbeats 400000 in
theorem rbits (a b : Nat) (w : World) :
    Calls Try.prog 38 #[.float .f64 a, .float .f64 b] w fun e w' => e = .returned (.bool ((a : Int) == b)) ∧ w = w' := by
  go_enter Try.func38, Try.ntmps38
  go_wp2
  go_ret
  exact ⟨rfl, rfl⟩

set_option maxHeartbeats 400000 in
theorem canon (a : Nat) (w : World) :
    Calls Try.prog 60 #[.float .f64 a] w fun e w' => e = .returned (.float .f64 (canonB a)) ∧ w = w' := by
  by_cases h : dnan a = true
  · have e : canonB a = 9221120237041090560 := by simp [canonB, h]
    have h' : (FloatKind.f64.format.order a a != some Ordering.eq) = true := h
    rw [e]
    clear e h
    go_enter Try.func60, Try.ntmps60
    go_wp2
    go_ret
    exact ⟨rfl, rfl⟩
  · have e : canonB a = a := by simp [canonB, h]
    have h' : (FloatKind.f64.format.order a a != some Ordering.eq) = false := by simpa [dnan] using h
    rw [e]
    clear e h
    go_enter Try.func60, Try.ntmps60
    go_wp2
    go_ret
    exact ⟨rfl, rfl⟩

set_option maxHeartbeats 400000 in
theorem nbits (a : Nat) (w : World) :
    Calls Try.prog 43 #[.float .f64 a] w fun e w' => e = .returned (.int .u64 (canonB a)) ∧ w = w' := by
  go_enter Try.func43, Try.ntmps43
  go_wp2_with ((with_reducible refine (canon _ _).mono ?_); rintro e w' ⟨rfl, rfl⟩)
  go_ret
  exact ⟨rfl, rfl⟩
end Go.Proofs.Ytglddefjmnjgdaa
