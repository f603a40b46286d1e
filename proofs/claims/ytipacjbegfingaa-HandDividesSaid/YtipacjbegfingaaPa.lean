/- The walks of the functions that look at a float's bits: Bits, Canon, Class, point, is, Point, Mid. -/
import Derived.Test.YtipacjbegfingaaProg
import Derived.Test.YtipacjbegfingaaFlc
import Derived.WalkKit
import Derived.WalkSpells
import Derived.WalkLawsBesides
import Derived.Deep.QuietTactic
import Derived.BigQuiet
import Derived.Lib.Hide
namespace Go.Proofs.Ytipacjbegfingaa
open Go.RowKit Fl
@[go_sem] theorem run_bits64 (a : Nat) (w : World) : (callFunc 54 #[.float .f64 a]).run Try.prog w = .ok (.value (.int .u64 a)) w := by
  rw [run_callFunc_extern Try.func54 (by kernel_rfl) (by kernel_rfl) (by kernel_rfl) (e := Extern.MathFloatBits.float64bits) (by kernel_rfl)]; rfl
@[go_sem] theorem run_from64 (a : Int) (w : World) : (callFunc 92 #[.int .u64 a]).run Try.prog w = .ok (.value (.float .f64 a.toNat)) w := by
  rw [run_callFunc_extern Try.func92 (by kernel_rfl) (by kernel_rfl) (by kernel_rfl) (e := Extern.MathFloatBits.float64frombits) (by kernel_rfl)]; rfl

theorem ret_int {k : IntKind} {a b : Int} (h : a = b) : Ending.returned (.int k a) = .returned (.int k b) := by rw [h]
theorem ret_bool {a b : Bool} (h : a = b) : Ending.returned (.bool a) = .returned (.bool b) := by rw [h]

set_option maxHeartbeats 400000 in
theorem rbits (a b : Nat) (w : World) :
    Calls Try.prog 20 #[.float .f64 a, .float .f64 b] w fun e w' => e = .returned (.bool ((a : Int) == b)) ∧ w = w' := by
  go_enter Try.func20, Try.ntmps20
  go_wp2
  go_ret
  exact ⟨rfl, rfl⟩

set_option maxHeartbeats 400000 in
theorem canon (a : Nat) (w : World) :
    Calls Try.prog 110 #[.float .f64 a] w fun e w' => e = .returned (.float .f64 (canonB a)) ∧ w = w' := by
  by_cases h : dnan a = true
  · have e : canonB a = 9221120237041090560 := by simp [canonB, h]
    have h' : (FloatKind.f64.format.order a a != some Ordering.eq) = true := h
    rw [e]
    clear e h
    go_enter Try.func110, Try.ntmps110
    go_wp2
    go_ret
    exact ⟨rfl, rfl⟩
  · have e : canonB a = a := by simp [canonB, h]
    have h' : (FloatKind.f64.format.order a a != some Ordering.eq) = false := by simpa [dnan] using h
    rw [e]
    clear e h
    go_enter Try.func110, Try.ntmps110
    go_wp2
    go_ret
    exact ⟨rfl, rfl⟩

set_option maxHeartbeats 400000 in
theorem nbits (a : Nat) (w : World) :
    Calls Try.prog 105 #[.float .f64 a] w fun e w' => e = .returned (.int .u64 (canonB a)) ∧ w = w' := by
  go_enter Try.func105, Try.ntmps105
  go_wp2_with ((with_reducible refine (canon _ _).mono ?_); rintro e w' ⟨rfl, rfl⟩)
  go_ret
  exact ⟨rfl, rfl⟩

section
open Fl
theorem c0 {c : Int} (h1 : eI c = 2047) (h2 : (fI c != 0) = true) : classI c = 0 := by
  unfold classI; rw [if_pos ⟨h1, by simpa using h2⟩]
theorem c8 {c : Int} (h1 : eI c = 2047) (h2 : (fI c != 0) = false) : classI c = if sI c ≠ 0 then 1 else 8 := by
  unfold classI kI
  rw [if_neg (by rintro ⟨_, h⟩; simp [h] at h2), if_pos h1]; rfl
theorem c7 {c : Int} (h1 : ¬ eI c = 2047) (h2 : 0 < eI c) : classI c = if sI c ≠ 0 then 2 else 7 := by
  unfold classI kI
  rw [if_neg (by rintro ⟨h, _⟩; exact h1 h), if_neg h1, if_pos h2]; rfl
theorem c6 {c : Int} (h1 : ¬ eI c = 2047) (h2 : eI c ≤ 0) (h3 : 0 < fI c) : classI c = if sI c ≠ 0 then 3 else 6 := by
  unfold classI kI
  rw [if_neg (by rintro ⟨h, _⟩; exact h1 h), if_neg h1, if_neg (show ¬ 0 < eI c by omega), if_pos h3]; rfl
theorem c5 {c : Int} (h1 : ¬ eI c = 2047) (h2 : eI c ≤ 0) (h3 : fI c ≤ 0) : classI c = if sI c ≠ 0 then 4 else 5 := by
  unfold classI kI
  rw [if_neg (by rintro ⟨h, _⟩; exact h1 h), if_neg h1, if_neg (show ¬ 0 < eI c by omega), if_neg (show ¬ 0 < fI c by omega)]; rfl
theorem sy {c p q : Int} (h : (sI c != 0) = true) : (if sI c ≠ 0 then p else q) = p := by rw [if_pos (by simpa using h)]
theorem sn {c p q : Int} (h : (sI c != 0) = false) : (if sI c ≠ 0 then p else q) = q := by rw [if_neg (by simpa using h)]
end

set_option maxHeartbeats 400000 in
theorem class_any (a : Nat) (w : World) :
    Calls Try.prog 88 #[.float .f64 a] w fun e w' => e = .returned (.int .i64 (classI (canonB a))) ∧ w = w' := by
  generalize hc : canonB a = c
  have H := Lib.hid hc; clear hc
  go_enter Try.func88, Try.ntmps88
  go_wp2_with ((with_reducible refine (nbits _ _).mono ?_); rw [H.out]; rintro e w' ⟨rfl, rfl⟩)
  all_goals go_ret
  all_goals refine ⟨ret_int ?_, rfl⟩
  · exact (c0 ‹_› ‹_›).symm
  · exact ((c8 ‹_› ‹_›).trans (sy ‹_›)).symm
  · exact ((c8 ‹_› ‹_›).trans (sn ‹_›)).symm
  · exact ((c7 ‹_› ‹_›).trans (sy ‹_›)).symm
  · exact ((c7 ‹_› ‹_›).trans (sn ‹_›)).symm
  · exact ((c6 ‹_› ‹_› ‹_›).trans (sy ‹_›)).symm
  · exact ((c6 ‹_› ‹_› ‹_›).trans (sn ‹_›)).symm
  · exact ((c5 ‹_› ‹_› ‹_›).trans (sy ‹_›)).symm
  · exact ((c5 ‹_› ‹_› ‹_›).trans (sn ‹_›)).symm

set_option maxHeartbeats 400000 in
theorem point_any (a : Nat) (w : World) (ha : a < 18446744073709551616) :
    Calls Try.prog 63 #[.float .f64 a] w fun e w' => e = .returned (.bool (ptB a)) ∧ w = w' := by
  have hp := point_is a ha
  generalize hk : classI (canonB a) = k at hp
  have H := Lib.hid hk; clear hk
  have H2 := Lib.hid hp; clear hp
  by_cases h5 : 5 ≤ k
  · go_enter Try.func63, Try.ntmps63
    go_wp2_with ((with_reducible refine (class_any _ _).mono ?_); rw [H.out]; rintro e w' ⟨rfl, rfl⟩)
    go_ret
    refine ⟨ret_bool ?_, rfl⟩
    rw [← H2.out, decide_eq_true h5]; rfl
  · have h5' : k < 5 := by omega
    go_enter Try.func63, Try.ntmps63
    go_wp2_with ((with_reducible refine (class_any _ _).mono ?_); rw [H.out]; rintro e w' ⟨rfl, rfl⟩)
    go_ret
    refine ⟨ret_bool ?_, rfl⟩
    rw [← H2.out, decide_eq_false (show ¬ 5 ≤ k by omega)]; rfl

set_option maxHeartbeats 400000 in
theorem is_any (a : Nat) (w : World) (ha : a < 18446744073709551616) :
    Calls Try.prog 67 #[.float .f64 a] w fun e w' => e = .returned (.bool (ptB a)) ∧ w = w' := by
  have H2 := Lib.hid (is_is a ha)
  by_cases h1 : a = 0
  · subst h1
    go_enter Try.func67, Try.ntmps67
    go_wp2_with ((with_reducible refine (rbits _ _ _).mono ?_); rintro e w' ⟨rfl, rfl⟩)
    go_ret
    exact ⟨rfl, rfl⟩
  · have hz : Hid (((a : Int) == 0) = false) := by have : ¬ (a : Int) = 0 := by omega
                                                   exact beq_eq_false_iff_ne.2 this
    rcases Bool.eq_false_or_eq_true (FloatKind.f64.format.order a 0 == some Ordering.gt) with h2 | h2
    all_goals
      go_enter Try.func67, Try.ntmps67
      go_wp2_with ((with_reducible refine (rbits _ _ _).mono ?_); rintro e w' ⟨rfl, rfl⟩)
      go_ret
      refine ⟨ret_bool ?_, rfl⟩
      rw [← H2.out]
      rw [hz.out]
      unfold fgt; rw [h2]; rfl
end Go.Proofs.Ytipacjbegfingaa
