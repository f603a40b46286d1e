/- The walks of In, May, Find, Split, Range, Ranges, Check. -/
import Derived.Test.YtipacjbegfingaaPh
import Derived.Test.YtipacjbegfingaaWords
import Derived.Handy
namespace Go.Proofs.Ytipacjbegfingaa
open Go.RowKit Fl
theorem run_store_float (P : Program) (w : World) (a : Addr) (m : Mode) (k : FloatKind) (b : Nat) : (store a (.float k b) m).run P w = stored P w a (.float k b) m := run_store P w a _ m rfl
attribute [local go_sem] run_store_float

def inR (r : Rg) (x : Nat) : Bool := (fgt x r.lo || feq x r.lo) && flt x r.hi
set_option maxHeartbeats 400000 in
theorem in_any (r : Rg) (x : Nat) (w : World) :
    Calls Try.prog 62 #[r.val, .float .f64 x] w fun e w' => e = .returned (.bool (inR r x)) ∧ w.alloc (.cells #[.int .i64 r.id, .int .i64 r.ep, .float .f64 r.lo, .float .f64 r.hi] 24) = w' := by
  unfold Rg.val
  go_enter Try.func62, Try.ntmps62
  go_wp2
  all_goals go_ret
  all_goals refine ⟨?_, rfl⟩
  · exact ret_bool rfl
  · refine ret_bool ?_
    unfold inR fgt feq
    rename_i h
    have e : (FloatKind.f64.format.order x r.lo == some Ordering.gt || FloatKind.f64.format.order x r.lo == some Ordering.eq) = false := by simpa using h
    rw [e]; rfl
set_option maxHeartbeats 400000 in
theorem rin_any (r : Rg) (x : Nat) (w : World) :
    Calls Try.prog 89 #[r.val, .float .f64 x] w fun e w' => e = .returned (.bool (inR r x)) ∧ w.alloc (.cells #[.int .i64 r.id, .int .i64 r.ep, .float .f64 r.lo, .float .f64 r.hi] 24) = w' := by
  go_enter Try.func89, Try.ntmps89
  go_wp2
  all_goals go_ret
  all_goals refine ⟨?_, rfl⟩
  · exact ret_bool rfl
  · refine ret_bool ?_
    unfold inR fgt feq
    rename_i h
    have e : (FloatKind.f64.format.order x r.lo == some Ordering.gt || FloatKind.f64.format.order x r.lo == some Ordering.eq) = false := by simpa using h
    rw [e]; rfl

def mayR (r : Rg) : Bool := decide (1 ≤ r.id) && decide (r.id ≤ 12) && decide (0 ≤ r.ep) && ptB r.lo && ptB r.hi && flt r.lo r.hi
theorem mayR_lo {r : Rg} (h : mayR r = true) : r.lo < r.hi ∧ r.hi ≤ 4607182418800017408 ∧ 1 ≤ r.id ∧ r.id ≤ 12 ∧ 0 ≤ r.ep := by
  unfold mayR at h
  simp only [Bool.and_eq_true, decide_eq_true_eq] at h
  obtain ⟨⟨⟨⟨⟨h1, h2⟩, h3⟩, h4⟩, h5⟩, h6⟩ := h
  have a4 : r.lo ≤ 4607182418800017408 := by unfold ptB at h4; simpa using h4
  have a5 : r.hi ≤ 4607182418800017408 := by unfold ptB at h5; simpa using h5
  rw [flt_pt (by omega) (by omega)] at h6
  exact ⟨of_decide_eq_true h6, a5, h1, h2, h3⟩

set_option maxHeartbeats 1000000 in
theorem may_any (r : Rg) (w : World) (hok : r.ok) :
    Calls Try.prog 59 #[r.val] w fun e w' => e = .returned (.bool (mayR r)) ∧ w.alloc (.cells #[.int .i64 r.id, .int .i64 r.ep, .float .f64 r.lo, .float .f64 r.hi] 24) = w' := by
  have hl := hok.2.2.1
  have hh := hok.2.2.2
  have HL := Lib.hid hl; have HH := Lib.hid hh; clear hl hh
  go_enter Try.func59, Try.ntmps59
  go_wp2_with (first
    | ((with_reducible refine (point_any r.lo _ HL.out).mono ?_); rintro e w1 ⟨rfl, rfl⟩)
    | ((with_reducible refine (point_any r.hi _ HH.out).mono ?_); rintro e w1 ⟨rfl, rfl⟩))
  all_goals go_ret
  all_goals refine ⟨ret_bool ?_, rfl⟩
  all_goals simp_all [mayR, flt]
  all_goals omega

set_option maxHeartbeats 1000000 in
theorem rmay_any (r : Rg) (w : World) (hok : r.ok) :
    Calls Try.prog 65 #[r.val] w fun e w' => e = .returned (.bool (mayR r)) ∧ w.alloc (.cells #[.int .i64 r.id, .int .i64 r.ep, .float .f64 r.lo, .float .f64 r.hi] 24) = w' := by
  have hl := hok.2.2.1
  have hh := hok.2.2.2
  have HL := Lib.hid hl; have HH := Lib.hid hh; clear hl hh
  go_enter Try.func65, Try.ntmps65
  go_wp2_with (first
    | ((with_reducible refine (is_any r.lo _ HL.out).mono ?_); rintro e w1 ⟨rfl, rfl⟩)
    | ((with_reducible refine (is_any r.hi _ HH.out).mono ?_); rintro e w1 ⟨rfl, rfl⟩))
  all_goals go_ret
  all_goals refine ⟨ret_bool ?_, rfl⟩
  all_goals simp_all [mayR, flt]
  all_goals omega

end Go.Proofs.Ytipacjbegfingaa
