/- The walks of Point and Mid, of the program and of the document's answer. -/
import Derived.Test.YtbclfcfcpmlaaaaPa
import Derived.Test.YtbclfcfcpmlaaaaFlm
namespace Go.Proofs.Ytbclfcfcpmlaaaa
open Go.RowKit Fl
theorem ret_fi {a b : Nat} {x y : Int} (h : a = b) (h' : x = y) : Ending.returned (.tuple #[.float .f64 a, .int .i64 x]) = .returned (.tuple #[.float .f64 b, .int .i64 y]) := by rw [h, h']

theorem pv_zero : pointV 9223372036854775808 = 0 := rfl
theorem pe_zero : pointE 9223372036854775808 = 0 := rfl
theorem pv_yes {a : Nat} (h : ptB a = true) : pointV a = a := by unfold pointV; rw [if_pos h]
theorem pe_yes {a : Nat} (h : ptB a = true) : pointE a = 0 := by unfold pointE; rw [h]; rfl
theorem pv_no {a : Nat} (h : ptB a = false) : pointV a = 0 := by unfold pointV; rw [h]; rfl
theorem pe_no {a : Nat} (h : ptB a = false) (h' : ¬ a = 9223372036854775808) : pointE a = 1 := by unfold pointE; rw [h, decide_eq_false h']; rfl

set_option maxHeartbeats 400000 in
theorem point (a : Nat) (w : World) (ha : a < 18446744073709551616) :
    Calls Try.prog 17 #[.float .f64 a] w fun e w' => e = .returned (.tuple #[.float .f64 (pointV a), .int .i64 (pointE a)]) ∧ w = w' := by
  have h4 := class4 a ha
  generalize hk : classI (canonB a) = k at h4
  have H := Lib.hid hk; clear hk
  by_cases hz : a = 9223372036854775808
  · subst hz
    have g4 : (k == 4) = true := by rw [h4]; rfl
    clear h4
    go_enter Try.func17, Try.ntmps17
    go_wp2_with ((with_reducible refine (class_any _ _).mono ?_); rw [H.out]; rintro e w' ⟨rfl, rfl⟩)
    go_ret2
    exact ⟨rfl, rfl⟩
  · have g4 : (k == 4) = false := by rw [h4]; exact decide_eq_false hz
    clear h4
    have HZ := Lib.hid hz; clear hz
    rcases Bool.eq_false_or_eq_true (ptB a) with h1 | h1
    all_goals
      have H1 := Lib.hid h1
      go_enter Try.func17, Try.ntmps17
      go_wp2_with (first | ((with_reducible refine (class_any _ _).mono ?_); rw [H.out]; rintro e w' ⟨rfl, rfl⟩) | ((with_reducible refine (point_any _ _ ha).mono ?_); rintro e w' ⟨rfl, rfl⟩))
      go_ret2
    · exact ⟨ret_fi (pv_yes H1.out).symm (pe_yes H1.out).symm, rfl⟩
    · exact ⟨ret_fi (pv_no H1.out).symm (pe_no H1.out HZ.out).symm, rfl⟩

set_option maxHeartbeats 400000 in
theorem rpoint (a : Nat) (w : World) (ha : a < 18446744073709551616) :
    Calls Try.prog 18 #[.float .f64 a] w fun e w' => e = .returned (.tuple #[.float .f64 (pointV a), .int .i64 (pointE a)]) ∧ w = w' := by
  have h4 : (FloatKind.f64.format.order a 0 == some Ordering.eq) = decide (a = 0 ∨ a = 9223372036854775808) := feq_zero a ha
  by_cases hz : a = 0 ∨ a = 9223372036854775808
  · rcases hz with rfl | rfl
    all_goals
      clear h4
      go_enter Try.func18, Try.ntmps18
      go_wp2
      go_ret2
      exact ⟨rfl, rfl⟩
  · have g4 : (FloatKind.f64.format.order a 0 == some Ordering.eq) = false := by rw [h4]; exact decide_eq_false hz
    clear h4
    have HZ := Lib.hid hz; clear hz
    rcases Bool.eq_false_or_eq_true (ptB a) with h1 | h1
    all_goals
      have H1 := Lib.hid h1
      go_enter Try.func18, Try.ntmps18
      go_wp2_with (((with_reducible refine (is_any _ _ ha).mono ?_); rintro e w' ⟨rfl, rfl⟩))
      go_ret2
    · exact ⟨ret_fi (pv_yes H1.out).symm (pe_yes H1.out).symm, rfl⟩
    · exact ⟨ret_fi (pv_no H1.out).symm (pe_no H1.out (fun h => HZ.out (.inr h))).symm, rfl⟩

theorem mn1 {lo hi : Nat} (h : ptB lo = false) : midV lo hi = 0 ∧ midE lo hi = 1 := by unfold midV midE; rw [h]; exact ⟨rfl, rfl⟩
theorem mn2 {lo hi : Nat} (h : ptB lo = true) (h2 : ptB hi = false) : midV lo hi = 0 ∧ midE lo hi = 1 := by unfold midV midE; rw [h, h2]; exact ⟨rfl, rfl⟩
theorem mn3 {lo hi : Nat} (h : ptB lo = true) (h2 : ptB hi = true) (h3 : flt lo hi = false) : midV lo hi = 0 ∧ midE lo hi = 1 := by unfold midV midE; rw [h, h2, h3]; exact ⟨rfl, rfl⟩
theorem my {lo hi : Nat} (h : ptB lo = true) (h2 : ptB hi = true) (h3 : flt lo hi = true) (h4 : inB lo hi (midB lo hi) = true) : midV lo hi = midB lo hi ∧ midE lo hi = 0 := by unfold midV midE; rw [h, h2, h3, h4]; exact ⟨rfl, rfl⟩
theorem mn4 {lo hi : Nat} (h : ptB lo = true) (h2 : ptB hi = true) (h3 : flt lo hi = true) (h4 : inB lo hi (midB lo hi) = false) : midV lo hi = 0 ∧ midE lo hi = 24 := by unfold midV midE; rw [h, h2, h3, h4]; exact ⟨rfl, rfl⟩

theorem fin {lo hi x : Nat} {e : Int} {w : World} (h : midV lo hi = x ∧ midE lo hi = e) :
    Ending.returned (.tuple #[.float .f64 x, .int .i64 e]) = .returned (.tuple #[.float .f64 (midV lo hi), .int .i64 (midE lo hi)]) ∧ w = w := ⟨ret_fi h.1.symm h.2.symm, rfl⟩

set_option maxHeartbeats 1000000 in
theorem mid (lo hi : Nat) (w : World) (hl : lo < 18446744073709551616) (hh : hi < 18446744073709551616) :
    Calls Try.prog 19 #[.float .f64 lo, .float .f64 hi] w fun e w' => e = .returned (.tuple #[.float .f64 (midV lo hi), .int .i64 (midE lo hi)]) ∧ w = w' := by
  rcases Bool.eq_false_or_eq_true (ptB lo) with h1 | h1
  · rcases Bool.eq_false_or_eq_true (ptB hi) with h2 | h2
    · have H1 := Lib.hid h1
      have H2 := Lib.hid h2
      rcases Bool.eq_false_or_eq_true (FloatKind.f64.format.order lo hi == some Ordering.lt) with h3 | h3
      · have H3 := Lib.hid h3
        obtain ⟨s1, s2, s3⟩ := mid_steps h1 h2
        have r1 := fun w => run_float_arith (P := Try.prog) w .sub 23 .f64 hi lo _ s1
        have r2 := fun w => run_float_arith (P := Try.prog) w .quo 23 .f64 (subB hi lo) 4611686018427387904 _ s2
        have r3 := fun w => run_float_arith (P := Try.prog) w .add 23 .f64 lo (halfB (subB hi lo)) _ s3
        clear s1 s2 s3
        have hgt := fgt_flt (midB lo hi) lo
        rcases Bool.eq_false_or_eq_true (FloatKind.f64.format.order (midB lo hi) lo == some Ordering.gt) with h4 | h4
        · have H4 := Lib.hid (h4 ▸ hgt.symm : flt lo (midB lo hi) = true)
          clear hgt
          rcases Bool.eq_false_or_eq_true (FloatKind.f64.format.order (midB lo hi) hi == some Ordering.lt) with h5 | h5
          all_goals
            have H5 := Lib.hid h5
            go_enter Try.func19, Try.ntmps19
            go_wp2_with (((with_reducible refine (point_any _ _ (by assumption)).mono ?_); rintro e w' ⟨rfl, rfl⟩))
            go_ret2
          · exact fin (my H1.out H2.out H3.out (by unfold inB; rw [H4.out]; exact H5.out))
          · exact fin (mn4 H1.out H2.out H3.out (by unfold inB; rw [H4.out]; exact H5.out))
        · have H4 := Lib.hid (h4 ▸ hgt.symm : flt lo (midB lo hi) = false)
          clear hgt
          go_enter Try.func19, Try.ntmps19
          go_wp2_with (((with_reducible refine (point_any _ _ (by assumption)).mono ?_); rintro e w' ⟨rfl, rfl⟩))
          go_ret2
          exact fin (mn4 H1.out H2.out H3.out (by unfold inB; rw [H4.out]; rfl))
      · have H3 := Lib.hid h3
        go_enter Try.func19, Try.ntmps19
        go_wp2_with (((with_reducible refine (point_any _ _ (by assumption)).mono ?_); rintro e w' ⟨rfl, rfl⟩))
        go_ret2
        exact fin (mn3 H1.out H2.out H3.out)
    · have H1 := Lib.hid h1
      have H2 := Lib.hid h2
      go_enter Try.func19, Try.ntmps19
      go_wp2_with (((with_reducible refine (point_any _ _ (by assumption)).mono ?_); rintro e w' ⟨rfl, rfl⟩))
      go_ret2
      exact fin (mn2 H1.out H2.out)
  · have H1 := Lib.hid h1
    go_enter Try.func19, Try.ntmps19
    go_wp2_with (((with_reducible refine (point_any _ _ (by assumption)).mono ?_); rintro e w' ⟨rfl, rfl⟩))
    go_ret2
    exact fin (mn1 H1.out)
set_option maxHeartbeats 1000000 in
theorem rmid (lo hi : Nat) (w : World) (hl : lo < 18446744073709551616) (hh : hi < 18446744073709551616) :
    Calls Try.prog 20 #[.float .f64 lo, .float .f64 hi] w fun e w' => e = .returned (.tuple #[.float .f64 (midV lo hi), .int .i64 (midE lo hi)]) ∧ w = w' := by
  rcases Bool.eq_false_or_eq_true (ptB lo) with h1 | h1
  · rcases Bool.eq_false_or_eq_true (ptB hi) with h2 | h2
    · have H1 := Lib.hid h1
      have H2 := Lib.hid h2
      rcases Bool.eq_false_or_eq_true (FloatKind.f64.format.order lo hi == some Ordering.lt) with h3 | h3
      · have H3 := Lib.hid h3
        obtain ⟨s1, s2, s3⟩ := mid_steps h1 h2
        have r1 := fun w => run_float_arith (P := Try.prog) w .sub 23 .f64 hi lo _ s1
        have r2 := fun w => run_float_arith (P := Try.prog) w .quo 23 .f64 (subB hi lo) 4611686018427387904 _ s2
        have r3 := fun w => run_float_arith (P := Try.prog) w .add 23 .f64 lo (halfB (subB hi lo)) _ s3
        clear s1 s2 s3
        rcases Bool.eq_false_or_eq_true (FloatKind.f64.format.order lo (midB lo hi) == some Ordering.lt) with h4 | h4
        · have H4 := Lib.hid (show flt lo (midB lo hi) = true from h4)
          rcases Bool.eq_false_or_eq_true (FloatKind.f64.format.order (midB lo hi) hi == some Ordering.lt) with h5 | h5
          all_goals
            have H5 := Lib.hid h5
            go_enter Try.func20, Try.ntmps20
            go_wp2_with (((with_reducible refine (is_any _ _ (by assumption)).mono ?_); rintro e w' ⟨rfl, rfl⟩))
            go_ret2
          · exact fin (my H1.out H2.out H3.out (by unfold inB; rw [H4.out]; exact H5.out))
          · exact fin (mn4 H1.out H2.out H3.out (by unfold inB; rw [H4.out]; exact H5.out))
        · have H4 := Lib.hid (show flt lo (midB lo hi) = false from h4)
          go_enter Try.func20, Try.ntmps20
          go_wp2_with (((with_reducible refine (is_any _ _ (by assumption)).mono ?_); rintro e w' ⟨rfl, rfl⟩))
          go_ret2
          exact fin (mn4 H1.out H2.out H3.out (by unfold inB; rw [H4.out]; rfl))
      · have H3 := Lib.hid h3
        go_enter Try.func20, Try.ntmps20
        go_wp2_with (((with_reducible refine (is_any _ _ (by assumption)).mono ?_); rintro e w' ⟨rfl, rfl⟩))
        go_ret2
        exact fin (mn3 H1.out H2.out H3.out)
    · have H1 := Lib.hid h1
      have H2 := Lib.hid h2
      go_enter Try.func20, Try.ntmps20
      go_wp2_with (((with_reducible refine (is_any _ _ (by assumption)).mono ?_); rintro e w' ⟨rfl, rfl⟩))
      go_ret2
      exact fin (mn2 H1.out H2.out)
  · have H1 := Lib.hid h1
    go_enter Try.func20, Try.ntmps20
    go_wp2_with (((with_reducible refine (is_any _ _ (by assumption)).mono ?_); rintro e w' ⟨rfl, rfl⟩))
    go_ret2
    exact fin (mn1 H1.out)
end Go.Proofs.Ytbclfcfcpmlaaaa
