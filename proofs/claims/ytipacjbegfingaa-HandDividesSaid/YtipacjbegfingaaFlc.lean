/- Plain facts: which words are points, which class a word is of; no program in sight. -/
import Derived.Test.YtipacjbegfingaaFl
namespace Go.Proofs.Ytipacjbegfingaa.Fl
open Ieee

def dnan (a : Nat) : Bool := FloatKind.f64.format.order a a != some Ordering.eq
def canonB (a : Nat) : Nat := if dnan a then 9221120237041090560 else a
def ptB (x : Nat) : Bool := decide (x ≤ 4607182418800017408)

/-- the class, in the walk's own spelling -/
def eI (c : Int) : Int := bits BinOp.and IntKind.u64 (c / 4503599627370496) 2047
def fI (c : Int) : Int := bits BinOp.and IntKind.u64 c 4503599627370495
def sI (c : Int) : Int := bits BinOp.and IntKind.u64 c 9223372036854775808

theorem eI_nat (c : Nat) (h : c < 18446744073709551616) : eI c = ((c / 4503599627370496 % 2048 : Nat) : Int) := by
  unfold eI
  rw [show ((c : Int) / 4503599627370496) = ((c / 4503599627370496 : Nat) : Int) from by omega, show (2047 : Int) = ((2047 : Nat) : Int) from rfl, u64_and_nat _ _ (by omega) (by omega)]
  rw [show (2047 : Nat) = 2 ^ 11 - 1 from rfl, Nat.and_two_pow_sub_one_eq_mod]
theorem fI_nat (c : Nat) (h : c < 18446744073709551616) : fI c = ((c % 4503599627370496 : Nat) : Int) := by
  unfold fI
  rw [show (4503599627370495 : Int) = ((4503599627370495 : Nat) : Int) from rfl, u64_and_nat _ _ h (by omega)]
  rw [show (4503599627370495 : Nat) = 2 ^ 52 - 1 from rfl, Nat.and_two_pow_sub_one_eq_mod]
theorem sI_nat (c : Nat) (h : c < 18446744073709551616) : sI c = ((c / 9223372036854775808 % 2 * 9223372036854775808 : Nat) : Int) := by
  unfold sI
  rw [show (9223372036854775808 : Int) = ((9223372036854775808 : Nat) : Int) from rfl, u64_and_nat _ _ h (by omega)]
  rw [show (9223372036854775808 : Nat) = 2 ^ 63 from rfl, nat_bit]

def kI (c : Int) : Int := if eI c = 2047 then 8 else if 0 < eI c then 7 else if 0 < fI c then 6 else 5
def classI (c : Int) : Int := if eI c = 2047 ∧ fI c ≠ 0 then 0 else if sI c ≠ 0 then 9 - kI c else kI c

theorem dnan_K (a : Nat) : dnan a = (K a).isNone := by
  unfold dnan
  rw [order_K]
  cases K a <;> simp

theorem dnan_iff {a : Nat} : dnan a = decide (9218868437227405312 < a % 9223372036854775808) := by
  rw [dnan_K]
  unfold K
  by_cases h : a % 9223372036854775808 ≤ 9218868437227405312
  · rw [if_pos h, decide_eq_false (by omega)]; rfl
  · rw [if_neg h, decide_eq_true (by omega)]; rfl

theorem canonB_lt {a : Nat} (h : a < 18446744073709551616) : canonB a < 18446744073709551616 := by
  unfold canonB; split <;> omega

theorem class_cases (a : Nat) (h : a < 18446744073709551616) : classI (canonB a : Nat) =
    if 9218868437227405312 < a % 9223372036854775808 then 0
    else if a < 9223372036854775808 then (if a = 9218868437227405312 then 8 else if 4503599627370496 ≤ a then 7 else if 0 < a then 6 else 5)
    else (if a = 18442240474082181120 then 1 else if 9227875636482146304 ≤ a then 2 else if 9223372036854775808 < a then 3 else 4) := by
  unfold canonB
  rw [dnan_iff]
  by_cases h1 : 9218868437227405312 < a % 9223372036854775808
  · rw [if_pos (decide_eq_true h1), if_pos h1]
    unfold classI
    rw [eI_nat _ (by omega), fI_nat _ (by omega)]
    rfl
  · rw [if_neg (by simpa using h1), if_neg h1]
    unfold classI kI
    rw [eI_nat _ h, fI_nat _ h, sI_nat _ h]
    generalize he : a / 4503599627370496 % 2048 = e
    generalize hf : a % 4503599627370496 = f
    generalize hs : a / 9223372036854775808 % 2 * 9223372036854775808 = g
    repeat' split
    all_goals omega

/-- comparisons of words, as the model has them -/
def flt (a b : Nat) : Bool := FloatKind.f64.format.order a b == some Ordering.lt
def fgt (a b : Nat) : Bool := FloatKind.f64.format.order a b == some Ordering.gt
def feq (a b : Nat) : Bool := FloatKind.f64.format.order a b == some Ordering.eq

theorem flt_K (a b : Nat) : flt a b = (match K a, K b with | some x, some y => decide (x < y) | _, _ => false) := by
  unfold flt; rw [order_K]
  cases K a <;> cases K b <;> simp [← cmp_lt]
theorem fgt_K (a b : Nat) : fgt a b = (match K a, K b with | some x, some y => decide (y < x) | _, _ => false) := by
  unfold fgt; rw [order_K]
  cases K a <;> cases K b <;> simp [← cmp_gt]
theorem feq_K (a b : Nat) : feq a b = (match K a, K b with | some x, some y => decide (x = y) | _, _ => false) := by
  unfold feq; rw [order_K]
  cases K a <;> cases K b <;> simp [← cmp_eq]
theorem fgt_flt (a b : Nat) : fgt a b = flt b a := by
  rw [fgt_K, flt_K]; cases K a <;> cases K b <;> rfl

theorem flt_pt {a b : Nat} (ha : a ≤ 9218868437227405312) (hb : b ≤ 9218868437227405312) : flt a b = decide (a < b) := by
  rw [flt_K, K_pos ha, K_pos hb]
  simp only [Int.ofNat_lt, U_lt_iff]
theorem feq_pt {a b : Nat} (ha : a ≤ 9218868437227405312) (hb : b ≤ 9218868437227405312) : feq a b = decide (a = b) := by
  rw [feq_K, K_pos ha, K_pos hb]
  by_cases h : a = b
  · subst h; simp
  · simp only [Int.ofNat_inj]; rw [decide_eq_false h, decide_eq_false (fun e => h (U_inj e))]

/-- not above 1: the comparison of any word with 1 -/
theorem le_one {a : Nat} (h : a < 9223372036854775808) : (flt a 4607182418800017408 || feq a 4607182418800017408) = ptB a := by
  by_cases h1 : a ≤ 9218868437227405312
  · rw [flt_pt h1 (by omega), feq_pt h1 (by omega)]
    unfold ptB
    by_cases h2 : a < 4607182418800017408
    · rw [decide_eq_true h2, decide_eq_true (show a ≤ 4607182418800017408 by omega)]; rfl
    · rw [decide_eq_false h2]
      by_cases h3 : a = 4607182418800017408
      · subst h3; rfl
      · rw [decide_eq_false h3, decide_eq_false (show ¬ a ≤ 4607182418800017408 by omega)]; rfl
  · have hk : K a = none := by unfold K; rw [if_neg (by omega)]
    rw [flt_K, feq_K, hk]
    unfold ptB
    rw [decide_eq_false (by omega)]; rfl

theorem point_is (a : Nat) (h : a < 18446744073709551616) : (decide (5 ≤ classI (canonB a : Nat)) && (flt a 4607182418800017408 || feq a 4607182418800017408)) = ptB a := by
  rw [class_cases a h]
  by_cases h0 : a < 9223372036854775808
  · rw [le_one h0]
    have e : a % 9223372036854775808 = a := Nat.mod_eq_of_lt h0
    rw [e, if_pos h0]
    unfold ptB
    by_cases h1 : 9218868437227405312 < a
    · rw [if_pos h1, decide_eq_false (show ¬ a ≤ 4607182418800017408 by omega)]; rfl
    · rw [if_neg h1]
      have : decide ((5 : Int) ≤ if a = 9218868437227405312 then 8 else if 4503599627370496 ≤ a then 7 else if 0 < a then 6 else 5) = true := by
        apply decide_eq_true; split; omega; split; omega; split <;> omega
      rw [this]; rfl
  · rw [if_neg h0]
    have : ∀ p : Prop, [Decidable p] → decide ((5 : Int) ≤ if p then 0 else if a = 18442240474082181120 then 1 else if 9227875636482146304 ≤ a then 2 else if 9223372036854775808 < a then 3 else 4) = false := by
      intro p _; apply decide_eq_false; split; omega; split; omega; split; omega; split <;> omega
    rw [this]
    unfold ptB
    rw [decide_eq_false (show ¬ a ≤ 4607182418800017408 by omega)]; rfl

theorem is_is (a : Nat) (h : a < 18446744073709551616) : (((a : Int) == 0) || (fgt a 0 && (flt a 4607182418800017408 || feq a 4607182418800017408))) = ptB a := by
  by_cases h0 : a < 9223372036854775808
  · rw [le_one h0]
    by_cases hz : a = 0
    · subst hz; rfl
    · have e : ((a : Int) == 0) = false := by simpa using hz
      rw [e, Bool.false_or]
      by_cases h1 : a ≤ 9218868437227405312
      · have g : fgt a 0 = true := by rw [fgt_flt, flt_pt (by omega) h1]; exact decide_eq_true (by omega)
        rw [g]; rfl
      · unfold ptB
        rw [decide_eq_false (show ¬ a ≤ 4607182418800017408 by omega), Bool.and_false]
  · have e : ((a : Int) == 0) = false := by have : a ≠ 0 := by omega
                                            simpa using this
    have g : fgt a 0 = false := by
      rw [fgt_K, show K 0 = some 0 from rfl]
      by_cases h2 : a % 9223372036854775808 ≤ 9218868437227405312
      · have t : (a / 9223372036854775808 % 2 == 1) = true := by simp; omega
        have k : K a = some (sg true (U (a % 9223372036854775808))) := by unfold K; rw [if_pos h2, t]
        rw [k]
        exact decide_eq_false (by unfold sg; simp)
      · have k : K a = none := by unfold K; rw [if_neg h2]
        rw [k]
    rw [e, g]
    unfold ptB
    rw [decide_eq_false (show ¬ a ≤ 4607182418800017408 by omega)]; rfl

theorem class4 (a : Nat) (h : a < 18446744073709551616) : ((classI (canonB a : Nat)) == 4) = decide (a = 9223372036854775808) := by
  rw [class_cases a h]
  by_cases h0 : a = 9223372036854775808
  · subst h0; rfl
  · rw [decide_eq_false h0]
    simp only [beq_eq_false_iff_ne]
    split; omega
    split
    · split; omega; split; omega; split <;> omega
    · split; omega; split; omega; split <;> omega

/-- 'x == 0' of any word -/
theorem feq_zero (a : Nat) (h : a < 18446744073709551616) : feq a 0 = decide (a = 0 ∨ a = 9223372036854775808) := by
  rw [feq_K, show K 0 = some 0 from rfl]
  unfold K
  by_cases h1 : a % 9223372036854775808 ≤ 9218868437227405312
  · rw [if_pos h1]
    simp only
    by_cases h2 : a % 9223372036854775808 = 0
    · rw [h2, U_zero, decide_eq_true (show a = 0 ∨ a = 9223372036854775808 by omega)]
      unfold sg; split <;> rfl
    · have p : 0 < U (a % 9223372036854775808) := U_lt (r := 0) (by omega)
      rw [decide_eq_false (show ¬ (a = 0 ∨ a = 9223372036854775808) by omega)]
      apply decide_eq_false
      unfold sg; split <;> omega
  · rw [if_neg h1, decide_eq_false (by omega)]
end Go.Proofs.Ytipacjbegfingaa.Fl
