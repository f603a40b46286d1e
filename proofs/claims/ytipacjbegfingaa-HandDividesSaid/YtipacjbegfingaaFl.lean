/- Plain facts about the words of IEEE doubles: which order they stand in, no program in sight. -/
import Derived.Laws.FloatArith
import Derived.Laws.FloatBits
import Derived.Laws.BitsAllLaws
namespace Go.Proofs.Ytipacjbegfingaa.Fl
open Ieee

/-- magnitude and step of a rung, in units of 2 ^ -1074 -/
def mg (r : Nat) : Nat := if r < 4503599627370496 then r else 4503599627370496 + r % 4503599627370496
def st (r : Nat) : Nat := r / 4503599627370496 - 1
def U (r : Nat) : Nat := mg r * 2 ^ st r

theorem U_succ (r : Nat) : U (r + 1) = U r + 2 ^ st r := by
  unfold U mg st
  by_cases h1 : r + 1 < 4503599627370496
  · have a : r / 4503599627370496 - 1 = 0 := by omega
    have b : (r + 1) / 4503599627370496 - 1 = 0 := by omega
    rw [if_pos h1, if_pos (by omega), a, b]; omega
  · rw [if_neg h1]
    by_cases h2 : r < 4503599627370496
    · have e : r = 4503599627370495 := by omega
      subst e; rfl
    · rw [if_neg h2]
      by_cases h3 : r % 4503599627370496 = 4503599627370495
      · have a : (r + 1) % 4503599627370496 = 0 := by omega
        have b : (r + 1) / 4503599627370496 - 1 = r / 4503599627370496 - 1 + 1 := by omega
        rw [a, b, h3, Nat.pow_succ]
        generalize 2 ^ (r / 4503599627370496 - 1) = p
        omega
      · have a : (r + 1) % 4503599627370496 = r % 4503599627370496 + 1 := by omega
        have b : (r + 1) / 4503599627370496 - 1 = r / 4503599627370496 - 1 := by omega
        rw [a, b, ← Nat.add_assoc, Nat.add_mul, Nat.one_mul]

theorem U_lt {r s : Nat} (h : r < s) : U r < U s := by
  induction s with
  | zero => omega
  | succ s ih =>
    have p : 0 < 2 ^ st s := Nat.two_pow_pos _
    rw [U_succ]
    by_cases e : r = s
    · subst e; omega
    · have := ih (by omega); omega
theorem U_le {r s : Nat} (h : r ≤ s) : U r ≤ U s := by
  rcases Nat.lt_or_ge r s with a | a
  · exact Nat.le_of_lt (U_lt a)
  · rw [Nat.le_antisymm h a]; exact Nat.le_refl _
theorem U_lt_iff {r s : Nat} : U r < U s ↔ r < s := ⟨fun h => by
  rcases Nat.lt_or_ge r s with a | a
  · exact a
  · have := U_le a; omega, U_lt⟩
theorem U_inj {r s : Nat} (h : U r = U s) : r = s := by
  rcases Nat.lt_trichotomy r s with a | a | a
  · have := U_lt a; omega
  · exact a
  · have := U_lt a; omega
theorem U_zero : U 0 = 0 := rfl

/-- the sign laid on -/
def sg (s : Bool) (n : Nat) : Int := if s then -(n : Int) else n

/-- what a word stands for, in units; none: a NaN -/
def K (x : Nat) : Option Int :=
  if x % 9223372036854775808 ≤ 9218868437227405312 then some (sg (x / 9223372036854775808 % 2 == 1) (U (x % 9223372036854775808))) else none

theorem read_word (x : Nat) : double.read x =
    if x % 9223372036854775808 < 9218868437227405312 then
      .number (x / 9223372036854775808 % 2 == 1) (mg (x % 9223372036854775808)) (-1074 + (st (x % 9223372036854775808) : Int))
    else if x % 9223372036854775808 = 9218868437227405312 then .infinity (x / 9223372036854775808 % 2 == 1)
    else .nan (x / 9223372036854775808 % 2 == 1) (x % 9223372036854775808 - 9218868437227405312) := by
  have hs : double.signWeight = 9223372036854775808 := by decide
  have hb : double.binade = 4503599627370496 := by decide
  have hi : double.infRung = 9218868437227405312 := by decide
  have hl : double.leastPlace = -1074 := by decide
  unfold Format.read
  simp only [hs, hb, hi, hl]
  generalize x % 9223372036854775808 = r
  generalize (x / 9223372036854775808 % 2 == 1) = s
  by_cases h1 : r < 4503599627370496
  · have a : st r = 0 := by unfold st; omega
    rw [if_pos h1, if_pos (by omega), a]
    unfold mg
    rw [if_pos h1]
    rfl
  · rw [if_neg h1]
    by_cases h2 : r < 9218868437227405312
    · rw [if_pos h2, if_pos h2]
      unfold mg st
      rw [if_neg h1]
    · rw [if_neg h2, if_neg h2]

theorem signed_eq (s : Bool) (m k : Nat) : signed s m k = sg s (m * 2 ^ k) := by
  unfold signed sg
  rw [Nat.shiftLeft_eq]

theorem sg_mul (s : Bool) (n k : Nat) : sg s (n * k) = sg s n * (k : Int) := by
  unfold sg; split <;> simp [Int.neg_mul]

theorem compare_mul (a b : Int) (k : Nat) (hk : 0 < k) : compare (a * (k : Int)) (b * (k : Int)) = compare a b := by
  have hk' : (0 : Int) < k := by omega
  rcases Int.lt_trichotomy a b with h | h | h
  · rw [Int.compare_eq_lt.2 h, Int.compare_eq_lt.2 (Int.mul_lt_mul_of_pos_right h hk')]
  · subst h; simp
  · rw [Int.compare_eq_gt.2 h, Int.compare_eq_gt.2 (Int.mul_lt_mul_of_pos_right h hk')]

theorem order_num (s t : Bool) (m n i j : Nat) : Datum.order (.number s m (-1074 + (i : Int))) (.number t n (-1074 + (j : Int))) = some (compare (sg s (m * 2 ^ i)) (sg t (n * 2 ^ j))) := by
  simp only [Datum.order, signed_eq]
  congr 1
  rcases Nat.le_total i j with h | h
  · have e : min (-1074 + (i : Int)) (-1074 + (j : Int)) = -1074 + (i : Int) := by omega
    rw [e]
    have a : (-1074 + (i : Int) - (-1074 + (i : Int))).toNat = 0 := by omega
    have b : (-1074 + (j : Int) - (-1074 + (i : Int))).toNat = j - i := by omega
    rw [a, b, ← compare_mul _ _ (2 ^ i) (Nat.two_pow_pos _), ← sg_mul, ← sg_mul, Nat.mul_assoc, Nat.mul_assoc, ← Nat.pow_add, ← Nat.pow_add]
    rw [Nat.zero_add, Nat.sub_add_cancel h]
  · have e : min (-1074 + (i : Int)) (-1074 + (j : Int)) = -1074 + (j : Int) := by omega
    rw [e]
    have a : (-1074 + (i : Int) - (-1074 + (j : Int))).toNat = i - j := by omega
    have b : (-1074 + (j : Int) - (-1074 + (j : Int))).toNat = 0 := by omega
    rw [a, b, ← compare_mul _ _ (2 ^ j) (Nat.two_pow_pos _), ← sg_mul, ← sg_mul, Nat.mul_assoc, Nat.mul_assoc, ← Nat.pow_add, ← Nat.pow_add]
    rw [Nat.zero_add, Nat.sub_add_cancel h]

theorem U_fin {r : Nat} (h : r < 9218868437227405312) : U r < U 9218868437227405312 := U_lt h
theorem U_inf_pos : 0 < U 9218868437227405312 := U_lt (r := 0) (by omega)

/-- the order of two words, by what they stand for -/
theorem order_K (x y : Nat) : FloatKind.f64.format.order x y = (match K x, K y with | some a, some b => some (compare a b) | _, _ => none) := by
  show Datum.order (double.read x) (double.read y) = _
  rw [read_word, read_word]
  unfold K
  generalize x % 9223372036854775808 = r
  generalize (x / 9223372036854775808 % 2 == 1) = s
  generalize y % 9223372036854775808 = q
  generalize (y / 9223372036854775808 % 2 == 1) = t
  have hp := U_inf_pos
  rcases Nat.lt_trichotomy r 9218868437227405312 with h1 | h1 | h1
  · have f1 := U_fin h1
    have g1 : r ≤ 9218868437227405312 := Nat.le_of_lt h1
    rw [if_pos h1, if_pos g1]
    rcases Nat.lt_trichotomy q 9218868437227405312 with h2 | h2 | h2
    · have g2 : q ≤ 9218868437227405312 := Nat.le_of_lt h2
      rw [if_pos h2, if_pos g2, order_num]; rfl
    · subst h2
      have g2 : ¬ 9218868437227405312 < 9218868437227405312 := by omega
      have g3 : 9218868437227405312 ≤ 9218868437227405312 := by omega
      rw [if_neg g2, if_pos g3, if_pos rfl]
      simp only [Datum.order]
      congr 1
      cases t
      · exact (Int.compare_eq_lt.2 (by unfold sg; cases s <;> simp <;> omega)).symm
      · exact (Int.compare_eq_gt.2 (by unfold sg; cases s <;> simp <;> omega)).symm
    · have g2 : ¬ q < 9218868437227405312 := by omega
      have g3 : ¬ q = 9218868437227405312 := by omega
      have g4 : ¬ q ≤ 9218868437227405312 := by omega
      rw [if_neg g2, if_neg g3, if_neg g4]; rfl
  · subst h1
    have g1 : ¬ 9218868437227405312 < 9218868437227405312 := by omega
    have g0 : 9218868437227405312 ≤ 9218868437227405312 := by omega
    rw [if_neg g1, if_pos g0, if_pos rfl]
    rcases Nat.lt_trichotomy q 9218868437227405312 with h2 | h2 | h2
    · have f2 := U_fin h2
      have g2 : q ≤ 9218868437227405312 := Nat.le_of_lt h2
      rw [if_pos h2, if_pos g2]
      simp only [Datum.order]
      congr 1
      cases s
      · exact (Int.compare_eq_gt.2 (by unfold sg; cases t <;> simp <;> omega)).symm
      · exact (Int.compare_eq_lt.2 (by unfold sg; cases t <;> simp <;> omega)).symm
    · subst h2
      rw [if_neg g1, if_pos g0, if_pos rfl]
      simp only [Datum.order]
      congr 1
      cases s <;> cases t
      · simp [sg]
      · exact (Int.compare_eq_gt.2 (by unfold sg; simp; omega)).symm
      · exact (Int.compare_eq_lt.2 (by unfold sg; simp; omega)).symm
      · simp [sg]
    · have g2 : ¬ q < 9218868437227405312 := by omega
      have g3 : ¬ q = 9218868437227405312 := by omega
      have g4 : ¬ q ≤ 9218868437227405312 := by omega
      rw [if_neg g2, if_neg g3, if_neg g4]; rfl
  · have g2 : ¬ r < 9218868437227405312 := by omega
    have g3 : ¬ r = 9218868437227405312 := by omega
    have g4 : ¬ r ≤ 9218868437227405312 := by omega
    rw [if_neg g2, if_neg g3, if_neg g4]; rfl

/-- the points' bound: the word of 1 -/
def one : Nat := 4607182418800017408
theorem one_eq : one = 4607182418800017408 := rfl

theorem K_pos {x : Nat} (h : x ≤ 9218868437227405312) : K x = some (U x : Int) := by
  unfold K
  have a : x % 9223372036854775808 = x := Nat.mod_eq_of_lt (by omega)
  have b : x / 9223372036854775808 = 0 := by omega
  rw [a, b, if_pos h]; rfl

theorem cmp_lt (a b : Int) : (compare a b == Ordering.lt) = decide (a < b) := by
  rcases Int.lt_trichotomy a b with h | h | h
  · simp [Int.compare_eq_lt.2 h, h]
  · subst h; simp
  · rw [Int.compare_eq_gt.2 h, decide_eq_false (by omega)]; rfl
theorem cmp_gt (a b : Int) : (compare a b == Ordering.gt) = decide (b < a) := by
  rcases Int.lt_trichotomy a b with h | h | h
  · rw [Int.compare_eq_lt.2 h, decide_eq_false (by omega)]; rfl
  · subst h; simp
  · simp [Int.compare_eq_gt.2 h, h]
theorem cmp_eq (a b : Int) : (compare a b == Ordering.eq) = decide (a = b) := by
  rcases Int.lt_trichotomy a b with h | h | h
  · rw [Int.compare_eq_lt.2 h, decide_eq_false (by omega)]; rfl
  · subst h; simp
  · rw [Int.compare_eq_gt.2 h, decide_eq_false (by omega)]; rfl
end Go.Proofs.Ytipacjbegfingaa.Fl
