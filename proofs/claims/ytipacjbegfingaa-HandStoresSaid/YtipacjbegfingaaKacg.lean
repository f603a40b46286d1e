/- Plain facts: a word that is rounded stands beside the exact number; sums, differences, halves of points; no program in sight. -/
import Derived.Test.YtipacjbegfingaaKaab
namespace Go.Proofs.Ytipacjbegfingaa.Fl
open Ieee

theorem log2_lt (m : Nat) : m < 2 ^ (m.log2 + 1) := Nat.lt_log2_self
theorem log2_ge {m : Nat} (h : m ≠ 0) : 2 ^ m.log2 ≤ m := Nat.log2_self_le h

theorem cut_spec (n drop : Nat) : ∃ low, low * 2 ^ drop ≤ n ∧ n < (low + 1) * 2 ^ drop ∧
    (Toward.even.cut false n drop = low ∨ (Toward.even.cut false n drop = low + 1 ∧ n ≠ low * 2 ^ drop)) := by
  unfold Toward.cut
  rcases Nat.le_total drop (n.log2 + 2) with h | h
  · rw [Nat.min_eq_left h]
    simp only [Nat.shiftLeft_eq, Nat.one_mul]
    have hp : 0 < 2 ^ drop := Nat.two_pow_pos _
    generalize 2 ^ drop = g at hp
    refine ⟨n / g, Nat.div_mul_le_self n g, by rw [Nat.add_mul, Nat.one_mul]; have := Nat.div_add_mod' n g; have := Nat.mod_lt n hp; omega, ?_⟩
    generalize hb : (decide (g < 2 * (n % g)) || (g == 2 * (n % g) && n / g % 2 == 1)) = b
    cases b
    · exact .inl rfl
    · refine .inr ⟨rfl, fun e => ?_⟩
      have hr : n % g = 0 := by rw [e]; exact Nat.mul_mod_left _ _
      rw [hr] at hb
      simp only [Nat.mul_zero] at hb
      have h1 : decide (g < 0) = false := decide_eq_false (by omega)
      have h2 : (g == 0) = false := by simp; omega
      rw [h1, h2] at hb
      simp at hb
  · rw [Nat.min_eq_right h]
    simp only [Nat.shiftLeft_eq, Nat.one_mul]
    have hn : n < 2 ^ (n.log2 + 1) := log2_lt n
    have h2 : 2 ^ (n.log2 + 2) = 2 * 2 ^ (n.log2 + 1) := by rw [Nat.pow_succ]; omega
    have hd : 2 ^ (n.log2 + 2) ≤ 2 ^ drop := Nat.pow_le_pow_right (by omega) h
    have e0 : n / 2 ^ (n.log2 + 2) = 0 := Nat.div_eq_of_lt (by omega)
    have e1 : n % 2 ^ (n.log2 + 2) = n := Nat.mod_eq_of_lt (by omega)
    refine ⟨0, by omega, by omega, .inl ?_⟩
    rw [e0, e1]
    have c1 : decide (2 ^ (n.log2 + 2) < 2 * n) = false := decide_eq_false (by omega)
    have c2 : (2 ^ (n.log2 + 2) == 2 * n) = false := by simp; omega
    simp only [c1, c2]
    rfl

theorem U_small {r : Nat} (h : r < 9007199254740992) : U r = r ∧ st r = 0 := by
  unfold U mg st
  have a : r / 4503599627370496 - 1 = 0 := by omega
  rw [a]
  refine ⟨?_, rfl⟩
  split <;> omega
theorem U_big {l low : Nat} (h1 : 4503599627370496 ≤ low) (h2 : low < 9007199254740992) : U (l * 4503599627370496 + low) = low * 2 ^ l ∧ st (l * 4503599627370496 + low) = l := by
  unfold U mg st
  have a : (l * 4503599627370496 + low) / 4503599627370496 - 1 = l := by omega
  rw [a, if_neg (by omega)]
  refine ⟨?_, rfl⟩
  congr 1
  omega

theorem word_false (r : Nat) : double.word false r = r := by
  unfold Format.word
  rw [if_neg (by decide)]
/-- THE ROUNDED WORD: the exact number, m * 2 ^ x / 2 ^ y units, lies from U r0 on and below U (r0 + 1); the word is r0, or r0 + 1 where it isn't just U r0. -/
theorem near (m : Nat) (p : Int) (x y : Nat) (hp : p + 1074 + (y : Int) = x) (hlt : m * 2 ^ x < U 9218868437227405312 * 2 ^ y) :
    ∃ r0, r0 < 9218868437227405312 ∧ U r0 * 2 ^ y ≤ m * 2 ^ x ∧ m * 2 ^ x < U (r0 + 1) * 2 ^ y ∧
      (double.nearest false m p = r0 ∨ (double.nearest false m p = r0 + 1 ∧ U r0 * 2 ^ y ≠ m * 2 ^ x)) := by
  have hb : double.binade = 4503599627370496 := by decide
  have hi : double.infRung = 9218868437227405312 := by decide
  have hl : double.leastPlace = -1074 := by decide
  have hf : (double.fractionBits : Int) = 52 := by decide
  by_cases hm : m = 0
  · subst hm
    refine ⟨0, by omega, by rw [U_zero]; omega, ?_, .inl ?_⟩
    · rw [Nat.zero_mul]
      have h1 : U 0 < U (0 + 1) := U_lt (by omega)
      exact Nat.mul_pos (Nat.lt_of_le_of_lt (Nat.zero_le _) h1) (Nat.two_pow_pos _)
    · unfold Format.nearest
      rw [if_pos rfl, word_false]
  · have key : ∃ r0 up l drop : Nat, p + 1074 + (drop : Int) = (l + up : Nat) ∧ U r0 * 2 ^ drop ≤ m * 2 ^ (up + l) ∧ m * 2 ^ (up + l) < U (r0 + 1) * 2 ^ drop ∧
        (double.nearest false m p = min r0 9218868437227405312 ∨ (double.nearest false m p = min (r0 + 1) 9218868437227405312 ∧ U r0 * 2 ^ drop ≠ m * 2 ^ (up + l))) := by
      unfold Format.nearest
      rw [if_neg hm, hb, hi, hl, hf]
      simp only []
      generalize hL : max (p + (m.log2 : Int) - 52) (-1074) = last
      generalize hU : (p - last).toNat = up
      generalize hD : (last - p).toNat = drop
      generalize hLL : (last - -1074).toNat = l
      have hlog1 := log2_lt m
      have hlog2 := log2_ge hm
      obtain ⟨low, c1, c2, c3⟩ := cut_spec (m <<< up) drop
      rw [Nat.shiftLeft_eq] at c1 c2 c3
      -- low's size
      have hlow : low < 9007199254740992 := by
        have a : m * 2 ^ up < 2 ^ 53 * 2 ^ drop := by
          have s : m.log2 + 1 + up ≤ 53 + drop := by omega
          calc m * 2 ^ up < 2 ^ (m.log2 + 1) * 2 ^ up := Nat.mul_lt_mul_of_pos_right hlog1 (Nat.two_pow_pos _)
            _ = 2 ^ (m.log2 + 1 + up) := by rw [← Nat.pow_add]
            _ ≤ 2 ^ (53 + drop) := Nat.pow_le_pow_right (by omega) s
            _ = 2 ^ 53 * 2 ^ drop := by rw [← Nat.pow_add]
        have b : low * 2 ^ drop < 2 ^ 53 * 2 ^ drop := Nat.lt_of_le_of_lt c1 a
        have c := Nat.lt_of_mul_lt_mul_right b
        omega
      have hr : U (l * 4503599627370496 + low) = low * 2 ^ l ∧ st (l * 4503599627370496 + low) = l := by
        by_cases h0 : l = 0
        · subst h0
          rw [Nat.zero_mul, Nat.zero_add, Nat.pow_zero, Nat.mul_one]
          exact U_small hlow
        · refine U_big ?_ hlow
          have s : 52 + drop ≤ m.log2 + up := by omega
          have a : 2 ^ 52 * 2 ^ drop ≤ m * 2 ^ up := by
            calc 2 ^ 52 * 2 ^ drop = 2 ^ (52 + drop) := by rw [← Nat.pow_add]
              _ ≤ 2 ^ (m.log2 + up) := Nat.pow_le_pow_right (by omega) s
              _ = 2 ^ m.log2 * 2 ^ up := by rw [← Nat.pow_add]
              _ ≤ m * 2 ^ up := Nat.mul_le_mul_right _ hlog2
          have b : 2 ^ 52 * 2 ^ drop < (low + 1) * 2 ^ drop := Nat.lt_of_le_of_lt a c2
          have c := Nat.lt_of_mul_lt_mul_right b
          omega
      have hr1 : U (l * 4503599627370496 + low + 1) = (low + 1) * 2 ^ l := by
        rw [U_succ, hr.1, hr.2, Nat.add_mul, Nat.one_mul]
      refine ⟨l * 4503599627370496 + low, up, l, drop, by omega, ?_, ?_, ?_⟩
      · rw [hr.1, Nat.pow_add]
        calc low * 2 ^ l * 2 ^ drop = low * 2 ^ drop * 2 ^ l := Nat.mul_right_comm _ _ _
          _ ≤ m * 2 ^ up * 2 ^ l := Nat.mul_le_mul_right _ c1
          _ = m * (2 ^ up * 2 ^ l) := Nat.mul_assoc _ _ _
      · rw [hr1, Nat.pow_add]
        calc m * (2 ^ up * 2 ^ l) = m * 2 ^ up * 2 ^ l := (Nat.mul_assoc _ _ _).symm
          _ < (low + 1) * 2 ^ drop * 2 ^ l := Nat.mul_lt_mul_of_pos_right c2 (Nat.two_pow_pos _)
          _ = (low + 1) * 2 ^ l * 2 ^ drop := Nat.mul_right_comm _ _ _
      · rw [Nat.shiftLeft_eq]
        rcases c3 with c3 | ⟨c3, c4⟩
        · exact .inl (by rw [c3, word_false])
        · refine .inr ⟨by rw [c3, word_false, Nat.add_assoc], fun e => c4 ?_⟩
          rw [hr.1, Nat.pow_add, ← Nat.mul_assoc, Nat.mul_right_comm] at e
          exact (Nat.eq_of_mul_eq_mul_right (Nat.two_pow_pos _) e).symm
    obtain ⟨r0, up, l, drop, k0, k1, k2, k3⟩ := key
    have ex : up + l + y = x + drop := by omega
    have e2 : m * 2 ^ (up + l) * 2 ^ y = m * 2 ^ x * 2 ^ drop := by rw [Nat.mul_assoc, ← Nat.pow_add, ex, Nat.pow_add, Nat.mul_assoc]
    have hd : 0 < 2 ^ drop := Nat.two_pow_pos _
    have hy : 0 < 2 ^ y := Nat.two_pow_pos _
    have j1 : U r0 * 2 ^ y ≤ m * 2 ^ x := by
      refine Nat.le_of_mul_le_mul_right (c := 2 ^ drop) ?_ hd
      rw [← e2, Nat.mul_right_comm (U r0)]
      exact Nat.mul_le_mul_right _ k1
    have j2 : m * 2 ^ x < U (r0 + 1) * 2 ^ y := by
      refine Nat.lt_of_mul_lt_mul_right (a := 2 ^ drop) ?_
      rw [← e2, Nat.mul_right_comm (U (r0 + 1))]
      exact Nat.mul_lt_mul_of_pos_right k2 hy
    have j3 : r0 < 9218868437227405312 := by
      have := Nat.lt_of_mul_lt_mul_right (Nat.lt_of_le_of_lt j1 hlt)
      exact U_lt_iff.1 this
    refine ⟨r0, j3, j1, j2, ?_⟩
    rw [Nat.min_eq_left (by omega), Nat.min_eq_left (by omega)] at k3
    rcases k3 with k3 | ⟨k3, k4⟩
    · exact .inl k3
    · refine .inr ⟨k3, fun e => k4 ?_⟩
      refine Nat.eq_of_mul_eq_mul_right hy ?_
      rw [e2, ← e, Nat.mul_right_comm]

theorem near_between {m : Nat} {p : Int} {x y a b : Nat} (hp : p + 1074 + (y : Int) = x) (hb : b < 9218868437227405312)
    (h1 : U a * 2 ^ y ≤ m * 2 ^ x) (h2 : m * 2 ^ x ≤ U b * 2 ^ y) : a ≤ double.nearest false m p ∧ double.nearest false m p ≤ b := by
  have hy : 0 < 2 ^ y := Nat.two_pow_pos _
  obtain ⟨r0, _, k1, k2, k3⟩ := near m p x y hp (Nat.lt_of_le_of_lt h2 (Nat.mul_lt_mul_of_pos_right (U_lt hb) hy))
  have e1 : a < r0 + 1 := U_lt_iff.1 (Nat.lt_of_mul_lt_mul_right (Nat.lt_of_le_of_lt h1 k2))
  have e2 : U r0 ≤ U b := Nat.le_of_mul_le_mul_right (Nat.le_trans k1 h2) hy
  have e3 : r0 ≤ b := by
    rcases Nat.lt_or_ge b r0 with h | h
    · have := U_lt h; omega
    · exact h
  rcases k3 with k3 | ⟨k3, k4⟩
  · omega
  · have e4 : U r0 ≠ U b := fun e => k4 (Nat.le_antisymm k1 (by rw [e]; exact h2))
    have e5 : r0 ≠ b := fun e => e4 (by rw [e])
    omega
end Go.Proofs.Ytipacjbegfingaa.Fl
/- Plain facts: sums, differences and halves of points stand beside the exact ones; halving a piece again and again ends; places lie in [0, 1). -/
namespace Go.Proofs.Ytipacjbegfingaa.Fl
open Ieee

theorem mg_log2 {x : Nat} (hx : x < 9218868437227405312) : (mg x).log2 ≤ 52 := by
  have h : mg x < 2 ^ 53 := by unfold mg; split <;> omega
  by_cases h0 : mg x = 0
  · rw [h0]; decide
  · have h2 := log2_ge h0
    rcases Nat.lt_or_ge 52 (mg x).log2 with g | g
    · have := Nat.pow_le_pow_right (n := 2) (by omega) g
      omega
    · exact g

/-- a word divided by a power of two, 2 ^ 52 * 2 ^ e -/
theorem quot_num {x : Nat} (hx : x < 9218868437227405312) (e : Int) : ∃ more : Nat, 54 ≤ more ∧
    (Datum.number false (mg x) (-1074 + (st x : Int))).quotient 54 (.number false 4503599627370496 e) = some (.number false (mg x * 2 ^ (more - 51)) (-1074 + (st x : Int) - e - (more : Int) - 1)) := by
  refine ⟨54 + 52 - (mg x).log2, by have := mg_log2 hx; omega, ?_⟩
  have hl : (4503599627370496 : Nat).log2 = 52 := by decide
  have h52 := mg_log2 hx
  simp only [Datum.quotient, hl]
  rw [if_neg (by omega), Nat.shiftLeft_eq]
  generalize hm : 54 + 52 - (mg x).log2 = more
  have h54 : 54 ≤ more := by omega
  have e1 : mg x * 2 ^ more = mg x * 2 ^ (more - 52) * 4503599627370496 := by
    rw [Nat.mul_assoc, show (4503599627370496 : Nat) = 2 ^ 52 from rfl, ← Nat.pow_add, Nat.sub_add_cancel (by omega)]
  rw [e1, Nat.mul_div_cancel _ (by omega), Nat.mul_mod_left]
  have e2 : 2 * (mg x * 2 ^ (more - 52)) + ((0 : Nat) != 0).toNat = mg x * 2 ^ (more - 51) := by
    rw [show more - 51 = more - 52 + 1 from by omega, Nat.pow_succ]
    simp only [bne_self_eq_false, Bool.toNat_false, Nat.add_zero]
    rw [Nat.mul_comm 2, Nat.mul_assoc]
  rw [e2]
  rfl

/-- from here, whichever half is kept, there is no point between at last, within k halvings -/
def Ends : Nat → Nat → Nat → Prop
  | 0, _, _ => False
  | k + 1, lo, hi => ¬ (lo < midB lo hi ∧ midB lo hi < hi) ∨ (Ends k lo (midB lo hi) ∧ Ends k (midB lo hi) hi)

theorem Ends.more {k : Nat} : ∀ {lo hi : Nat} (j : Nat), Ends k lo hi → k ≤ j → Ends j lo hi := by
  induction k with
  | zero => intro lo hi j h _; exact h.elim
  | succ k ih =>
    intro lo hi j h hj
    obtain ⟨i, rfl⟩ : ∃ i, j = i + 1 := ⟨j - 1, by omega⟩
    rcases h with h | ⟨h1, h2⟩
    · exact .inl h
    · exact .inr ⟨ih i h1 (by omega), ih i h2 (by omega)⟩

theorem U_one : U 4607182418800017408 = 2 ^ 1074 := by decide +kernel
end Go.Proofs.Ytipacjbegfingaa.Fl
/- A place lies in [0, 1): so a place is below a point, or at it or above. -/
namespace Go.Proofs.Ytipacjbegfingaa
open Go.RowKit Fl

section
open Ieee
/-- a place lies in [0, 1) -/
theorem of_lt (h : Int) (h0 : 0 ≤ h) (h1 : h < 18446744073709551616) : ofI h ≤ 4607182418800017407 := by
  obtain ⟨n, hn, hnl⟩ : ∃ n : Nat, h / 2048 = (n : Int) ∧ n ≤ 9007199254740991 := ⟨(h / 2048).toNat, by omega, by omega⟩
  have ef : floatOfInt .f64 (h / 2048) = double.nearest false n 0 := by
    unfold floatOfInt
    rw [hn]
    show double.nearest (decide ((n : Int) < 0)) (n : Int).natAbs 0 = _
    rw [decide_eq_false (show ¬ (n : Int) < 0 by omega), Int.natAbs_natCast]
  have c1 : U 4845873199050653695 = 9007199254740991 * U 4607182418800017408 := by decide +kernel
  have c2 : U 4845873199050653695 = 2 ^ 53 * U 4607182418800017407 := by decide +kernel
  obtain ⟨_, hx⟩ := near_between (m := n) (p := 0) (x := 1074) (y := 0) (a := 0) (b := 4845873199050653695) (by omega) (by omega) (by rw [U_zero]; omega)
    (by rw [Nat.pow_zero, Nat.mul_one, ← U_one, c1]; exact Nat.mul_le_mul_right _ hnl)
  have e : floatBits .quo .f64 (floatOfInt .f64 (h / 2048)) 4845873199050653696 = ((double.read (floatOfInt .f64 (h / 2048))).quotient 54 (double.read 4845873199050653696)).map double.write := rfl
  have two : double.read 4845873199050653696 = .number false 4503599627370496 1 := by decide
  unfold ofI
  rw [e, two, ef]
  generalize double.nearest false n 0 = r at hx
  rw [pt_num (show r < 9218868437227405312 by omega)]
  obtain ⟨more, h54, hq⟩ := quot_num (x := r) (by omega) 1
  rw [hq]
  have hp : 0 < 2 ^ (more - 51) := Nat.two_pow_pos _
  have e1 : mg r * 2 ^ (more - 51) * 2 ^ st r = U r * 2 ^ (more - 51) := by unfold U; exact Nat.mul_right_comm _ _ _
  have e2 : ∀ m, m * 2 ^ (more + 2) = 2 ^ 53 * m * 2 ^ (more - 51) := fun m => by
    rw [show more + 2 = 53 + (more - 51) from by omega, Nat.pow_add, Nat.mul_comm (2 ^ 53) m, Nat.mul_assoc]
  have hu := U_le hx
  rw [c2] at hu
  exact (near_between (m := mg r * 2 ^ (more - 51)) (p := -1074 + (st r : Int) - 1 - (more : Int) - 1) (x := st r) (y := more + 2) (a := 0) (b := 4607182418800017407) (by omega) (by omega)
    (by rw [U_zero]; omega) (by rw [e1, e2]; exact Nat.mul_le_mul_right _ hu)).2
end
theorem ofB_lt (s : ByteArray) : ofB s ≤ 4607182418800017407 := of_lt _ (hash_b s).1 (hash_b s).2
theorem of_below {k : ByteArray} {x : Nat} (hx : ptB x = true) (h : (FloatKind.f64.format.order (ofB k) x == some Ordering.gt) = false ∧ (FloatKind.f64.format.order (ofB k) x == some Ordering.eq) = false) : belowB k x = true := by
  have h1 := ofB_lt k
  have h2 : x ≤ 4607182418800017408 := of_decide_eq_true hx
  have e1 : fgt (ofB k) x = false := h.1
  have e2 : feq (ofB k) x = false := h.2
  rw [fgt_flt, flt_pt (by omega) (by omega), decide_eq_false_iff_not] at e1
  rw [feq_pt (by omega) (by omega), decide_eq_false_iff_not] at e2
  unfold belowB
  rw [flt_pt (by omega) (by omega), decide_eq_true_eq]
  omega
theorem of_above {k : ByteArray} {x : Nat} (hx : ptB x = true) (h : (FloatKind.f64.format.order (ofB k) x == some Ordering.gt) = true ∨ (FloatKind.f64.format.order (ofB k) x == some Ordering.eq) = true) : belowB k x = false := by
  have h1 := ofB_lt k
  have h2 : x ≤ 4607182418800017408 := of_decide_eq_true hx
  have e : fgt (ofB k) x = true ∨ feq (ofB k) x = true := h
  rw [fgt_flt, flt_pt (by omega) (by omega), feq_pt (by omega) (by omega), decide_eq_true_eq, decide_eq_true_eq] at e
  unfold belowB
  rw [flt_pt (by omega) (by omega), decide_eq_false_iff_not]
  omega
end Go.Proofs.Ytipacjbegfingaa
