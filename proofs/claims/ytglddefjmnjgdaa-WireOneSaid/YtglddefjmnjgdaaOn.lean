/- Plain facts: what is read without a fault, written again, is what was read. No program in sight. -/
import Derived.Test.YtglddefjmnjgdaaBk
namespace Go.Proofs.Ytglddefjmnjgdaa
open Fl

theorem leB_leV : ∀ bs : List UInt8, leB bs.length (leV bs) = bs := by
  intro bs
  induction bs with
  | nil => rfl
  | cons c t ih =>
    have hc := c.toNat_lt
    show ((c.toNat + 256 * leV t) % 256).toUInt8 :: leB t.length ((c.toNat + 256 * leV t) / 256) = c :: t
    have e1 : (c.toNat + 256 * leV t) % 256 = c.toNat := by omega
    have e2 : (c.toNat + 256 * leV t) / 256 = leV t := by omega
    rw [e1, e2, ih]
    congr 1
    apply UInt8.toNat_inj.1
    show c.toNat % 256 = _
    omega
/-- a step: where there is no fault the bytes up to the new place are those of before and what is read, written; where there is one the place stays, and the fault's place is from there to the end -/
def StepOk (b : List UInt8) (at_ : Nat) (s : RS) (enc : List UInt8) : Prop :=
  (s.e = 0 ∧ s.p = 0 ∧ s.at_ ≤ b.length ∧ b.take s.at_ = b.take at_ ++ enc) ∨ (s.e ≠ 0 ∧ s.at_ = at_ ∧ at_ ≤ s.p ∧ s.p ≤ b.length)
theorem rFail_step {b enc : List UInt8} {a q : Nat} {e : Int} (he : e ≠ 0) (h1 : a ≤ q) (h2 : q ≤ b.length) : StepOk b a (rFail ⟨a, 0, 0⟩ e q) enc := by
  right
  unfold rFail
  rw [if_pos ⟨rfl, he⟩]
  exact ⟨he, rfl, h1, h2⟩
theorem take_step {b enc : List UInt8} {a next : Nat} (h : b.drop a = enc ++ b.drop next) (hn : next = a + enc.length) : b.take next = b.take a ++ enc := by
  have e : b.take next = b.take a ++ (b.drop a).take (next - a) := by
    rw [hn, List.take_add, Nat.add_sub_cancel_left]
  rw [e, h, hn, Nat.add_sub_cancel_left, List.take_append_of_le_length (Nat.le_refl _), List.take_of_length_le (Nat.le_refl _)]
section
variable {b : List UInt8} {a : Nat}
theorem one_int (ha : a ≤ b.length) : StepOk b a (rInt b ⟨a, 0, 0⟩).2 (encI (rInt b ⟨a, 0, 0⟩).1) ∧ i64ok (rInt b ⟨a, 0, 0⟩).1 := by
  unfold rInt
  rw [if_neg (by simp)]
  cases hd : dec b a with
  | short => exact ⟨rFail_step (by omega) ha (Nat.le_refl _), by show i64ok 0; unfold i64ok; omega⟩
  | form => exact ⟨rFail_step (by omega) (Nat.le_refl _) ha, by show i64ok 0; unfold i64ok; omega⟩
  | ok n next =>
    obtain ⟨h1, h2, _, h4, h5, h6⟩ := dec_ok hd
    exact ⟨.inl ⟨rfl, rfl, h4, take_step h1 h2⟩, h5, h6⟩
theorem one_flag (ha : a ≤ b.length) : StepOk b a (rFlag b ⟨a, 0, 0⟩).2 (encB (rFlag b ⟨a, 0, 0⟩).1) := by
  unfold rFlag
  rw [if_neg (by simp)]
  cases hx : b[a]? with
  | none => exact rFail_step (by omega) ha (Nat.le_refl _)
  | some c =>
    have hlt := (List.getElem?_eq_some_iff.1 hx).1
    simp only
    by_cases h1 : 1 < c.toNat
    · rw [if_pos h1]; exact rFail_step (by omega) (Nat.le_refl _) ha
    · rw [if_neg h1]
      refine .inl ⟨rfl, rfl, hlt, ?_⟩
      show b.take (a + 1) = b.take a ++ [if (c.toNat == 1) = true then 1 else 0]
      rw [List.take_add_one, hx]
      show b.take a ++ [c] = _
      congr 2
      apply UInt8.toNat_inj.1
      by_cases h2 : c.toNat = 1
      · rw [if_pos (by simp [h2]), h2]; rfl
      · rw [if_neg (by simp [h2])]; show c.toNat = 0; omega
theorem one_float (ha : a ≤ b.length) : StepOk b a (rFloat b ⟨a, 0, 0⟩).2 (leB 8 (canonB (rFloat b ⟨a, 0, 0⟩).1)) ∧ (rFloat b ⟨a, 0, 0⟩).1 < 18446744073709551616 := by
  unfold rFloat
  rw [if_neg (by simp)]
  by_cases h1 : b.length - a < 8
  · simp only [if_pos h1]; exact ⟨rFail_step (by omega) ha (Nat.le_refl _), by omega⟩
  · simp only [if_neg h1]
    have hl : ((b.drop a).take 8).length = 8 := by rw [List.length_take, List.length_drop]; omega
    have hlt := leV_lt ((b.drop a).take 8)
    rw [hl] at hlt
    have hb := leB_leV ((b.drop a).take 8)
    rw [hl] at hb
    by_cases h2 : canonB (leV ((b.drop a).take 8)) ≠ leV ((b.drop a).take 8)
    · rw [if_pos h2]; exact ⟨rFail_step (by omega) (Nat.le_refl _) ha, by omega⟩
    · rw [if_neg h2]
      have h3 : canonB (leV ((b.drop a).take 8)) = leV ((b.drop a).take 8) := by simpa using h2
      refine ⟨.inl ⟨rfl, rfl, by show a + 8 ≤ _; omega, ?_⟩, by simpa using hlt⟩
      show b.take (a + 8) = b.take a ++ leB 8 (canonB (leV ((b.drop a).take 8)))
      rw [h3, hb, List.take_add]
theorem one_text (ha : a ≤ b.length) : StepOk b a (rText b ⟨a, 0, 0⟩ 20000).2 (encT (rText b ⟨a, 0, 0⟩ 20000).1) ∧ (rText b ⟨a, 0, 0⟩ 20000).1.length ≤ 20000 := by
  unfold rText
  rw [if_neg (by simp)]
  cases hd : dec b a with
  | short => exact ⟨rFail_step (by omega) ha (Nat.le_refl _), by simp⟩
  | form => exact ⟨rFail_step (by omega) (Nat.le_refl _) ha, by simp⟩
  | ok n next =>
    obtain ⟨h1, h2, _, h4, h5, h6⟩ := dec_ok hd
    simp only
    by_cases c1 : n < 0
    · rw [if_pos c1]; exact ⟨rFail_step (by omega) (Nat.le_refl _) ha, by simp⟩
    · rw [if_neg c1]
      by_cases c2 : 20000 < n
      · rw [if_pos c2]; exact ⟨rFail_step (by omega) (Nat.le_refl _) ha, by simp⟩
      · rw [if_neg c2]
        by_cases c3 : (b.length : Int) - next < n
        · rw [if_pos c3]; exact ⟨rFail_step (by omega) ha (Nat.le_refl _), by simp⟩
        · rw [if_neg c3]
          obtain ⟨m, rfl⟩ := Int.eq_ofNat_of_zero_le (show 0 ≤ n by omega)
          rw [Int.toNat_natCast]
          have hl : ((b.drop next).take m).length = m := by rw [List.length_take, List.length_drop]; omega
          refine ⟨.inl ⟨rfl, rfl, by show next + m ≤ _; omega, ?_⟩, by rw [hl]; omega⟩
          show b.take (next + m) = b.take a ++ encT ((b.drop next).take m)
          unfold encT
          rw [hl, List.take_add, take_step h1 h2, List.append_assoc]
end
end Go.Proofs.Ytglddefjmnjgdaa
