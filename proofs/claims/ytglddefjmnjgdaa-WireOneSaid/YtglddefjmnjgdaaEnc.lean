/- Plain facts: the bytes of numbers, floats and texts; no program in sight. -/
import Derived.Laws.BitsAllLaws
import Derived.Laws.Wrap64
namespace Go.Proofs.Ytglddefjmnjgdaa

/-- groups of seven bits (the first number: enough rounds) -/
def encF : Nat → Nat → List UInt8
  | 0, u => [u.toUInt8]
  | k + 1, u => if u < 128 then [u.toUInt8] else (u % 128 + 128).toUInt8 :: encF k (u / 128)
def encU (u : Nat) : List UInt8 := encF u u
theorem encF_any : ∀ (k j u : Nat), u ≤ k → u ≤ j → encF k u = encF j u := by
  intro k
  induction k with
  | zero =>
    intro j u h _
    have e : u = 0 := by omega
    subst e
    cases j with
    | zero => rfl
    | succ j => show _ = if 0 < 128 then _ else _; rw [if_pos (by omega)]; rfl
  | succ k ih =>
    intro j u h1 h2
    cases j with
    | zero =>
      have e : u = 0 := by omega
      subst e
      show (if 0 < 128 then _ else _) = _
      rw [if_pos (by omega)]; rfl
    | succ j =>
      show (if u < 128 then _ else _) = if u < 128 then _ else _
      by_cases h : u < 128
      · rw [if_pos h, if_pos h]
      · rw [if_neg h, if_neg h, ih j (u / 128) (by omega) (by omega)]
/-- a whole number, twice as much as its amount -/
def zig (n : Int) : Nat := if 0 ≤ n then (2 * n).toNat else (-2 * n - 1).toNat
def encI (n : Int) : List UInt8 := encU (zig n)
/-- so many bytes of a number, the low ones first -/
def leB : Nat → Nat → List UInt8
  | 0, _ => []
  | k + 1, u => (u % 256).toUInt8 :: leB k (u / 256)
def encT (s : List UInt8) : List UInt8 := encI s.length ++ s
def encB (b : Bool) : List UInt8 := [if b then 1 else 0]

theorem encU_small {u : Nat} (h : u < 128) : encU u = [u.toUInt8] := by
  unfold encU
  cases u with
  | zero => rfl
  | succ u => show (if u + 1 < 128 then _ else _) = _; rw [if_pos h]
theorem encU_big {u : Nat} (h : ¬ u < 128) : encU u = (u % 128 + 128).toUInt8 :: encU (u / 128) := by
  unfold encU
  cases u with
  | zero => omega
  | succ u => show (if u + 1 < 128 then _ else _) = _; rw [if_neg h, encF_any u ((u + 1) / 128) ((u + 1) / 128) (by omega) (Nat.le_refl _)]
theorem leB_len (k : Nat) : ∀ u, (leB k u).length = k := by
  induction k with
  | zero => intro u; rfl
  | succ k ih => intro u; simp [leB, ih]
theorem encU_len {k : Nat} : ∀ u, u < 128 ^ k → 0 < k → (encU u).length ≤ k := by
  induction k with
  | zero => intro u _ h; omega
  | succ k ih =>
    intro u hu _
    by_cases h : u < 128
    · rw [encU_small h]; simp
    · rw [encU_big h]
      have h2 : u / 128 < 128 ^ k := by rw [Nat.pow_succ] at hu; omega
      have h3 : 0 < k := by
        rcases Nat.eq_zero_or_pos k with e | e
        · subst e; simp at h2; omega
        · exact e
      have := ih _ h2 h3
      simp; omega
theorem zig_lt {n : Int} (h1 : -9223372036854775808 ≤ n) (h2 : n ≤ 9223372036854775807) : zig n < 18446744073709551616 := by unfold zig; split <;> omega
theorem encI_len {n : Int} (h1 : -9223372036854775808 ≤ n) (h2 : n ≤ 9223372036854775807) : (encI n).length ≤ 10 := by
  have := zig_lt h1 h2
  exact encU_len _ (by omega) (by omega)
end Go.Proofs.Ytglddefjmnjgdaa
