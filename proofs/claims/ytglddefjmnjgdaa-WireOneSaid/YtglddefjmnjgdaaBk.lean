/- Plain facts: what is written is read, in its order; what is cut off anywhere has a fault. No program in sight. -/
import Derived.Test.YtglddefjmnjgdaaWt
namespace Go.Proofs.Ytglddefjmnjgdaa
open Fl

def rdIt (b : List UInt8) (s : RS) (a : It) : Bool × RS :=
  if a.k = 0 then ((rInt b s).1 == a.n, (rInt b s).2)
  else if a.k = 1 then ((rFlag b s).1 == a.b, (rFlag b s).2)
  else if a.k = 2 then ((rFloat b s).1 == canonB a.x, (rFloat b s).2)
  else if a.k = 3 then ((rText b s 20000).1 == a.s.data.toList, (rText b s 20000).2)
  else (true, s)
def readsR (b : List UInt8) (s : RS) : List It → Bool × RS
  | [] => (true, s)
  | a :: t => if (rdIt b s a).1 = true then readsR b (rdIt b s a).2 t else (false, (rdIt b s a).2)

theorem leV_leB : ∀ (k u : Nat), leV (leB k u) = u % 256 ^ k := by
  intro k
  induction k with
  | zero => intro u; simp [leB, leV, Nat.mod_one]
  | succ k ih =>
    intro u
    have e : (u % 256).toUInt8.toNat = u % 256 := by show u % 256 % 256 = _; omega
    show (u % 256).toUInt8.toNat + 256 * leV (leB k (u / 256)) = _
    rw [e, ih, Nat.pow_succ, Nat.mul_comm (256 ^ k) 256, Nat.mod_mul]
section
variable {pre r : List UInt8}
theorem rInt_enc {n : Int} (h : i64ok n) : rInt (pre ++ encI n ++ r) ⟨pre.length, 0, 0⟩ = (n, ⟨pre.length + (encI n).length, 0, 0⟩) := by
  unfold rInt
  rw [if_neg (by simp), dec_enc pre r h.1 h.2]
theorem rFlag_enc (b : Bool) : rFlag (pre ++ encB b ++ r) ⟨pre.length, 0, 0⟩ = (b, ⟨pre.length + (encB b).length, 0, 0⟩) := by
  unfold rFlag
  rw [if_neg (by simp)]
  have e : (pre ++ encB b ++ r)[pre.length]? = some (if b then 1 else 0) := by
    rw [List.append_assoc, List.getElem?_append_right (Nat.le_refl _), Nat.sub_self]; rfl
  simp only [e]
  cases b <;> rfl
theorem rFloat_enc (x : Nat) (hx : x < 18446744073709551616) : rFloat (pre ++ leB 8 (canonB x) ++ r) ⟨pre.length, 0, 0⟩ = (canonB x, ⟨pre.length + (leB 8 (canonB x)).length, 0, 0⟩) := by
  unfold rFloat
  have hl := leB_len 8 (canonB x)
  have hc := canonB_lt hx
  have e : ((pre ++ leB 8 (canonB x) ++ r).drop pre.length).take 8 = leB 8 (canonB x) := by
    rw [List.append_assoc, List.drop_left' rfl, List.take_append_of_le_length (by omega), List.take_of_length_le (by omega)]
  have e2 : leV (leB 8 (canonB x)) = canonB x := by rw [leV_leB, Nat.mod_eq_of_lt (by simpa using hc)]
  rw [if_neg (by simp), if_neg (by simp only [List.length_append, hl]; omega)]
  simp only [e, e2]
  rw [if_neg (by simp [canonB_idem]), hl]
theorem rText_enc (s : List UInt8) (h : s.length ≤ 20000) : rText (pre ++ encT s ++ r) ⟨pre.length, 0, 0⟩ 20000 = (s, ⟨pre.length + (encT s).length, 0, 0⟩) := by
  unfold rText encT
  rw [if_neg (by simp)]
  have e1 : pre ++ (encI (s.length : Int) ++ s) ++ r = pre ++ encI (s.length : Int) ++ (s ++ r) := by simp only [List.append_assoc]
  have hd := dec_enc pre (s ++ r) (n := (s.length : Int)) (by omega) (by omega)
  rw [e1, hd]
  simp only
  rw [if_neg (by omega), if_neg (by omega), if_neg (by simp only [List.length_append]; omega)]
  have e2 : ((pre ++ encI (s.length : Int) ++ (s ++ r)).drop (pre.length + (encI (s.length : Int)).length)).take ((s.length : Int)).toNat = s := by
    rw [Int.toNat_natCast, ← List.length_append, List.drop_left' rfl, List.take_append_of_le_length (Nat.le_refl _), List.take_of_length_le (Nat.le_refl _)]
  rw [e2, List.length_append, Int.toNat_natCast]
  rw [Nat.add_assoc]
/-- one item, whole -/
theorem rdIt_enc {a : It} (hok : a.ok) (hs : a.s.size ≤ 20000) : rdIt (pre ++ encIt a ++ r) ⟨pre.length, 0, 0⟩ a = (true, ⟨pre.length + (encIt a).length, 0, 0⟩) := by
  unfold rdIt encIt
  by_cases h0 : a.k = 0
  · simp only [if_pos h0, rInt_enc hok.2.1, beq_self_eq_true]
  · by_cases h1 : a.k = 1
    · simp only [if_neg h0, if_pos h1, rFlag_enc, beq_self_eq_true]
    · by_cases h2 : a.k = 2
      · simp only [if_neg h0, if_neg h1, if_pos h2, rFloat_enc _ hok.2.2.1, beq_self_eq_true]
      · by_cases h3 : a.k = 3
        · have hl : a.s.data.toList.length ≤ 20000 := by rw [Array.length_toList]; exact hs
          simp only [if_neg h0, if_neg h1, if_neg h2, if_pos h3, rText_enc _ hl, beq_self_eq_true]
        · simp only [if_neg h0, if_neg h1, if_neg h2, if_neg h3, List.length_nil, Nat.add_zero]
end
theorem reads_enc : ∀ (l : List It) (pre r : List UInt8), (∀ a ∈ l, a.ok ∧ a.s.size ≤ 20000) → readsR (pre ++ encL l ++ r) ⟨pre.length, 0, 0⟩ l = (true, ⟨pre.length + (encL l).length, 0, 0⟩) := by
  intro l
  induction l with
  | nil => intro pre r _; simp [encL, readsR]
  | cons a l ih =>
    intro pre r h
    have ha := h a (by simp)
    have e : pre ++ encL (a :: l) ++ r = pre ++ encIt a ++ (encL l ++ r) := by simp [encL, List.flatMap_cons]
    show (if _ then _ else _) = _
    rw [e, rdIt_enc ha.1 ha.2, if_pos rfl]
    have e2 : pre ++ encIt a ++ (encL l ++ r) = (pre ++ encIt a) ++ encL l ++ r := by simp only [List.append_assoc]
    have := ih (pre ++ encIt a) r (fun b hb => h b (by simp [hb]))
    rw [List.length_append] at this
    rw [e2, this]
    have e3 : encL (a :: l) = encIt a ++ encL l := by simp [encL, List.flatMap_cons]
    rw [e3, List.length_append, Nat.add_assoc]

/-- behind a fault nothing moves -/
theorem rdIt_fault {b : List UInt8} {s : RS} {a : It} (h : s.e ≠ 0) : (rdIt b s a).2 = s := by
  unfold rdIt
  have e1 : rInt b s = (0, s) := by unfold rInt; rw [if_pos h]
  have e2 : rFlag b s = (false, s) := by unfold rFlag; rw [if_pos h]
  have e3 : rFloat b s = (0, s) := by unfold rFloat; rw [if_pos h]
  have e4 : rText b s 20000 = ([], s) := by unfold rText; rw [if_pos h]
  rw [e1, e2, e3, e4]
  split
  · rfl
  · split
    · rfl
    · split
      · rfl
      · split <;> rfl
theorem readsR_fault {b : List UInt8} : ∀ (l : List It) {s : RS}, s.e ≠ 0 → (readsR b s l).2 = s := by
  intro l
  induction l with
  | nil => intro s _; rfl
  | cons a l ih =>
    intro s h
    show (if _ then _ else _ : Bool × RS).2 = s
    rw [rdIt_fault h]
    split
    · exact ih h
    · rfl
/-- a row of groups cut off -/
theorem encU_cut : ∀ (k u j : Nat), u ≤ k → j < (encU u).length → ∀ c ∈ (encU u).take j, 128 ≤ c.toNat := by
  intro k
  induction k with
  | zero =>
    intro u j hu hj
    obtain rfl : u = 0 := by omega
    have : (encU 0).length = 1 := rfl
    obtain rfl : j = 0 := by omega
    simp
  | succ k ih =>
    intro u j hu hj
    by_cases h : u < 128
    · rw [encU_small h] at hj ⊢
      obtain rfl : j = 0 := by simpa using hj
      simp
    · rw [encU_big h] at hj ⊢
      intro c hc
      cases j with
      | zero => simp at hc
      | succ j =>
        rw [List.take_succ_cons] at hc
        rcases List.mem_cons.1 hc with rfl | hc
        · have : (u % 128 + 128).toUInt8.toNat = u % 128 + 128 := by show (u % 128 + 128) % 256 = _; omega
          omega
        · exact ih (u / 128) j (by omega) (by simpa using hj) c hc
theorem dec_cut {pre : List UInt8} {n : Int} {j : Nat} (hj : j < (encI n).length) : dec (pre ++ (encI n).take j) pre.length = .short := by
  unfold dec
  have h2 : grp ((encI n).take j) = none := (grp_none_iff _).2 (encU_cut _ _ _ (Nat.le_refl _) hj)
  rw [List.drop_left' rfl, h2]
theorem rFail5 (p q : Nat) : (rFail ⟨p, 0, 0⟩ 5 q).e = 5 := by unfold rFail; rw [if_pos ⟨rfl, by omega⟩]
/-- one item, cut off -/
theorem rdIt_cut {pre : List UInt8} {a : It} {j : Nat} (hs : a.s.size ≤ 20000) (hj : j < (encIt a).length) : (rdIt (pre ++ (encIt a).take j) ⟨pre.length, 0, 0⟩ a).2.e = 5 := by
  unfold rdIt
  unfold encIt at hj ⊢
  by_cases h0 : a.k = 0
  · simp only [if_pos h0] at hj ⊢
    unfold rInt
    rw [if_neg (by simp), dec_cut hj]
    exact rFail5 _ _
  · by_cases h1 : a.k = 1
    · simp only [if_neg h0, if_pos h1] at hj ⊢
      have hj0 : j = 0 := by simpa [encB] using hj
      subst hj0
      unfold rFlag
      rw [if_neg (by simp), List.take_zero, List.append_nil, List.getElem?_eq_none (Nat.le_refl _)]
      exact rFail5 _ _
    · by_cases h2 : a.k = 2
      · simp only [if_neg h0, if_neg h1, if_pos h2] at hj ⊢
        unfold rFloat
        have hl := leB_len 8 (canonB a.x)
        rw [if_neg (by simp), if_pos (by simp only [List.length_append, List.length_take]; omega)]
        exact rFail5 _ _
      · by_cases h3 : a.k = 3
        · simp only [if_neg h0, if_neg h1, if_neg h2, if_pos h3] at hj ⊢
          have hl : a.s.data.toList.length ≤ 20000 := by rw [Array.length_toList]; exact hs
          generalize a.s.data.toList = t at *
          unfold encT at hj ⊢
          unfold rText
          rw [if_neg (by simp)]
          by_cases hc : j < (encI (t.length : Int)).length
          · rw [List.take_append_of_le_length (by omega), dec_cut hc]
            exact rFail5 _ _
          · have e : pre ++ (encI (t.length : Int) ++ t).take j = pre ++ encI (t.length : Int) ++ t.take (j - (encI (t.length : Int)).length) := by
              rw [List.take_append, List.take_of_length_le (by omega), List.append_assoc]
            rw [e, dec_enc pre _ (by omega) (by omega)]
            simp only
            rw [List.length_append] at hj
            rw [if_neg (by omega), if_neg (by omega), if_pos (by simp only [List.length_append, List.length_take]; omega)]
            exact rFail5 _ _
        · simp only [if_neg h0, if_neg h1, if_neg h2, if_neg h3] at hj
          simp at hj
theorem reads_cut : ∀ (l : List It) (pre : List UInt8) (j : Nat), (∀ a ∈ l, a.ok ∧ a.s.size ≤ 20000) → j < (encL l).length → (readsR (pre ++ (encL l).take j) ⟨pre.length, 0, 0⟩ l).2.e = 5 := by
  intro l
  induction l with
  | nil => intro pre j _ h; simp [encL] at h
  | cons a l ih =>
    intro pre j h hj
    have ha := h a (by simp)
    have e3 : encL (a :: l) = encIt a ++ encL l := by simp [encL, List.flatMap_cons]
    rw [e3] at hj ⊢
    rw [List.length_append] at hj
    by_cases hc : j < (encIt a).length
    · rw [List.take_append_of_le_length (by omega)]
      have hf := rdIt_cut (pre := pre) (j := j) ha.2 hc
      show (if _ then _ else _ : Bool × RS).2.e = 5
      split
      · rw [readsR_fault l (by rw [hf]; omega)]; exact hf
      · exact hf
    · have e : pre ++ (encIt a ++ encL l).take j = pre ++ encIt a ++ (encL l).take (j - (encIt a).length) := by
        rw [List.take_append, List.take_of_length_le (by omega), List.append_assoc]
      rw [e]
      show (if _ then _ else _ : Bool × RS).2.e = 5
      rw [rdIt_enc ha.1 ha.2, if_pos rfl]
      have := ih (pre ++ encIt a) (j - (encIt a).length) (fun b hb => h b (by simp [hb])) (by omega)
      rw [List.length_append] at this
      exact this
end Go.Proofs.Ytglddefjmnjgdaa
