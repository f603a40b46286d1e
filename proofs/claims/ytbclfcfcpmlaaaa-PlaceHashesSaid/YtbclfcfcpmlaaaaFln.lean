/- Plain facts: sums, differences and halves of points stand beside the exact ones; halving a piece again and again ends; places lie in [0, 1). -/
import Derived.Test.YtbclfcfcpmlaaaaFlr
namespace Go.Proofs.Ytbclfcfcpmlaaaa.Fl
open Ieee

theorem sum_num (t : Bool) (a c : Nat) (N : Nat) (hN : (N : Int) = (U a : Int) + sg t (U c)) :
    ∃ m b : Nat, (Datum.number false (mg a) (-1074 + (st a : Int))).sum (Datum.number t (mg c) (-1074 + (st c : Int))) = some (.number false m (-1074 + (b : Int))) ∧ m * 2 ^ b = N := by
  simp only [Datum.sum, signed_eq]
  have hb : ∃ b : Nat, min (-1074 + (st a : Int)) (-1074 + (st c : Int)) = -1074 + (b : Int) ∧ b ≤ st a ∧ b ≤ st c := ⟨min (st a) (st c), by omega, by omega, by omega⟩
  obtain ⟨b, e, b1, b2⟩ := hb
  rw [e]
  have e1 : (-1074 + (st a : Int) - (-1074 + (b : Int))).toNat = st a - b := by omega
  have e2 : (-1074 + (st c : Int) - (-1074 + (b : Int))).toNat = st c - b := by omega
  rw [e1, e2]
  have f1 : sg false (mg a * 2 ^ (st a - b)) * ((2 ^ b : Nat) : Int) = (U a : Int) := by
    rw [← sg_mul, Nat.mul_assoc, ← Nat.pow_add, Nat.sub_add_cancel b1]; rfl
  have f2 : sg t (mg c * 2 ^ (st c - b)) * ((2 ^ b : Nat) : Int) = sg t (U c) := by
    rw [← sg_mul, Nat.mul_assoc, ← Nat.pow_add, Nat.sub_add_cancel b2]; rfl
  generalize hT : sg false (mg a * 2 ^ (st a - b)) + sg t (mg c * 2 ^ (st c - b)) = T
  have f3 : T * ((2 ^ b : Nat) : Int) = (N : Int) := by rw [← hT, Int.add_mul, f1, f2, hN]
  have hp : (0 : Int) < ((2 ^ b : Nat) : Int) := by have := Nat.two_pow_pos b; omega
  have hT0 : 0 ≤ T := by
    rcases Int.lt_or_le T 0 with h | h
    · have := Int.mul_neg_of_neg_of_pos h hp
      omega
    · exact h
  refine ⟨T.natAbs, b, ?_, ?_⟩
  · congr 2
    by_cases h0 : T = 0
    · rw [if_pos h0]; rfl
    · rw [if_neg h0]; exact decide_eq_false (by omega)
  · have : ((T.natAbs * 2 ^ b : Nat) : Int) = (N : Int) := by
      rw [Int.natCast_mul, Int.natAbs_of_nonneg hT0]; exact f3
    exact Int.ofNat.inj this

theorem near_of {m b N : Nat} (h : m * 2 ^ b = N) (hlt : N < U 9218868437227405312) :
    ∃ r0, r0 < 9218868437227405312 ∧ U r0 ≤ N ∧ N < U (r0 + 1) ∧ (double.nearest false m (-1074 + (b : Int)) = r0 ∨ (double.nearest false m (-1074 + (b : Int)) = r0 + 1 ∧ U r0 ≠ N)) := by
  obtain ⟨r0, k0, k1, k2, k3⟩ := near m (-1074 + (b : Int)) b 0 (by omega) (by rw [h, Nat.pow_zero, Nat.mul_one]; exact hlt)
  rw [h, Nat.pow_zero, Nat.mul_one] at k1 k2 k3
  exact ⟨r0, k0, k1, k2, k3⟩

theorem sub_near {lo hi : Nat} (hl : lo < hi) (hh : hi < 9218868437227405312) :
    ∃ r0, U r0 ≤ U hi - U lo ∧ U hi - U lo < U (r0 + 1) ∧ (subB hi lo = r0 ∨ (subB hi lo = r0 + 1 ∧ U r0 ≠ U hi - U lo)) := by
  have hlt := U_lt hl
  have e : floatBits .sub .f64 hi lo = ((double.read hi).sum (double.read lo).opposite).map double.write := rfl
  unfold subB
  rw [e, pt_num hh, pt_num (Nat.lt_trans hl hh)]
  obtain ⟨m, b, h1, h2⟩ := sum_num true hi lo (U hi - U lo) (by unfold sg; simp; omega)
  have e2 : (Datum.number false (mg lo) (-1074 + (st lo : Int))).opposite = .number true (mg lo) (-1074 + (st lo : Int)) := rfl
  rw [e2, h1]
  obtain ⟨r0, _, k1, k2, k3⟩ := near_of h2 (Nat.lt_of_le_of_lt (Nat.sub_le _ _) (U_lt hh))
  exact ⟨r0, k1, k2, k3⟩

theorem add_near {lo d : Nat} (hl : lo < 9218868437227405312) (hd : d < 9218868437227405312) (hlt : U lo + U d < U 9218868437227405312) :
    ∃ r0, U r0 ≤ U lo + U d ∧ U lo + U d < U (r0 + 1) ∧ (addB lo d = r0 ∨ (addB lo d = r0 + 1 ∧ U r0 ≠ U lo + U d)) := by
  have e : floatBits .add .f64 lo d = ((double.read lo).sum (double.read d)).map double.write := rfl
  unfold addB
  rw [e, pt_num hl, pt_num hd]
  obtain ⟨m, b, h1, h2⟩ := sum_num false lo d (U lo + U d) (by unfold sg; simp)
  rw [h1]
  obtain ⟨r0, _, k1, k2, k3⟩ := near_of h2 hlt
  exact ⟨r0, k1, k2, k3⟩

theorem mg_log2 {x : Nat} (hx : x < 9218868437227405312) : (mg x).log2 ≤ 52 := by
  have h : mg x < 2 ^ 53 := by unfold mg; split <;> omega
  by_cases h0 : mg x = 0
  · rw [h0]; decide
  · have h2 := log2_ge h0
    rcases Nat.lt_or_ge 52 (mg x).log2 with g | g
    · have := Nat.pow_le_pow_right (n := 2) (by omega) g
      omega
    · exact g

/-- a word divided by a power of two, 2 ^ 52 * 2 ^ e -/
theorem quot_num {x : Nat} (hx : x < 9218868437227405312) (e : Int) : ∃ more : Nat, 54 ≤ more ∧
    (Datum.number false (mg x) (-1074 + (st x : Int))).quotient 54 (.number false 4503599627370496 e) = some (.number false (mg x * 2 ^ (more - 51)) (-1074 + (st x : Int) - e - (more : Int) - 1)) := by
  refine ⟨54 + 52 - (mg x).log2, by have := mg_log2 hx; omega, ?_⟩
  have hl : (4503599627370496 : Nat).log2 = 52 := by decide
  have h52 := mg_log2 hx
  simp only [Datum.quotient, hl]
  rw [if_neg (by omega), Nat.shiftLeft_eq]
  generalize hm : 54 + 52 - (mg x).log2 = more
  have h54 : 54 ≤ more := by omega
  have e1 : mg x * 2 ^ more = mg x * 2 ^ (more - 52) * 4503599627370496 := by
    rw [Nat.mul_assoc, show (4503599627370496 : Nat) = 2 ^ 52 from rfl, ← Nat.pow_add, Nat.sub_add_cancel (by omega)]
  rw [e1, Nat.mul_div_cancel _ (by omega), Nat.mul_mod_left]
  have e2 : 2 * (mg x * 2 ^ (more - 52)) + ((0 : Nat) != 0).toNat = mg x * 2 ^ (more - 51) := by
    rw [show more - 51 = more - 52 + 1 from by omega, Nat.pow_succ]
    simp only [bne_self_eq_false, Bool.toNat_false, Nat.add_zero]
    rw [Nat.mul_comm 2, Nat.mul_assoc]
  rw [e2]
  rfl

theorem half_near {x : Nat} (hx : x < 9218868437227405312) :
    ∃ r0, 2 * U r0 ≤ U x ∧ U x < 2 * U (r0 + 1) ∧ (halfB x = r0 ∨ halfB x = r0 + 1) := by
  have e : floatBits .quo .f64 x 4611686018427387904 = ((double.read x).quotient 54 (double.read 4611686018427387904)).map double.write := rfl
  have two : double.read 4611686018427387904 = .number false 4503599627370496 (-51) := by decide
  unfold halfB
  rw [e, two, pt_num hx]
  obtain ⟨more, h54, hq⟩ := quot_num hx (-51)
  rw [hq]
  have hp : 0 < 2 ^ (more - 51) := Nat.two_pow_pos _
  have e1 : mg x * 2 ^ (more - 51) * 2 ^ st x = U x * 2 ^ (more - 51) := by unfold U; exact Nat.mul_right_comm _ _ _
  have e2 : ∀ n, n * 2 ^ (more - 50) = 2 * n * 2 ^ (more - 51) := fun n => by
    rw [show more - 50 = more - 51 + 1 from by omega, Nat.pow_succ, Nat.mul_comm (2 ^ _) 2, ← Nat.mul_assoc, Nat.mul_comm n 2]
  obtain ⟨r0, _, k1, k2, k3⟩ := near (mg x * 2 ^ (more - 51)) (-1074 + (st x : Int) - (-51) - (more : Int) - 1) (st x) (more - 50) (by omega) (by
    rw [e1, e2]
    refine Nat.mul_lt_mul_of_pos_right ?_ hp
    have := U_lt hx
    omega)
  rw [e1, e2] at k1 k2
  exact ⟨r0, Nat.le_of_mul_le_mul_right k1 hp, Nat.lt_of_mul_lt_mul_right k2, k3.imp id (·.1)⟩

theorem st_le {a b : Nat} (h : a ≤ b) : 2 ^ st a ≤ 2 ^ st b := Nat.pow_le_pow_right (by omega) (by unfold st; omega)

/-- ONE HALVING: both pieces are at most a half and three steps of the upper end -/
theorem mid_step {lo hi : Nat} (hl : lo < hi) (hh : hi ≤ 4607182418800017408) (h1 : lo < midB lo hi) (h2 : midB lo hi < hi) :
    2 * (U (midB lo hi) - U lo) ≤ U hi - U lo + 6 * 2 ^ st hi ∧ 2 * (U hi - U (midB lo hi)) ≤ U hi - U lo + 6 * 2 ^ st hi := by
  have hU := U_lt hl
  obtain ⟨r0, a1, a2, a3⟩ := sub_near hl (by omega)
  generalize hN : U hi - U lo = N at a1 a2 a3 ⊢
  have s0 := U_succ r0
  have r0hi : r0 ≤ hi := by
    rcases Nat.lt_or_ge hi r0 with g | g
    · have := U_lt g; omega
    · exact g
  have t0 := st_le r0hi
  generalize hd : subB hi lo = d at a3
  have dhi : d ≤ hi := by
    rcases a3 with a3 | ⟨a3, a4⟩
    · omega
    · have : r0 ≠ hi := fun e => by subst e; omega
      omega
  have dU : N ≤ U d + 2 ^ st hi ∧ U d ≤ N + 2 ^ st hi := by
    rcases a3 with a3 | ⟨a3, a4⟩
    · subst a3; omega
    · subst a3; omega
  obtain ⟨r1, b1, b2, b3⟩ := half_near (x := d) (by omega)
  generalize hhd : halfB d = h at b3
  have s1 := U_succ r1
  have r1d : r1 ≤ d := by
    rcases Nat.lt_or_ge d r1 with g | g
    · have := U_lt g; omega
    · exact g
  have t1 := st_le (Nat.le_trans r1d dhi)
  have hUb : 2 * U h ≤ U d + 2 * 2 ^ st hi ∧ U d ≤ 2 * U h + 2 * 2 ^ st hi := by
    rcases b3 with b3 | b3
    · subst b3; omega
    · subst b3; omega
  have hm : midB lo hi = addB lo h := by unfold midB; rw [hd, hhd]
  rw [hm] at h1 h2 ⊢
  have hle : h ≤ hi + 1 := by omega
  have hbig : U lo + U h < U 9218868437227405312 := by
    have q1 : U lo ≤ U 4607182418800017409 := U_le (by omega)
    have q2 : U h ≤ U 4607182418800017409 := U_le (by omega)
    have q3 : 2 * U 4607182418800017409 < U 9218868437227405312 := by decide +kernel
    omega
  obtain ⟨r2, c1, c2, c3⟩ := add_near (lo := lo) (d := h) (by omega) (by omega) hbig
  generalize hx : addB lo h = x at c3 h1 h2 ⊢
  have s2 := U_succ r2
  have t2 : 2 ^ st r2 ≤ 2 ^ st hi := st_le (by omega)
  have xU : U lo + U h ≤ U x + 2 ^ st hi ∧ U x ≤ U lo + U h + 2 ^ st hi := by
    rcases c3 with c3 | ⟨c3, c4⟩
    · subst c3; omega
    · subst c3; omega
  have u1 := U_lt h1
  have u2 := U_lt h2
  omega

/-- the middle of two points is no NaN and not below nought -/
theorem mid_fin {lo hi : Nat} (hl : lo < hi) (hh : hi ≤ 4607182418800017408) : midB lo hi ≤ 9218868437227405312 := by
  have hU := U_lt hl
  obtain ⟨r0, a1, a2, a3⟩ := sub_near hl (by omega)
  have r0hi : r0 ≤ hi := by
    rcases Nat.lt_or_ge hi r0 with g | g
    · have := U_lt g; omega
    · exact g
  generalize hd : subB hi lo = d at a3
  have dhi : d ≤ hi + 1 := by
    rcases a3 with a3 | ⟨a3, a4⟩ <;> omega
  obtain ⟨r1, b1, b2, b3⟩ := half_near (x := d) (by omega)
  generalize hhd : halfB d = h at b3
  have r1d : r1 ≤ d := by
    rcases Nat.lt_or_ge d r1 with g | g
    · have := U_lt g; omega
    · exact g
  have hm : midB lo hi = addB lo h := by unfold midB; rw [hd, hhd]
  have hle : h ≤ 4607182418800017410 := by omega
  have hbig : U lo + U h < U 9218868437227405312 := by
    have q1 : U lo ≤ U 4607182418800017410 := U_le (by omega)
    have q2 : U h ≤ U 4607182418800017410 := U_le (by omega)
    have q3 : 2 * U 4607182418800017410 < U 9218868437227405312 := by decide +kernel
    omega
  obtain ⟨r2, c1, c2, c3⟩ := add_near (lo := lo) (d := h) (by omega) (by omega) hbig
  have r2i : r2 < 9218868437227405312 := U_lt_iff.1 (Nat.lt_of_le_of_lt c1 hbig)
  rw [hm]
  rcases c3 with c3 | ⟨c3, _⟩ <;> omega

/-- from here, whichever half is kept, there is no point between at last, within k halvings -/
def Ends : Nat → Nat → Nat → Prop
  | 0, _, _ => False
  | k + 1, lo, hi => ¬ (lo < midB lo hi ∧ midB lo hi < hi) ∨ (Ends k lo (midB lo hi) ∧ Ends k (midB lo hi) hi)

theorem Ends.stop {k lo hi : Nat} (h : ¬ (lo < midB lo hi ∧ midB lo hi < hi)) : Ends (k + 1) lo hi := .inl h
theorem Ends.go {k lo hi : Nat} (h1 : Ends k lo (midB lo hi)) (h2 : Ends k (midB lo hi) hi) : Ends (k + 1) lo hi := .inr ⟨h1, h2⟩
theorem Ends.cast {k j lo hi : Nat} (h : Ends k lo hi) (e : k = j) : Ends j lo hi := e ▸ h
theorem Ends.more {k : Nat} : ∀ {lo hi : Nat} (j : Nat), Ends k lo hi → k ≤ j → Ends j lo hi := by
  induction k with
  | zero => intro lo hi j h _; exact h.elim
  | succ k ih =>
    intro lo hi j h hj
    obtain ⟨i, rfl⟩ : ∃ i, j = i + 1 := ⟨j - 1, by omega⟩
    rcases h with h | ⟨h1, h2⟩
    · exact .inl h
    · exact .inr ⟨ih i h1 (by omega), ih i h2 (by omega)⟩

theorem U_grid {s r : Nat} (h : s ≤ st r) : 2 ^ s ∣ U r := by
  unfold U
  exact Nat.dvd_trans (Nat.pow_dvd_pow 2 h) (Nat.dvd_mul_left _ _)
theorem grid_lt {s a b : Nat} (ha : s ≤ st a) (hb : s ≤ st b) (h : a < b) : U a + 2 ^ s ≤ U b := by
  obtain ⟨x, hx⟩ := U_grid ha
  obtain ⟨y, hy⟩ := U_grid hb
  have hu := U_lt h
  rw [hx, hy] at hu ⊢
  have : x < y := Nat.lt_of_mul_lt_mul_left hu
  have := Nat.mul_le_mul_left (2 ^ s) (show x + 1 ≤ y from this)
  rw [Nat.mul_add, Nat.mul_one] at this
  exact this
theorem st_mono {a b : Nat} (h : a ≤ b) : st a ≤ st b := by unfold st; omega

theorem ends3 (s : Nat) : ∀ (j lo hi : Nat), s ≤ st lo → lo < hi → U hi - U lo ≤ j * 2 ^ s → Ends (j + 1) lo hi := by
  intro j
  induction j with
  | zero => intro lo hi hs hl h; have := U_lt hl; omega
  | succ j ih =>
    intro lo hi hs hl h
    by_cases hm : lo < midB lo hi ∧ midB lo hi < hi
    · have s1 : s ≤ st (midB lo hi) := Nat.le_trans hs (st_mono (Nat.le_of_lt hm.1))
      have s2 : s ≤ st hi := Nat.le_trans hs (st_mono (Nat.le_of_lt hl))
      have g1 := grid_lt hs s1 hm.1
      have g2 := grid_lt s1 s2 hm.2
      rw [Nat.add_mul, Nat.one_mul] at h
      exact (Ends.go (ih lo (midB lo hi) hs hm.1 (by omega)) (ih (midB lo hi) hi s1 hm.2 (by omega)))
    · exact Ends.stop hm

theorem ends2 (s : Nat) : ∀ (j lo hi : Nat), s ≤ st lo → st hi ≤ s + 1 → lo < hi → hi ≤ 4607182418800017408 → U hi - U lo ≤ 2 ^ j * 2 ^ s + 12 * 2 ^ s → Ends (j + 14) lo hi := by
  intro j
  induction j with
  | zero => intro lo hi hs _ hl _ h; exact ends3 s 13 lo hi hs hl (by omega)
  | succ j ih =>
    intro lo hi hs ht hl hh h
    by_cases hm : lo < midB lo hi ∧ midB lo hi < hi
    · obtain ⟨m1, m2⟩ := mid_step hl hh hm.1 hm.2
      have e : 2 ^ st hi ≤ 2 ^ (s + 1) := Nat.pow_le_pow_right (by omega) ht
      rw [Nat.pow_succ] at e
      rw [Nat.pow_succ, Nat.mul_right_comm] at h
      have u1 := U_lt hm.1
      have u2 := U_lt hm.2
      exact (Ends.go (ih lo (midB lo hi) hs (Nat.le_trans (st_mono (Nat.le_of_lt hm.2)) ht) hm.1 (by omega) (by omega))
        (ih (midB lo hi) hi (Nat.le_trans hs (st_mono (Nat.le_of_lt hm.1))) ht hm.2 hh (by omega))).cast (by omega)
    · exact (Ends.stop (k := j + 14) hm).cast (by omega)

theorem st_near {lo hi : Nat} (hl : lo < hi) (h : U hi - U lo < 1048576 * 2 ^ st hi) : st hi ≤ st lo + 1 := by
  rcases Nat.lt_or_ge (st lo + 1) (st hi) with g | g
  · -- lo's binade lies at least two below hi's: the piece holds a whole binade
    exfalso
    have hb : 4503599627370496 * 2 ^ st hi ≤ U hi := by
      unfold U mg
      refine Nat.mul_le_mul_right _ ?_
      unfold st at g
      rw [if_neg (by omega)]
      omega
    have ha : U lo < 9007199254740992 * 2 ^ st lo := by
      unfold U
      refine Nat.mul_lt_mul_of_pos_right ?_ (Nat.two_pow_pos _)
      unfold mg; split <;> omega
    have hp : 2 ^ (st lo + 2) ≤ 2 ^ st hi := Nat.pow_le_pow_right (by omega) g
    rw [Nat.pow_add] at hp
    have := Nat.two_pow_pos (st lo)
    omega
  · exact g

theorem ends1 : ∀ (n lo hi : Nat), lo < hi → hi ≤ 4607182418800017408 → (U hi - U lo) * 524291 ^ n < 1048576 * 1048576 ^ n → Ends (n + 36) lo hi := by
  intro n
  induction n with
  | zero =>
    intro lo hi hl hh h
    have hp := Nat.two_pow_pos (st hi)
    have hN : U hi - U lo < 1048576 * 2 ^ st hi := by
      simp only [Nat.pow_zero, Nat.mul_one] at h; omega
    have hs := st_near hl hN
    have e : 2 ^ st hi ≤ 2 ^ (st lo + 1) := Nat.pow_le_pow_right (by omega) hs
    rw [Nat.pow_succ] at e
    exact (ends2 (st lo) 21 lo hi (Nat.le_refl _) hs hl hh (by omega)).more _ (by omega)
  | succ n ih =>
    intro lo hi hl hh h
    by_cases hN : U hi - U lo < 1048576 * 2 ^ st hi
    · have hs := st_near hl hN
      have e : 2 ^ st hi ≤ 2 ^ (st lo + 1) := Nat.pow_le_pow_right (by omega) hs
      rw [Nat.pow_succ] at e
      exact (ends2 (st lo) 21 lo hi (Nat.le_refl _) hs hl hh (by omega)).more _ (by omega)
    · by_cases hm : lo < midB lo hi ∧ midB lo hi < hi
      · obtain ⟨m1, m2⟩ := mid_step hl hh hm.1 hm.2
        have key : ∀ M, 2 * M ≤ U hi - U lo + 6 * 2 ^ st hi → M * 524291 ^ n < 1048576 * 1048576 ^ n := by
          intro M hM
          have h1 : 1048576 * M ≤ (U hi - U lo) * 524291 := by omega
          have h2 : 1048576 * M * 524291 ^ n ≤ (U hi - U lo) * 524291 * 524291 ^ n := Nat.mul_le_mul_right _ h1
          rw [Nat.pow_succ, Nat.pow_succ] at h
          have h3 : (U hi - U lo) * 524291 * 524291 ^ n = (U hi - U lo) * (524291 ^ n * 524291) := by rw [Nat.mul_assoc, Nat.mul_comm 524291]
          rw [h3] at h2
          have h4 : 1048576 * (M * 524291 ^ n) < 1048576 * (1048576 * 1048576 ^ n) := by
            rw [← Nat.mul_assoc]
            refine Nat.lt_of_le_of_lt h2 (Nat.lt_of_lt_of_le h ?_)
            rw [Nat.mul_comm (1048576 ^ n) 1048576]
            exact Nat.le_refl _
          exact Nat.lt_of_mul_lt_mul_left h4
        exact (Ends.go (ih lo (midB lo hi) hm.1 (by omega) (key _ m1)) (ih (midB lo hi) hi hm.2 hh (key _ m2))).cast (by omega)
      · exact (Ends.stop (k := n + 36) hm).cast (by omega)

theorem big_fact : 2 ^ 1074 * 524291 ^ 1055 < 1048576 * 1048576 ^ 1055 := by decide +kernel
theorem U_one : U 4607182418800017408 = 2 ^ 1074 := by decide +kernel
theorem ends_all {lo hi : Nat} (hl : lo < hi) (hh : hi ≤ 4607182418800017408) : Ends 1091 lo hi := by
  refine ends1 1055 lo hi hl hh ?_
  have h1 : U hi - U lo ≤ 2 ^ 1074 := by rw [← U_one]; have := U_le hh; omega
  exact Nat.lt_of_le_of_lt (Nat.mul_le_mul_right _ h1) big_fact
end Go.Proofs.Ytbclfcfcpmlaaaa.Fl
