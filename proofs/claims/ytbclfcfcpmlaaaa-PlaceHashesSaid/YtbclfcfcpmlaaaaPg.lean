/- The walks of PlaceHashes and PlaceNarrows. -/
import Derived.Test.YtbclfcfcpmlaaaaPf
import Derived.Test.YtbclfcfcpmlaaaaFln
namespace Go.Proofs.Ytbclfcfcpmlaaaa
open Go.RowKit Fl

section
open Ieee
/-- a place lies in [0, 1) -/
theorem of_lt (h : Int) (h0 : 0 ≤ h) (h1 : h < 18446744073709551616) : ofI h ≤ 4607182418800017407 := by
  obtain ⟨n, hn, hnl⟩ : ∃ n : Nat, h / 2048 = (n : Int) ∧ n ≤ 9007199254740991 := ⟨(h / 2048).toNat, by omega, by omega⟩
  have ef : floatOfInt .f64 (h / 2048) = double.nearest false n 0 := by
    unfold floatOfInt
    rw [hn]
    show double.nearest (decide ((n : Int) < 0)) (n : Int).natAbs 0 = _
    rw [decide_eq_false (show ¬ (n : Int) < 0 by omega), Int.natAbs_natCast]
  have c1 : U 4845873199050653695 = 9007199254740991 * U 4607182418800017408 := by decide +kernel
  have c2 : U 4845873199050653695 = 2 ^ 53 * U 4607182418800017407 := by decide +kernel
  obtain ⟨_, hx⟩ := near_between (m := n) (p := 0) (x := 1074) (y := 0) (a := 0) (b := 4845873199050653695) (by omega) (by omega) (by rw [U_zero]; omega)
    (by rw [Nat.pow_zero, Nat.mul_one, ← U_one, c1]; exact Nat.mul_le_mul_right _ hnl)
  have e : floatBits .quo .f64 (floatOfInt .f64 (h / 2048)) 4845873199050653696 = ((double.read (floatOfInt .f64 (h / 2048))).quotient 54 (double.read 4845873199050653696)).map double.write := rfl
  have two : double.read 4845873199050653696 = .number false 4503599627370496 1 := by decide
  unfold ofI
  rw [e, two, ef]
  generalize double.nearest false n 0 = r at hx
  rw [pt_num (show r < 9218868437227405312 by omega)]
  obtain ⟨more, h54, hq⟩ := quot_num (x := r) (by omega) 1
  rw [hq]
  have hp : 0 < 2 ^ (more - 51) := Nat.two_pow_pos _
  have e1 : mg r * 2 ^ (more - 51) * 2 ^ st r = U r * 2 ^ (more - 51) := by unfold U; exact Nat.mul_right_comm _ _ _
  have e2 : ∀ m, m * 2 ^ (more + 2) = 2 ^ 53 * m * 2 ^ (more - 51) := fun m => by
    rw [show more + 2 = 53 + (more - 51) from by omega, Nat.pow_add, Nat.mul_comm (2 ^ 53) m, Nat.mul_assoc]
  have hu := U_le hx
  rw [c2] at hu
  exact (near_between (m := mg r * 2 ^ (more - 51)) (p := -1074 + (st r : Int) - 1 - (more : Int) - 1) (x := st r) (y := more + 2) (a := 0) (b := 4607182418800017407) (by omega) (by omega)
    (by rw [U_zero]; omega) (by rw [e1, e2]; exact Nat.mul_le_mul_right _ hu)).2
end
theorem ofB_lt (s : ByteArray) : ofB s ≤ 4607182418800017407 := of_lt _ (hash_b s).1 (hash_b s).2
theorem ofB_ge (s : ByteArray) : (FloatKind.f64.format.order (ofB s) 0 == some Ordering.gt || FloatKind.f64.format.order (ofB s) 0 == some Ordering.eq) = true := by
  have h := ofB_lt s
  show (fgt (ofB s) 0 || feq (ofB s) 0) = true
  rw [fgt_flt, flt_pt (by omega) (by omega), feq_pt (by omega) (by omega)]
  by_cases g : 0 < ofB s
  · rw [decide_eq_true g]; rfl
  · rw [decide_eq_true (show ofB s = 0 by omega), Bool.or_true]
theorem ofB_one (s : ByteArray) : (FloatKind.f64.format.order (ofB s) 4607182418800017408 == some Ordering.lt) = true := by
  have h := ofB_lt s
  show flt (ofB s) 4607182418800017408 = true
  rw [flt_pt (by omega) (by omega)]
  exact decide_eq_true (by omega)

set_option maxHeartbeats 1000000 in
theorem hashes_walk (s : ByteArray) (w : World) (hs : s.size ≤ maxLen) :
    Calls Try.prog 3 #[.string s] w fun e w' => e = .returned (.bool true) ∧ Below w.heap.size w w' := by
  have k1 := ofB_ge s
  have k2 := ofB_one s
  generalize hx : ofB s = x at k1 k2
  have HX := Lib.hid hx; clear hx
  have hs' : s.size ≤ 9223372036854775807 := by unfold maxLen at hs; omega
  by_cases hl : s.size ≤ 20000
  all_goals
    go_enter Try.func3, Try.ntmps3
    go_wp2_with (first
      | ((with_reducible refine (first_any _).mono ?_); rintro e w' ⟨rfl, rfl⟩)
      | ((with_reducible refine (of_any _ _ hs).mono ?_); rw [HX.out]; rintro e w' ⟨rfl, rfl⟩)
      | ((with_reducible refine (rof_any _ _ hs).mono ?_); rw [HX.out]; rintro e w' ⟨rfl, rfl⟩)
      | ((with_reducible refine (hash _ _ hs).mono ?_); rintro e w' ⟨rfl, rfl⟩)
      | ((with_reducible refine (rhash _ _ hs).mono ?_); rintro e w' ⟨rfl, rfl⟩)
      | ((with_reducible refine (rbits _ _ _).mono ?_); rintro e w' ⟨rfl, rfl⟩))
    go_ret
    exact ⟨rfl, Below.refl _ _⟩

theorem pv_pt (a : Nat) : pointV a ≤ 4607182418800017408 := by
  unfold pointV ptB
  split
  · rename_i g; simpa using g
  · omega
theorem ptB_of {a : Nat} (h : a ≤ 4607182418800017408) : ptB a = true := by unfold ptB; exact decide_eq_true h
theorem mid_vals {lo hi : Nat} (hl : lo < hi) (hh : hi ≤ 4607182418800017408) :
    (lo < midB lo hi ∧ midB lo hi < hi → midE lo hi = 0 ∧ midV lo hi = midB lo hi) ∧ (¬ (lo < midB lo hi ∧ midB lo hi < hi) → midE lo hi = 24) := by
  have a1 := ptB_of (show lo ≤ 4607182418800017408 by omega)
  have a2 := ptB_of hh
  have a3 : flt lo hi = true := by rw [flt_pt (by omega) (by omega)]; exact decide_eq_true hl
  have key : inB lo hi (midB lo hi) = decide (lo < midB lo hi ∧ midB lo hi < hi) := by
    unfold inB
    have g := mid_fin hl hh
    rw [flt_pt (by omega) g, flt_pt g (by omega)]
    by_cases h1 : lo < midB lo hi
    · by_cases h2 : midB lo hi < hi
      · rw [decide_eq_true h1, decide_eq_true h2, decide_eq_true ⟨h1, h2⟩]; rfl
      · rw [decide_eq_true h1, decide_eq_false h2, decide_eq_false (show ¬ (lo < midB lo hi ∧ midB lo hi < hi) from fun h => h2 h.2)]; rfl
    · rw [decide_eq_false h1, decide_eq_false (show ¬ (lo < midB lo hi ∧ midB lo hi < hi) from fun h => h1 h.1)]; rfl
  unfold midE midV
  rw [a1, a2, a3, key]
  refine ⟨fun h => ?_, fun h => ?_⟩
  · rw [decide_eq_true h]; exact ⟨rfl, rfl⟩
  · rw [decide_eq_false h]; rfl

/-- a slice of bools, as it lies in memory below block B -/
def Bools (w : World) (B : Nat) (A : Option Addr) (n : Nat) : Prop := ∀ k, k < n → ∃ ad b, A = some ad ∧ ad.block < B ∧ w.cell? (ad.add k) = some (.bool b)
theorem Bools.below {w w' : World} {B n : Nat} {A : Option Addr} (h : Bools w B A n) (hb : Below B w w') : Bools w' B A n := fun k hk => by
  obtain ⟨ad, b, e, h1, h2⟩ := h k hk
  have e2 : (ad.add k).block = ad.block := by unfold Addr.add; split <;> rfl
  exact ⟨ad, b, e, h1, (hb.cell (p := ad.add k) (by rw [e2]; exact h1)).trans h2⟩

set_option maxRecDepth 100000 in
set_option maxHeartbeats 1000000 in
theorem narrows_walk (lo hi : Nat) (A : Option Addr) (n c : Nat) (w : World) (hl : lo < 18446744073709551616) (hh : hi < 18446744073709551616) (hn : n ≤ maxLen) (ht : Bools w w.heap.size A n) :
    Calls Try.prog 5 #[.float .f64 lo, .float .f64 hi, .slice A n c] w fun e w' => e = .returned (.bool true) ∧ Below w.heap.size w w' := by
  unfold maxLen at hn
  by_cases hg : pointE lo = 0 ∧ pointE hi = 0 ∧ flt (pointV lo) (pointV hi) = true
  · obtain ⟨g1, g2, g3⟩ := hg
    have p1 := pv_pt lo
    have p2 := pv_pt hi
    rw [flt_pt (by omega) (by omega)] at g3
    have g4 : pointV lo < pointV hi := of_decide_eq_true g3
    have g5 : (FloatKind.f64.format.order (pointV lo) (pointV hi) == some Ordering.lt) = true := by
      have := flt_pt (a := pointV lo) (b := pointV hi) (by omega) (by omega); rw [decide_eq_true g4] at this; exact this
    have E0 := ends_all g4 p2
    clear g3
    generalize h1 : pointV lo = a at *
    generalize h2 : pointV hi = b at *
    have H1 := Lib.hid h1; have H2 := Lib.hid h2; have G1 := Lib.hid g1; have G2 := Lib.hid g2
    clear h1 h2 g1 g2
    go_enter Try.func5, Try.ntmps5
    go_wp2_with (first
      | ((with_reducible refine (first_any _).mono ?_); rintro e w' ⟨rfl, rfl⟩)
      | ((with_reducible refine (point _ _ hl).mono ?_); rw [H1.out, G1.out]; rintro e w' ⟨rfl, rfl⟩)
      | ((with_reducible refine (point _ _ hh).mono ?_); rw [H2.out, G2.out]; rintro e w' ⟨rfl, rfl⟩))
    go_loop [7, 9, 11] (fun x y i => ∃ k l u : Nat, k ≤ 1091 ∧ l < u ∧ u ≤ 4607182418800017408 ∧ Hid (Fl.Ends (1091 - k) l u) ∧ i = .int .i64 k ∧ x = .float .f64 l ∧ y = .float .f64 u) (fun _ _ i => 1100 - (intOf i).toNat)
    case atStart => exact ⟨0, a, b, by omega, g4, p2, E0, rfl, rfl, rfl⟩
    case round =>
      obtain ⟨k, l, u, hk, hlu, hu, HE, rfl, rfl, rfl⟩ := hrel
      clear E0 g4 g5 p1 p2
      obtain ⟨v1, v2⟩ := mid_vals hlu hu
      rcases Nat.lt_or_ge k 1091 with hk1 | hk1
      · obtain ⟨j, hj⟩ : ∃ j, 1091 - k = j + 1 := ⟨1090 - k, by omega⟩
        by_cases hm : l < midB l u ∧ midB l u < u
        · obtain ⟨w1, w2⟩ := v1 hm
          obtain ⟨m1, m2⟩ := hm
          have E1 : Fl.Ends j l (midB l u) ∧ Fl.Ends j (midB l u) u := by
            have h := HE.out
            rw [hj] at h
            rcases h with h | h
            · exact absurd ⟨m1, m2⟩ h
            · exact h
          clear v1 v2 HE
          generalize hx : midB l u = x at *
          clear hx
          have c1 : (FloatKind.f64.format.order x l == some Ordering.gt) = true := by
            have := fgt_flt x l
            rw [flt_pt (by omega) (by omega), decide_eq_true m1] at this; exact this
          have c2 : (FloatKind.f64.format.order x u == some Ordering.lt) = true := by
            have := flt_pt (a := x) (b := u) (by omega) (by omega)
            rw [decide_eq_true m2] at this; exact this
          have W1 := Lib.hid w1; have W2 := Lib.hid w2; have EE := Lib.hid E1; have HJ := Lib.hid hj
          have HU : Hid (l < 18446744073709551616 ∧ u < 18446744073709551616 ∧ u ≤ 4607182418800017408) := Lib.hid ⟨by omega, by omega, hu⟩
          clear w1 w2 E1 hj hu hl hh
          rcases Nat.eq_zero_or_pos n with hn0 | hn0
          · have hn1 : ¬ (0 : Int) < (n : Int) := by omega
            clear hn0
            go_wp2_with ((with_reducible refine (mid _ _ _ HU.out.1 HU.out.2.1).mono ?_); rw [W1.out, W2.out]; rintro e w' ⟨rfl, rfl⟩)
            go_round
            case rel => exact ⟨k + 1, l, x, by omega, m1, by have := HU.out; omega, (by have := HJ.out; have e : 1091 - (k + 1) = j := by omega
                                                                                        rw [e]; exact EE.out.1), by go_num, rfl, rfl⟩
            case measure => simp [intOf]; omega
          · obtain ⟨ad, bb, rfl, hbk, hcell⟩ := ht (k % n) (Nat.mod_lt _ hn0)
            have q1 : 0 ≤ (k : Int) % (n : Int) := Int.emod_nonneg _ (by omega)
            have q2 : (k : Int) % (n : Int) < (n : Int) := Int.emod_lt_of_pos _ (by omega)
            go_wp2_with ((with_reducible refine (mid _ _ _ HU.out.1 HU.out.2.1).mono ?_); rw [W1.out, W2.out]; rintro e w' ⟨rfl, rfl⟩)
            · go_round
              case rel => exact ⟨k + 1, x, u, by omega, m2, by have := HU.out; omega, (by have := HJ.out; have e : 1091 - (k + 1) = j := by omega
                                                                                          rw [e]; exact EE.out.2), by go_num, rfl, rfl⟩
              case measure => simp [intOf]; omega
            · go_round
              case rel => exact ⟨k + 1, l, x, by omega, m1, by have := HU.out; omega, (by have := HJ.out; have e : 1091 - (k + 1) = j := by omega
                                                                                          rw [e]; exact EE.out.1), by go_num, rfl, rfl⟩
              case measure => simp [intOf]; omega
        · have V2 := Lib.hid (v2 hm)
          have HU : Hid (l < 18446744073709551616 ∧ u < 18446744073709551616 ∧ u ≤ 4607182418800017408) := Lib.hid ⟨by omega, by omega, hu⟩
          clear v1 v2 hm hu hl hh hlu
          go_wp2_with (first
            | ((with_reducible refine (mid _ _ _ HU.out.1 HU.out.2.1).mono ?_); rw [V2.out]; rintro e w' ⟨rfl, rfl⟩)
            | ((with_reducible refine (first_any _).mono ?_); rintro e w' ⟨rfl, rfl⟩))
          go_ret
          exact ⟨rfl, Below.refl _ _⟩
      · have h0 := HE.out
        rw [show 1091 - k = 0 from by omega] at h0
        exact h0.elim
  · have HG := Lib.hid hg
    clear hg
    rcases Bool.eq_false_or_eq_true (pointE lo != 0) with g1 | g1
    · go_enter Try.func5, Try.ntmps5
      go_wp2_with (first
        | ((with_reducible refine (first_any _).mono ?_); rintro e w' ⟨rfl, rfl⟩)
        | ((with_reducible refine (point _ _ hl).mono ?_); rintro e w' ⟨rfl, rfl⟩)
        | ((with_reducible refine (point _ _ hh).mono ?_); rintro e w' ⟨rfl, rfl⟩))
      go_ret
      exact ⟨rfl, Below.refl _ _⟩
    · rcases Bool.eq_false_or_eq_true (pointE hi != 0) with g2 | g2
      · go_enter Try.func5, Try.ntmps5
        go_wp2_with (first
          | ((with_reducible refine (first_any _).mono ?_); rintro e w' ⟨rfl, rfl⟩)
          | ((with_reducible refine (point _ _ hl).mono ?_); rintro e w' ⟨rfl, rfl⟩)
          | ((with_reducible refine (point _ _ hh).mono ?_); rintro e w' ⟨rfl, rfl⟩))
        go_ret
        exact ⟨rfl, Below.refl _ _⟩
      · have g3 : (FloatKind.f64.format.order (pointV lo) (pointV hi) == some Ordering.lt) = false := by
          rcases Bool.eq_false_or_eq_true (FloatKind.f64.format.order (pointV lo) (pointV hi) == some Ordering.lt) with g | g
          · exact absurd ⟨by simpa using g1, by simpa using g2, g⟩ HG.out
          · exact g
        go_enter Try.func5, Try.ntmps5
        go_wp2_with (first
          | ((with_reducible refine (first_any _).mono ?_); rintro e w' ⟨rfl, rfl⟩)
          | ((with_reducible refine (point _ _ hl).mono ?_); rintro e w' ⟨rfl, rfl⟩)
          | ((with_reducible refine (point _ _ hh).mono ?_); rintro e w' ⟨rfl, rfl⟩))
        go_ret
        exact ⟨rfl, Below.refl _ _⟩
end Go.Proofs.Ytbclfcfcpmlaaaa
