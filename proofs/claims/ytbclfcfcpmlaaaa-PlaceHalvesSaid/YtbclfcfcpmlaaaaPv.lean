/- The walk of PlaceHalves. -/
import Derived.Test.YtbclfcfcpmlaaaaPu
namespace Go.Proofs.Ytbclfcfcpmlaaaa
open Go.RowKit Fl
attribute [local go_sem] run_store_float
attribute [local go_sem] Rg.val
attribute [local go_sem ↓] Go.wp_at_zero Go.wp_at_succ

theorem bits_self (a : Nat) (w : World) : Calls Try.prog 15 #[.float .f64 a, .float .f64 a] w fun e w' => e = .returned (.bool true) ∧ w = w' :=
  (rbits a a w).mono fun e w' h => ⟨by rw [h.1]; simp, h.2⟩

theorem eq_zero (w : World) : (binOp .eql 39 (.agg #[.int .i64 0, .int .i64 0, .float .f64 0, .float .f64 0]) (.agg #[.int .i64 0, .int .i64 0, .float .f64 0, .float .f64 0])).run Try.prog w = .ok (.bool true) w := by kernel_rfl

set_option maxRecDepth 100000 in
set_option maxHeartbeats 4000000 in
theorem halves_bad (r : Rg) (x : Nat) (child : Int) (y : Nat) (w : World) (hok : r.ok) (hx : x < 18446744073709551616) (he : ¬ splitE r x child = 0) :
    Calls Try.prog 10 #[r.val, .float .f64 x, .int .i64 child, .float .f64 y] w fun e w' => e = .returned (.bool true) ∧ Below w.heap.size w w' := by
  have HX := Lib.hid hx; clear hx
  have hL : splitL r x child = ⟨0, 0, 0, 0⟩ := by unfold splitL; rw [if_neg he]
  have hU : splitU r x child = ⟨0, 0, 0, 0⟩ := by unfold splitU; rw [if_neg he]
  have HL := Lib.hid hL; have HU := Lib.hid hU; clear hL hU
  have he' : (splitE r x child != 0) = true := by simpa using he
  generalize hE : splitE r x child = E at he he'
  have HE := Lib.hid hE; clear hE
  have q0 := fun w => eq_zero w
  go_enter Try.func10, Try.ntmps10
  go_wp2_with (first
    | ((with_reducible refine (first_any _).mono ?_); rintro e w1 ⟨rfl, rfl⟩)
    | ((with_reducible refine (split_any r x child _ hok HX.out).mono ?_); rw [HL.out, HU.out, HE.out]; rintro e w1 ⟨rfl, hb1⟩; obtain ⟨hc1, hf1, hz1⟩ := bcell hb1; simp at hz1; have hz1' : w.heap.size < w1.heap.size := by omega))
  go_ret
  refine ⟨rfl, ?_⟩
  have h1 : Below w.heap.size w w1 := ((Below.refl _ _).alloc (Nat.le_refl _) _).trans (hb1.mono (by simp))
  go_grown

/-- a range that is split is its two halves -/
theorem halves_in {r : Rg} {x : Nat} {child : Int} (y : Nat) (he : splitE r x child = 0) :
    (inR r y = true ∧ inR ⟨r.id, r.ep + 1, r.lo, x⟩ y = true ∧ inR ⟨child, 0, x, r.hi⟩ y = false) ∨
    (inR r y = true ∧ inR ⟨r.id, r.ep + 1, r.lo, x⟩ y = false ∧ inR ⟨child, 0, x, r.hi⟩ y = true) ∨
    (inR r y = false ∧ inR ⟨r.id, r.ep + 1, r.lo, x⟩ y = false ∧ inR ⟨child, 0, x, r.hi⟩ y = false) := by
  have hb : splitBad r x child = false := by
    unfold splitE at he
    cases h : splitBad r x child
    · rfl
    · rw [h] at he; simp at he
  have hf : (flt r.lo x && flt x r.hi) = true := by
    unfold splitE at he
    rw [hb] at he
    cases h : (flt r.lo x && flt x r.hi)
    · rw [h] at he; simp at he
    · rfl
  have hm : mayR r = true := by unfold splitBad at hb; simp at hb; simp [hb]
  obtain ⟨m1, m2, _⟩ := mayR_lo hm
  have hp : ptB x = true := by unfold splitBad at hb; simp at hb; simp [hb]
  have hx : x ≤ 4607182418800017408 := by unfold ptB at hp; simpa using hp
  simp only [Bool.and_eq_true] at hf
  obtain ⟨f1, f2⟩ := hf
  rw [flt_pt (by omega) (by omega)] at f1 f2
  have g1 : r.lo < x := of_decide_eq_true f1
  have g2 : x < r.hi := of_decide_eq_true f2
  have u1 := U_lt g1
  have u2 := U_lt g2
  unfold inR
  simp only [fgt_flt, flt_K, feq_K, K_pos (show r.lo ≤ 9218868437227405312 by omega), K_pos (show x ≤ 9218868437227405312 by omega), K_pos (show r.hi ≤ 9218868437227405312 by omega)]
  cases K y with
  | none => simp
  | some k =>
    simp only [Bool.and_eq_true, Bool.or_eq_true, decide_eq_true_eq, Bool.and_eq_false_iff, Bool.or_eq_false_iff, decide_eq_false_iff_not]
    omega

set_option maxRecDepth 100000 in
set_option maxHeartbeats 8000000 in
theorem halves_ok (r : Rg) (x : Nat) (child : Int) (y : Nat) (w : World) (hok : r.ok) (hx : x < 18446744073709551616) (he : splitE r x child = 0) :
    Calls Try.prog 10 #[r.val, .float .f64 x, .int .i64 child, .float .f64 y] w fun e w' => e = .returned (.bool true) ∧ Below w.heap.size w w' := by
  have HX := Lib.hid hx; clear hx
  have hL : splitL r x child = ⟨r.id, r.ep + 1, r.lo, x⟩ := by unfold splitL; rw [if_pos he]
  have hU : splitU r x child = ⟨child, 0, x, r.hi⟩ := by unfold splitU; rw [if_pos he]
  have HL := Lib.hid hL; have HU := Lib.hid hU; clear hL hU
  have hc := halves_in y he
  have HE := Lib.hid he; clear he
  generalize hep : r.ep + 1 = p at HL hc
  clear hep
  rcases hc with ⟨c1, c2, c3⟩ | ⟨c1, c2, c3⟩ | ⟨c1, c2, c3⟩
  all_goals
    have C1 := Lib.hid c1; have C2 := Lib.hid c2; have C3 := Lib.hid c3
    clear c1 c2 c3
    go_enter Try.func10, Try.ntmps10
    go_wp2_with (first
      | ((with_reducible refine (first_any _).mono ?_); rintro e w1 ⟨rfl, rfl⟩)
      | ((with_reducible refine (in_any r y _).mono ?_); rw [C1.out]; rintro e w1 ⟨rfl, rfl⟩)
      | ((with_reducible refine (split_any r x child _ hok HX.out).mono ?_); rw [HL.out, HU.out, HE.out]; rintro e w1 ⟨rfl, hb1⟩; obtain ⟨hc1, hf1, hz1⟩ := bcell hb1; simp at hz1; have hz1' : w.heap.size < w1.heap.size := by omega))
    have P0 := ((((Blk.new w 39 #[.int .i64 r.id, .int .i64 r.ep, .float .f64 r.lo, .float .f64 r.hi]).below hb1 (by simp)).alloc (.cells #[.int .i64 r.id, .int .i64 p, .float .f64 r.lo, .float .f64 x] 39)).alloc (.cells #[.int .i64 child, .int .i64 0, .float .f64 x, .float .f64 r.hi] 39)).alloc (.cells #[.int .i64 r.id, .int .i64 r.ep, .float .f64 r.lo, .float .f64 r.hi] 39)
    have P1 := ((Blk.new w1 39 #[.int .i64 r.id, .int .i64 p, .float .f64 r.lo, .float .f64 x]).alloc (.cells #[.int .i64 child, .int .i64 0, .float .f64 x, .float .f64 r.hi] 39)).alloc (.cells #[.int .i64 r.id, .int .i64 r.ep, .float .f64 r.lo, .float .f64 r.hi] 39)
    have P2 := (Blk.new' (w := w1.alloc (.cells #[.int .i64 r.id, .int .i64 p, .float .f64 r.lo, .float .f64 x] 39)) (g := w1.heap.size + 1) 39 #[.int .i64 child, .int .i64 0, .float .f64 x, .float .f64 r.hi] (by simp)).alloc (.cells #[.int .i64 r.id, .int .i64 r.ep, .float .f64 r.lo, .float .f64 r.hi] 39)
    have h1 : Below w.heap.size w w1 := ((Below.refl _ _).alloc (Nat.le_refl _) _).trans (hb1.mono (by simp))
    have hB : Below w.heap.size w (((w1.alloc (.cells #[.int .i64 r.id, .int .i64 p, .float .f64 r.lo, .float .f64 x] 39)).alloc (.cells #[.int .i64 child, .int .i64 0, .float .f64 x, .float .f64 r.hi] 39)).alloc (.cells #[.int .i64 r.id, .int .i64 r.ep, .float .f64 r.lo, .float .f64 r.hi] 39)) := ((h1.alloc (by omega) _).alloc (by simp; omega) _).alloc (by simp; omega) _
    generalize hX : ((w1.alloc (.cells #[.int .i64 r.id, .int .i64 p, .float .f64 r.lo, .float .f64 x] 39)).alloc (.cells #[.int .i64 child, .int .i64 0, .float .f64 x, .float .f64 r.hi] 39)).alloc (.cells #[.int .i64 r.id, .int .i64 r.ep, .float .f64 r.lo, .float .f64 r.hi] 39) = X at *
    clear hX
    obtain ⟨p00, p01, p02, p03, p04, _, _, _, _⟩ := P0.four
    obtain ⟨p10, p11, p12, p13, p14, _, _, _, _⟩ := P1.four
    obtain ⟨p20, p21, p22, p23, p24, _, _, _, _⟩ := P2.four
    clear hc1 hf1 P0 P1 P2
    have z01 : w.heap.size < X.heap.size + 1 := by omega
    have z02 : w.heap.size < X.heap.size + 1 + 1 := by omega
    have z03 : w.heap.size < X.heap.size + 1 + 1 + 1 := by omega
    have z04 : w.heap.size < X.heap.size + 1 + 1 + 1 + 1 := by omega
    have z11 : w1.heap.size < X.heap.size + 1 := by omega
    have z12 : w1.heap.size < X.heap.size + 1 + 1 := by omega
    have z13 : w1.heap.size < X.heap.size + 1 + 1 + 1 := by omega
    have z14 : w1.heap.size < X.heap.size + 1 + 1 + 1 + 1 := by omega
    have z21 : w1.heap.size + 1 < X.heap.size + 1 := by omega
    have z22 : w1.heap.size + 1 < X.heap.size + 1 + 1 := by omega
    have z23 : w1.heap.size + 1 < X.heap.size + 1 + 1 + 1 := by omega
    have z24 : w1.heap.size + 1 < X.heap.size + 1 + 1 + 1 + 1 := by omega
    go_region_held3 (fun w' => (∀ b o, b < X.heap.size → w'.cell? ⟨b, o, none⟩ = X.cell? ⟨b, o, none⟩) ∧ X.heap.size ≤ w'.heap.size ∧ Below X.heap.size X w')
      (first | exact ofBelow (by go_grown; done))
      (first
        | ((with_reducible refine (in_any ⟨r.id, p, r.lo, x⟩ y _).mono ?_); rw [C2.out]; rintro e w1 ⟨rfl, rfl⟩)
        | ((with_reducible refine (in_any ⟨child, 0, x, r.hi⟩ y _).mono ?_); rw [C3.out]; rintro e w1 ⟨rfl, rfl⟩))
    go_wp2_with (first
      | ((with_reducible refine (first_any _).mono ?_); rintro e w1 ⟨rfl, rfl⟩)
      | ((with_reducible refine (bits_self _ _).mono ?_); rintro e w1 ⟨rfl, rfl⟩)
      | ((with_reducible refine (in_any ⟨r.id, p, r.lo, x⟩ y _).mono ?_); rw [C2.out]; rintro e w1 ⟨rfl, rfl⟩)
      | ((with_reducible refine (in_any ⟨child, 0, x, r.hi⟩ y _).mono ?_); rw [C3.out]; rintro e w1 ⟨rfl, rfl⟩))
    first | (go_ret; exact ⟨rfl, lawEnd hB (by go_grown)⟩) | (trace_state; sorry)

theorem halves_walk (r : Rg) (x : Nat) (child : Int) (y : Nat) (w : World) (hok : r.ok) (hx : x < 18446744073709551616) :
    Calls Try.prog 10 #[r.val, .float .f64 x, .int .i64 child, .float .f64 y] w fun e w' => e = .returned (.bool true) ∧ Below w.heap.size w w' := by
  by_cases he : splitE r x child = 0
  · exact halves_ok r x child y w hok hx he
  · exact halves_bad r x child y w hok hx he
end Go.Proofs.Ytbclfcfcpmlaaaa
