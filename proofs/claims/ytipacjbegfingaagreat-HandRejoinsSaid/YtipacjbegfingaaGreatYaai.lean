/- A sort's moves: two elements, ranges, blocks. -/
import Derived.Test.YtipacjbegfingaaGreatYaab
import Derived.Test.YtipacjbegfingaaGreatYaae
namespace Go.Proofs.YtipacjbegfingaaGreat
set_option linter.unusedVariables false
open Go.RowKit
attribute [local go_sem] run_store_float

theorem hh_len (a : Hh) : a.cells.length = 2 := rfl
def SrR {α : Type} (cells : α → List Value) (E : Nat) (T : TypeId) (f : Nat → α) (a b m g c n : Nat) (w : World) (i : Value) (wr : World) : Prop :=
  ∃ k : Nat, k ≤ m ∧ i = .int .i64 (k : Int) ∧ RowF cells E T wr g c n (srF f a b k) ∧ At1 w wr g
def RoR {α : Type} (cells : α → List Value) (E : Nat) (T : TypeId) (f : Nat → α) (a m b g c n : Nat) (w : World) (u v : Value) (wr : World) : Prop :=
  ∃ (i j : Nat) (d : Nat → α), 0 < i ∧ 0 < j ∧ i ≤ m - a ∧ j ≤ b - m ∧ u = .int .i64 (i : Int) ∧ v = .int .i64 (j : Int) ∧ roF d (m - i) m (m + j) = roF f a m b ∧ RowF cells E T wr g c n d ∧ At1 w wr g

set_option maxRecDepth 100000 in
set_option maxHeartbeats 2000000 in
theorem swapRange_w (g c n : Nat) (f : Nat → Wt) (a b m : Nat) (cmp : Value) (w : World) (h : RowF Wt.cells 4 86 w g c n f) (hab : a + m ≤ b) (hb : b + m ≤ n) :
    Calls Tryz.prog 141 #[.slice (some ⟨g, 0, none⟩) n c, .int .i64 (a : Int), .int .i64 (b : Int), .int .i64 (m : Int), cmp] w fun e w' => e = .returned (.tuple #[]) ∧ RowF Wt.cells 4 86 w' g c n (srF f a b m) ∧ At1 w w' g := by
  have hn := h.cap
  unfold maxLen at hn
  go_enter Tryz.func141, Tryz.ntmps141
  go_wp2
  go_loopw [10] (fun i wr => SrR Wt.cells 4 86 f a b m g c n w i wr) (fun i _ => m - (intOf i).toNat)
  case atStart => exact ⟨0, by omega, rfl, by rw [srF_zero]; exact h, At1.refl _ _⟩
  case round =>
    obtain ⟨k, hk, rfl, hr, ha⟩ := hrel
    by_cases hlt : k < m
    · have hd1 : decide ((k : Int) < (m : Int)) = true := by simp; omega
      obtain ⟨p, hp⟩ : ∃ p, p = a + k := ⟨_, rfl⟩
      obtain ⟨q, hq⟩ : ∃ q, q = b + k := ⟨_, rfl⟩
      have w1 : IntKind.i64.wrap ((a : Int) + (k : Int)) = (p : Int) := by rw [IntKind.wrap_i64]; omega
      have w2 : IntKind.i64.wrap ((b : Int) + (k : Int)) = (q : Int) := by rw [IntKind.wrap_i64]; omega
      go_wp2_with fail
      have h1 : p < n := by omega
      have h2 : q < n := by omega
      have k1 : (0 : Int) ≤ (p : Int) := by omega
      have k2 : (p : Int) < (n : Int) := by omega
      have k3 : (0 : Int) ≤ (q : Int) := by omega
      have k4 : (q : Int) < (n : Int) := by omega
      have HP := Lib.hid (⟨hp, hq⟩ : p = a + k ∧ q = b + k)
      clear hp hq
      have c0 := hr.get (j := 0) h1 rfl
      have c1 := hr.get (j := 1) h1 rfl
      have c2 := hr.get (j := 2) h1 rfl
      have c3 := hr.get (j := 3) h1 rfl
      have d0 := hr.get (j := 0) h2 rfl
      have d1 := hr.get (j := 1) h2 rfl
      have d2 := hr.get (j := 2) h2 rfl
      have d3 := hr.get (j := 3) h2 rfl
      simp only [Nat.add_zero] at c0 d0
      refine wp_region_held_drew (S := fun _ => True) (by kernel_rfl) trivial (fun hHeld => ?_)
      refine t0 0 16 ?_
      go_frame
      refine t0 1 17 ?_
      go_frame
      refine t0 2 18 ?_
      go_frame
      refine t0 3 19 ?_
      go_frame
      refine t0 4 20 ?_
      go_frame
      refine t0 5 21 ?_
      go_frame
      refine t0 6 22 ?_
      go_frame
      refine t0 7 23 ?_
      go_frame
      refine t0 8 24 ?_
      go_frame
      refine t0 9 25 ?_
      go_frame
      refine t0 10 26 ?_
      go_frame
      refine t0 11 27 ?_
      go_frame
      refine t0 12 28 ?_
      go_frame
      refine t0 14 30 ?_
      go_frame
      refine t0 15 31 ?_
      go_frame
      refine t0 16 32 ?_
      go_frame
      refine t0 17 33 ?_
      go_frame
      refine t0 18 34 ?_
      go_frame
      refine wpAnyH_ready (rs := [13, 19]) (by kernel_rfl) (by simp) (AllReadyH.cons (o := ⟨some 29, _, _, _, _, _⟩) rfl (fun K hK => ?_) (AllReadyH.cons (o := ⟨some 35, _, _, _, _, _⟩) rfl (fun K hK => ?_) AllReadyH.nil))
      rotate_left
      go_simp
      refine hK.out _ _ trivial (fun hHeld => ?_)
      clear hK K
      try go_frame
      refine wpAnyH_ready (rs := [13]) (by kernel_rfl) (by simp) (AllReadyH.cons (o := ⟨some 29, _, _, _, _, _⟩) rfl (fun K hK => ?_) AllReadyH.nil)
      go_simp
      refine hK.out _ _ trivial (fun hHeld => ?_)
      clear hK K
      try go_frame
      rotate_left
      go_simp
      refine hK.out _ _ trivial (fun hHeld => ?_)
      clear hK K
      try go_frame
      refine wpAnyH_ready (rs := [19]) (by kernel_rfl) (by simp) (AllReadyH.cons (o := ⟨some 35, _, _, _, _, _⟩) rfl (fun K hK => ?_) AllReadyH.nil)
      go_simp
      refine hK.out _ _ trivial (fun hHeld => ?_)
      clear hK K
      try go_frame
      all_goals
        refine t0 20 36 ?_
        go_frame
        have hr1 := RowF.put wt_len hr.drew h1 ((srF f a b k) q)
        have hr2 := RowF.swap wt_len hr.drew h1 h2
        have ha2 := ((ha.drew).setCells (Wt.cells ((srF f a b k) q)) (p * 4)).setCells (Wt.cells ((srF f a b k) p)) (q * 4)
        have hth := hr1.there h2
        refine wpAnyH_store_mid (i := 21) (by kernel_rfl) rfl rfl _ _ _ rfl g (p * 4) (Wt.cells ((srF f a b k) q)).toArray (by kernel_rfl) (by kernel_rfl) (hr.there h1) (by kernel_rfl) (by kernel_rfl) trivial ?_
        refine t0 22 37 ?_
        go_frame
        refine wpAnyH_store_mid (i := 23) (by kernel_rfl) rfl rfl _ _ _ rfl g (q * 4) (Wt.cells ((srF f a b k) p)).toArray (by kernel_rfl) (by kernel_rfl) hth (by kernel_rfl) (by kernel_rfl) trivial ?_
        refine wpAnyH_done (by kernel_rfl) ?_ _
        clear c0 c1 c2 c3 d0 d1 d2 d3 hr1 hth
        replace hr2 : RowF Wt.cells 4 86 ((wr.drew.setCells g (p * 4) (Wt.cells ((srF f a b k) q)).toArray.toList).setCells g (q * 4) (Wt.cells ((srF f a b k) p)).toArray.toList) g c n (sw (srF f a b k) p q) := hr2
        replace ha2 : At1 w ((wr.drew.setCells g (p * 4) (Wt.cells ((srF f a b k) q)).toArray.toList).setCells g (q * 4) (Wt.cells ((srF f a b k) p)).toArray.toList) g := ha2
        generalize ((wr.drew.setCells g (p * 4) (Wt.cells ((srF f a b k) q)).toArray.toList).setCells g (q * 4) (Wt.cells ((srF f a b k) p)).toArray.toList) = wq at *
        go_frame
        rw [show sw (srF f a b k) p q = srF f a b (k + 1) by rw [HP.out.1, HP.out.2]; exact (srF_step f (by omega)).symm] at hr2
        go_wp2
        go_roundw
        case rel => exact ⟨k + 1, by omega, by go_num, hr2, ha2⟩
        case measure => simp [intOf]; omega
    · have hd1 : decide ((k : Int) < (m : Int)) = false := by simp; omega
      obtain rfl : k = m := by omega
      go_wp2
      go_end0
      exact ⟨rfl, hr, ha⟩

set_option maxRecDepth 100000 in
set_option maxHeartbeats 2000000 in
theorem rotate_w (g c n : Nat) (f : Nat → Wt) (a m b : Nat) (cmp : Value) (w : World) (h : RowF Wt.cells 4 86 w g c n f) (ham : a < m) (hmb : m < b) (hb : b ≤ n) :
    Calls Tryz.prog 139 #[.slice (some ⟨g, 0, none⟩) n c, .int .i64 (a : Int), .int .i64 (m : Int), .int .i64 (b : Int), cmp] w fun e w' => e = .returned (.tuple #[]) ∧ RowF Wt.cells 4 86 w' g c n (roF f a m b) ∧ At1 w w' g := by
  have hn := h.cap
  unfold maxLen at hn
  obtain ⟨i0, hi0⟩ : ∃ i, i = m - a := ⟨_, rfl⟩
  obtain ⟨j0, hj0⟩ : ∃ j, j = b - m := ⟨_, rfl⟩
  have w1 : IntKind.i64.wrap ((m : Int) - (a : Int)) = (i0 : Int) := by rw [IntKind.wrap_i64]; omega
  have w2 : IntKind.i64.wrap ((b : Int) - (m : Int)) = (j0 : Int) := by rw [IntKind.wrap_i64]; omega
  have HP := Lib.hid (⟨hi0, hj0⟩ : i0 = m - a ∧ j0 = b - m)
  clear hi0 hj0
  go_enter Tryz.func139, Tryz.ntmps139
  go_wp2
  go_loopw [10, 11] (fun u v wr => RoR Wt.cells 4 86 f a m b g c n w u v wr) (fun u v _ => (intOf u).toNat + (intOf v).toNat)
  case atStart =>
    obtain ⟨e1, e2⟩ := HP.out
    exact ⟨i0, j0, f, by omega, by omega, by omega, by omega, rfl, rfl, by rw [e1, e2, show m - (m - a) = a by omega, show m + (b - m) = b by omega], h, At1.refl _ _⟩
  case round =>
    obtain ⟨i, j, d, hi, hj, hia, hjb, rfl, rfl, hd, hr, ha⟩ := hrel
    clear HP w1 w2
    have HD := Lib.hid hd
    clear hd
    obtain ⟨p, hp⟩ : ∃ p, p = m - i := ⟨_, rfl⟩
    have w3 : IntKind.i64.wrap ((m : Int) - (i : Int)) = (p : Int) := by rw [IntKind.wrap_i64]; omega
    have HP := Lib.hid hp
    rcases Nat.lt_trichotomy i j with hl | rfl | hl
    · have q1 : ((i : Int) == (j : Int)) = false := by simp; omega
      have q2 : decide ((j : Int) < (i : Int)) = false := by simp; omega
      have w4 : IntKind.i64.wrap ((m : Int) + (j : Int)) = ((m + j : Nat) : Int) := by rw [IntKind.wrap_i64]; omega
      obtain ⟨q, hq⟩ : ∃ q, q = m + j - i := ⟨_, rfl⟩
      obtain ⟨x, hx⟩ : ∃ x, x = j - i := ⟨_, rfl⟩
      have w5 : IntKind.i64.wrap ((m : Int) + (j : Int) - (i : Int)) = (q : Int) := by rw [IntKind.wrap_i64]; omega
      have w6 : IntKind.i64.wrap ((j : Int) - (i : Int)) = (x : Int) := by rw [IntKind.wrap_i64]; omega
      have hS := swapRange_w g c n d p q i cmp wr hr (by omega) (by omega)
      have hx1 : 0 < x := by omega
      have hx2 : x ≤ b - m := by omega
      have hx3 : x + i < j + i := by omega
      have HQ := Lib.hid (⟨hq, hx⟩ : q = m + j - i ∧ x = j - i)
      clear hp hq hx
      go_wp2_with ((with_reducible refine hS.mono ?_); rintro e w7 ⟨rfl, hr7, ha7⟩)
      go_roundw
      case rel =>
        refine ⟨i, x, _, hi, hx1, hia, hx2, rfl, by go_num, ?_, hr7, ha.trans ha7⟩
        rw [← HD.out, HP.out, HQ.out.1, HQ.out.2]
        exact roF_right d (by omega) hl
      case measure => simp [intOf]; omega
    · have q1 : ((i : Int) == (i : Int)) = true := by simp
      have hS := swapRange_w g c n d p m i cmp wr hr (by omega) (by omega)
      clear hp
      go_wp2_with ((with_reducible refine hS.mono ?_); rintro e w7 ⟨rfl, hr7, ha7⟩)
      go_end0
      refine ⟨rfl, ?_, ha.trans ha7⟩
      rw [← HD.out, ← roF_same d (by omega), ← HP.out]
      exact hr7
    · have q1 : ((i : Int) == (j : Int)) = false := by simp; omega
      have q2 : decide ((j : Int) < (i : Int)) = true := by simp; omega
      obtain ⟨x, hx⟩ : ∃ x, x = i - j := ⟨_, rfl⟩
      have w6 : IntKind.i64.wrap ((i : Int) - (j : Int)) = (x : Int) := by rw [IntKind.wrap_i64]; omega
      have hS := swapRange_w g c n d p m j cmp wr hr (by omega) (by omega)
      have hx1 : 0 < x := by omega
      have hx2 : x ≤ m - a := by omega
      have hx3 : x + j < i + j := by omega
      have HQ := Lib.hid hx
      clear hp hx
      go_wp2_with ((with_reducible refine hS.mono ?_); rintro e w7 ⟨rfl, hr7, ha7⟩)
      go_roundw
      case rel =>
        refine ⟨x, j, _, hx1, hj, hx2, hjb, by go_num, rfl, ?_, hr7, ha.trans ha7⟩
        rw [← HD.out, HP.out, HQ.out]
        exact roF_left d (by omega) hl
      case measure => simp [intOf]; omega

set_option maxRecDepth 100000 in
set_option maxHeartbeats 2000000 in
theorem swapRange_s (g c n : Nat) (f : Nat → ByteArray) (a b m : Nat) (cmp : Value) (w : World) (h : RowF keyCells 1 9 w g c n f) (hab : a + m ≤ b) (hb : b + m ≤ n) :
    Calls Tryz.prog 140 #[.slice (some ⟨g, 0, none⟩) n c, .int .i64 (a : Int), .int .i64 (b : Int), .int .i64 (m : Int), cmp] w fun e w' => e = .returned (.tuple #[]) ∧ RowF keyCells 1 9 w' g c n (srF f a b m) ∧ At1 w w' g := by
  have hn := h.cap
  unfold maxLen at hn
  go_enter Tryz.func140, Tryz.ntmps140
  go_wp2
  go_loopw [10] (fun i wr => SrR keyCells 1 9 f a b m g c n w i wr) (fun i _ => m - (intOf i).toNat)
  case atStart => exact ⟨0, by omega, rfl, by rw [srF_zero]; exact h, At1.refl _ _⟩
  case round =>
    obtain ⟨k, hk, rfl, hr, ha⟩ := hrel
    by_cases hlt : k < m
    · have hd1 : decide ((k : Int) < (m : Int)) = true := by simp; omega
      obtain ⟨p, hp⟩ : ∃ p, p = a + k := ⟨_, rfl⟩
      obtain ⟨q, hq⟩ : ∃ q, q = b + k := ⟨_, rfl⟩
      have w1 : IntKind.i64.wrap ((a : Int) + (k : Int)) = (p : Int) := by rw [IntKind.wrap_i64]; omega
      have w2 : IntKind.i64.wrap ((b : Int) + (k : Int)) = (q : Int) := by rw [IntKind.wrap_i64]; omega
      go_wp2_with fail
      have h1 : p < n := by omega
      have h2 : q < n := by omega
      have k1 : (0 : Int) ≤ (p : Int) := by omega
      have k2 : (p : Int) < (n : Int) := by omega
      have k3 : (0 : Int) ≤ (q : Int) := by omega
      have k4 : (q : Int) < (n : Int) := by omega
      have HP := Lib.hid (⟨hp, hq⟩ : p = a + k ∧ q = b + k)
      clear hp hq
      have c0 := hr.get (j := 0) h1 rfl
      have d0 := hr.get (j := 0) h2 rfl
      simp only [Nat.mul_one, Nat.add_zero] at c0 d0
      refine wp_region_held_drew (S := fun _ => True) (by kernel_rfl) trivial (fun hHeld => ?_)
      refine t0 0 16 ?_
      go_frame
      refine t0 1 17 ?_
      go_frame
      refine t0 2 18 ?_
      go_frame
      refine t0 3 19 ?_
      go_frame
      refine t0 4 20 ?_
      go_frame
      refine t0 5 21 ?_
      go_frame
      refine t0 6 22 ?_
      go_frame
      refine t0 7 23 ?_
      go_frame
      refine t0 8 24 ?_
      go_frame
      refine t0 9 25 ?_
      go_frame
      refine t0 10 26 ?_
      go_frame
      refine t0 11 27 ?_
      go_frame
      refine t0 12 28 ?_
      go_frame
      refine t0 14 30 ?_
      go_frame
      refine t0 15 31 ?_
      go_frame
      refine t0 16 32 ?_
      go_frame
      refine t0 17 33 ?_
      go_frame
      refine t0 18 34 ?_
      go_frame
      refine wpAnyH_ready (rs := [13, 19]) (by kernel_rfl) (by simp) (AllReadyH.cons (o := ⟨some 29, _, _, _, _, _⟩) rfl (fun K hK => ?_) (AllReadyH.cons (o := ⟨some 35, _, _, _, _, _⟩) rfl (fun K hK => ?_) AllReadyH.nil))
      rotate_left
      go_simp
      refine hK.out _ _ trivial (fun hHeld => ?_)
      clear hK K
      try go_frame
      refine wpAnyH_ready (rs := [13]) (by kernel_rfl) (by simp) (AllReadyH.cons (o := ⟨some 29, _, _, _, _, _⟩) rfl (fun K hK => ?_) AllReadyH.nil)
      go_simp
      refine hK.out _ _ trivial (fun hHeld => ?_)
      clear hK K
      try go_frame
      rotate_left
      go_simp
      refine hK.out _ _ trivial (fun hHeld => ?_)
      clear hK K
      try go_frame
      refine wpAnyH_ready (rs := [19]) (by kernel_rfl) (by simp) (AllReadyH.cons (o := ⟨some 35, _, _, _, _, _⟩) rfl (fun K hK => ?_) AllReadyH.nil)
      go_simp
      refine hK.out _ _ trivial (fun hHeld => ?_)
      clear hK K
      try go_frame
      all_goals
        refine t0 20 36 ?_
        go_frame
        have hr1 := RowF.put ky_len hr.drew h1 ((srF f a b k) q)
        have hr2 := RowF.swap ky_len hr.drew h1 h2
        have ha2 := ((ha.drew).setCells (keyCells ((srF f a b k) q)) (p * 1)).setCells (keyCells ((srF f a b k) p)) (q * 1)
        have hth := hr1.there h2
        simp only [Nat.mul_one] at hr2 ha2 hr1
        have f1 := hr.frozen p
        have f2 := hr1.frozen q
        replace f2 : ((wr.setCell ⟨g, p, none⟩ (.string ((srF f a b k) q))).drew).frozen? ⟨g, q, none⟩ = false := f2
        have e2 : (((wr.setCell ⟨g, p, none⟩ (.string ((srF f a b k) q))).drew).cell? ⟨g, q, none⟩).isSome = true := by have h5 := (hth 0 (by omega)).1; simp only [Nat.mul_one, Nat.add_zero] at h5; exact h5
        obtain ⟨v2, e3⟩ := Option.isSome_iff_exists.1 e2
        refine wpAnyH_ready (rs := [21]) (by kernel_rfl) (by simp) (AllReadyH.cons (o := ⟨none, _, _, _, _, _⟩) rfl (fun K hK => ?_) AllReadyH.nil)
        go_simp
        refine hK.out _ _ trivial (fun hHeld => ?_)
        clear hK K
        try go_frame
        replace hr2 : RowF keyCells 1 9 (((wr.setCell ⟨g, p, none⟩ (.string ((srF f a b k) q))).drew).setCell ⟨g, q, none⟩ (.string ((srF f a b k) p))) g c n (sw (srF f a b k) p q) := hr2
        replace ha2 : At1 w (((wr.setCell ⟨g, p, none⟩ (.string ((srF f a b k) q))).drew).setCell ⟨g, q, none⟩ (.string ((srF f a b k) p))) g := ha2
        clear hr1 hth e2
        generalize ((wr.setCell ⟨g, p, none⟩ (.string ((srF f a b k) q))).drew) = W1 at *
        refine t0 22 37 ?_
        go_frame
        refine wpAnyH_ready (rs := [23]) (by kernel_rfl) (by simp) (AllReadyH.cons (o := ⟨none, _, _, _, _, _⟩) rfl (fun K hK => ?_) AllReadyH.nil)
        go_simp
        refine hK.out _ _ trivial (fun hHeld => ?_)
        clear hK K
        try go_frame
        refine wpAnyH_done (by kernel_rfl) ?_ _
        clear c0 d0 f1 f2 e3
        generalize (W1.setCell ⟨g, q, none⟩ (.string ((srF f a b k) p))) = wq at *
        try go_frame
        rw [show sw (srF f a b k) p q = srF f a b (k + 1) by rw [HP.out.1, HP.out.2]; exact (srF_step f (by omega)).symm] at hr2
        go_wp2
        go_roundw
        case rel => exact ⟨k + 1, by omega, by go_num, hr2, ha2⟩
        case measure => simp [intOf]; omega
    · have hd1 : decide ((k : Int) < (m : Int)) = false := by simp; omega
      obtain rfl : k = m := by omega
      go_wp2
      go_end0
      exact ⟨rfl, hr, ha⟩

set_option maxRecDepth 100000 in
set_option maxHeartbeats 2000000 in
theorem rotate_s (g c n : Nat) (f : Nat → ByteArray) (a m b : Nat) (cmp : Value) (w : World) (h : RowF keyCells 1 9 w g c n f) (ham : a < m) (hmb : m < b) (hb : b ≤ n) :
    Calls Tryz.prog 138 #[.slice (some ⟨g, 0, none⟩) n c, .int .i64 (a : Int), .int .i64 (m : Int), .int .i64 (b : Int), cmp] w fun e w' => e = .returned (.tuple #[]) ∧ RowF keyCells 1 9 w' g c n (roF f a m b) ∧ At1 w w' g := by
  have hn := h.cap
  unfold maxLen at hn
  obtain ⟨i0, hi0⟩ : ∃ i, i = m - a := ⟨_, rfl⟩
  obtain ⟨j0, hj0⟩ : ∃ j, j = b - m := ⟨_, rfl⟩
  have w1 : IntKind.i64.wrap ((m : Int) - (a : Int)) = (i0 : Int) := by rw [IntKind.wrap_i64]; omega
  have w2 : IntKind.i64.wrap ((b : Int) - (m : Int)) = (j0 : Int) := by rw [IntKind.wrap_i64]; omega
  have HP := Lib.hid (⟨hi0, hj0⟩ : i0 = m - a ∧ j0 = b - m)
  clear hi0 hj0
  go_enter Tryz.func138, Tryz.ntmps138
  go_wp2
  go_loopw [10, 11] (fun u v wr => RoR keyCells 1 9 f a m b g c n w u v wr) (fun u v _ => (intOf u).toNat + (intOf v).toNat)
  case atStart =>
    obtain ⟨e1, e2⟩ := HP.out
    exact ⟨i0, j0, f, by omega, by omega, by omega, by omega, rfl, rfl, by rw [e1, e2, show m - (m - a) = a by omega, show m + (b - m) = b by omega], h, At1.refl _ _⟩
  case round =>
    obtain ⟨i, j, d, hi, hj, hia, hjb, rfl, rfl, hd, hr, ha⟩ := hrel
    clear HP w1 w2
    have HD := Lib.hid hd
    clear hd
    obtain ⟨p, hp⟩ : ∃ p, p = m - i := ⟨_, rfl⟩
    have w3 : IntKind.i64.wrap ((m : Int) - (i : Int)) = (p : Int) := by rw [IntKind.wrap_i64]; omega
    have HP := Lib.hid hp
    rcases Nat.lt_trichotomy i j with hl | rfl | hl
    · have q1 : ((i : Int) == (j : Int)) = false := by simp; omega
      have q2 : decide ((j : Int) < (i : Int)) = false := by simp; omega
      have w4 : IntKind.i64.wrap ((m : Int) + (j : Int)) = ((m + j : Nat) : Int) := by rw [IntKind.wrap_i64]; omega
      obtain ⟨q, hq⟩ : ∃ q, q = m + j - i := ⟨_, rfl⟩
      obtain ⟨x, hx⟩ : ∃ x, x = j - i := ⟨_, rfl⟩
      have w5 : IntKind.i64.wrap ((m : Int) + (j : Int) - (i : Int)) = (q : Int) := by rw [IntKind.wrap_i64]; omega
      have w6 : IntKind.i64.wrap ((j : Int) - (i : Int)) = (x : Int) := by rw [IntKind.wrap_i64]; omega
      have hS := swapRange_s g c n d p q i cmp wr hr (by omega) (by omega)
      have hx1 : 0 < x := by omega
      have hx2 : x ≤ b - m := by omega
      have hx3 : x + i < j + i := by omega
      have HQ := Lib.hid (⟨hq, hx⟩ : q = m + j - i ∧ x = j - i)
      clear hp hq hx
      go_wp2_with ((with_reducible refine hS.mono ?_); rintro e w7 ⟨rfl, hr7, ha7⟩)
      go_roundw
      case rel =>
        refine ⟨i, x, _, hi, hx1, hia, hx2, rfl, by go_num, ?_, hr7, ha.trans ha7⟩
        rw [← HD.out, HP.out, HQ.out.1, HQ.out.2]
        exact roF_right d (by omega) hl
      case measure => simp [intOf]; omega
    · have q1 : ((i : Int) == (i : Int)) = true := by simp
      have hS := swapRange_s g c n d p m i cmp wr hr (by omega) (by omega)
      clear hp
      go_wp2_with ((with_reducible refine hS.mono ?_); rintro e w7 ⟨rfl, hr7, ha7⟩)
      go_end0
      refine ⟨rfl, ?_, ha.trans ha7⟩
      rw [← HD.out, ← roF_same d (by omega), ← HP.out]
      exact hr7
    · have q1 : ((i : Int) == (j : Int)) = false := by simp; omega
      have q2 : decide ((j : Int) < (i : Int)) = true := by simp; omega
      obtain ⟨x, hx⟩ : ∃ x, x = i - j := ⟨_, rfl⟩
      have w6 : IntKind.i64.wrap ((i : Int) - (j : Int)) = (x : Int) := by rw [IntKind.wrap_i64]; omega
      have hS := swapRange_s g c n d p m j cmp wr hr (by omega) (by omega)
      have hx1 : 0 < x := by omega
      have hx2 : x ≤ m - a := by omega
      have hx3 : x + j < i + j := by omega
      have HQ := Lib.hid hx
      clear hp hx
      go_wp2_with ((with_reducible refine hS.mono ?_); rintro e w7 ⟨rfl, hr7, ha7⟩)
      go_roundw
      case rel =>
        refine ⟨x, j, _, hx1, hj, hx2, hjb, by go_num, rfl, ?_, hr7, ha.trans ha7⟩
        rw [← HD.out, HP.out, HQ.out]
        exact roF_left d (by omega) hl
      case measure => simp [intOf]; omega

set_option maxRecDepth 100000 in
set_option maxHeartbeats 2000000 in
theorem swapRange_h (g c n : Nat) (f : Nat → Hh) (a b m : Nat) (cmp : Value) (w : World) (h : RowF Hh.cells 2 59 w g c n f) (hab : a + m ≤ b) (hb : b + m ≤ n) :
    Calls Tryz.prog 137 #[.slice (some ⟨g, 0, none⟩) n c, .int .i64 (a : Int), .int .i64 (b : Int), .int .i64 (m : Int), cmp] w fun e w' => e = .returned (.tuple #[]) ∧ RowF Hh.cells 2 59 w' g c n (srF f a b m) ∧ At1 w w' g := by
  have hn := h.cap
  unfold maxLen at hn
  go_enter Tryz.func137, Tryz.ntmps137
  go_wp2
  go_loopw [10] (fun i wr => SrR Hh.cells 2 59 f a b m g c n w i wr) (fun i _ => m - (intOf i).toNat)
  case atStart => exact ⟨0, by omega, rfl, by rw [srF_zero]; exact h, At1.refl _ _⟩
  case round =>
    obtain ⟨k, hk, rfl, hr, ha⟩ := hrel
    by_cases hlt : k < m
    · have hd1 : decide ((k : Int) < (m : Int)) = true := by simp; omega
      obtain ⟨p, hp⟩ : ∃ p, p = a + k := ⟨_, rfl⟩
      obtain ⟨q, hq⟩ : ∃ q, q = b + k := ⟨_, rfl⟩
      have w1 : IntKind.i64.wrap ((a : Int) + (k : Int)) = (p : Int) := by rw [IntKind.wrap_i64]; omega
      have w2 : IntKind.i64.wrap ((b : Int) + (k : Int)) = (q : Int) := by rw [IntKind.wrap_i64]; omega
      go_wp2_with fail
      have h1 : p < n := by omega
      have h2 : q < n := by omega
      have k1 : (0 : Int) ≤ (p : Int) := by omega
      have k2 : (p : Int) < (n : Int) := by omega
      have k3 : (0 : Int) ≤ (q : Int) := by omega
      have k4 : (q : Int) < (n : Int) := by omega
      have HP := Lib.hid (⟨hp, hq⟩ : p = a + k ∧ q = b + k)
      clear hp hq
      have c0 := hr.get (j := 0) h1 rfl
      have c1 := hr.get (j := 1) h1 rfl
      have d0 := hr.get (j := 0) h2 rfl
      have d1 := hr.get (j := 1) h2 rfl
      simp only [Nat.add_zero] at c0 d0
      refine wp_region_held_drew (S := fun _ => True) (by kernel_rfl) trivial (fun hHeld => ?_)
      refine t0 0 16 ?_
      go_frame
      refine t0 1 17 ?_
      go_frame
      refine t0 2 18 ?_
      go_frame
      refine t0 3 19 ?_
      go_frame
      refine t0 4 20 ?_
      go_frame
      refine t0 5 21 ?_
      go_frame
      refine t0 6 22 ?_
      go_frame
      refine t0 7 23 ?_
      go_frame
      refine t0 8 24 ?_
      go_frame
      refine t0 9 25 ?_
      go_frame
      refine t0 10 26 ?_
      go_frame
      refine t0 11 27 ?_
      go_frame
      refine t0 12 28 ?_
      go_frame
      refine t0 14 30 ?_
      go_frame
      refine t0 15 31 ?_
      go_frame
      refine t0 16 32 ?_
      go_frame
      refine t0 17 33 ?_
      go_frame
      refine t0 18 34 ?_
      go_frame
      refine wpAnyH_ready (rs := [13, 19]) (by kernel_rfl) (by simp) (AllReadyH.cons (o := ⟨some 29, _, _, _, _, _⟩) rfl (fun K hK => ?_) (AllReadyH.cons (o := ⟨some 35, _, _, _, _, _⟩) rfl (fun K hK => ?_) AllReadyH.nil))
      rotate_left
      go_simp
      refine hK.out _ _ trivial (fun hHeld => ?_)
      clear hK K
      try go_frame
      refine wpAnyH_ready (rs := [13]) (by kernel_rfl) (by simp) (AllReadyH.cons (o := ⟨some 29, _, _, _, _, _⟩) rfl (fun K hK => ?_) AllReadyH.nil)
      go_simp
      refine hK.out _ _ trivial (fun hHeld => ?_)
      clear hK K
      try go_frame
      rotate_left
      go_simp
      refine hK.out _ _ trivial (fun hHeld => ?_)
      clear hK K
      try go_frame
      refine wpAnyH_ready (rs := [19]) (by kernel_rfl) (by simp) (AllReadyH.cons (o := ⟨some 35, _, _, _, _, _⟩) rfl (fun K hK => ?_) AllReadyH.nil)
      go_simp
      refine hK.out _ _ trivial (fun hHeld => ?_)
      clear hK K
      try go_frame
      all_goals
        refine t0 20 36 ?_
        go_frame
        have hr1 := RowF.put hh_len hr.drew h1 ((srF f a b k) q)
        have hr2 := RowF.swap hh_len hr.drew h1 h2
        have ha2 := ((ha.drew).setCells (Hh.cells ((srF f a b k) q)) (p * 2)).setCells (Hh.cells ((srF f a b k) p)) (q * 2)
        have hth := hr1.there h2
        refine wpAnyH_store_mid (i := 21) (by kernel_rfl) rfl rfl _ _ _ rfl g (p * 2) (Hh.cells ((srF f a b k) q)).toArray (by kernel_rfl) (by kernel_rfl) (hr.there h1) (by kernel_rfl) (by kernel_rfl) trivial ?_
        refine t0 22 37 ?_
        go_frame
        refine wpAnyH_store_mid (i := 23) (by kernel_rfl) rfl rfl _ _ _ rfl g (q * 2) (Hh.cells ((srF f a b k) p)).toArray (by kernel_rfl) (by kernel_rfl) hth (by kernel_rfl) (by kernel_rfl) trivial ?_
        refine wpAnyH_done (by kernel_rfl) ?_ _
        clear c0 c1 d0 d1 hr1 hth
        replace hr2 : RowF Hh.cells 2 59 ((wr.drew.setCells g (p * 2) (Hh.cells ((srF f a b k) q)).toArray.toList).setCells g (q * 2) (Hh.cells ((srF f a b k) p)).toArray.toList) g c n (sw (srF f a b k) p q) := hr2
        replace ha2 : At1 w ((wr.drew.setCells g (p * 2) (Hh.cells ((srF f a b k) q)).toArray.toList).setCells g (q * 2) (Hh.cells ((srF f a b k) p)).toArray.toList) g := ha2
        generalize ((wr.drew.setCells g (p * 2) (Hh.cells ((srF f a b k) q)).toArray.toList).setCells g (q * 2) (Hh.cells ((srF f a b k) p)).toArray.toList) = wq at *
        go_frame
        rw [show sw (srF f a b k) p q = srF f a b (k + 1) by rw [HP.out.1, HP.out.2]; exact (srF_step f (by omega)).symm] at hr2
        go_wp2
        go_roundw
        case rel => exact ⟨k + 1, by omega, by go_num, hr2, ha2⟩
        case measure => simp [intOf]; omega
    · have hd1 : decide ((k : Int) < (m : Int)) = false := by simp; omega
      obtain rfl : k = m := by omega
      go_wp2
      go_end0
      exact ⟨rfl, hr, ha⟩

set_option maxRecDepth 100000 in
set_option maxHeartbeats 2000000 in
theorem rotate_h (g c n : Nat) (f : Nat → Hh) (a m b : Nat) (cmp : Value) (w : World) (h : RowF Hh.cells 2 59 w g c n f) (ham : a < m) (hmb : m < b) (hb : b ≤ n) :
    Calls Tryz.prog 130 #[.slice (some ⟨g, 0, none⟩) n c, .int .i64 (a : Int), .int .i64 (m : Int), .int .i64 (b : Int), cmp] w fun e w' => e = .returned (.tuple #[]) ∧ RowF Hh.cells 2 59 w' g c n (roF f a m b) ∧ At1 w w' g := by
  have hn := h.cap
  unfold maxLen at hn
  obtain ⟨i0, hi0⟩ : ∃ i, i = m - a := ⟨_, rfl⟩
  obtain ⟨j0, hj0⟩ : ∃ j, j = b - m := ⟨_, rfl⟩
  have w1 : IntKind.i64.wrap ((m : Int) - (a : Int)) = (i0 : Int) := by rw [IntKind.wrap_i64]; omega
  have w2 : IntKind.i64.wrap ((b : Int) - (m : Int)) = (j0 : Int) := by rw [IntKind.wrap_i64]; omega
  have HP := Lib.hid (⟨hi0, hj0⟩ : i0 = m - a ∧ j0 = b - m)
  clear hi0 hj0
  go_enter Tryz.func130, Tryz.ntmps130
  go_wp2
  go_loopw [10, 11] (fun u v wr => RoR Hh.cells 2 59 f a m b g c n w u v wr) (fun u v _ => (intOf u).toNat + (intOf v).toNat)
  case atStart =>
    obtain ⟨e1, e2⟩ := HP.out
    exact ⟨i0, j0, f, by omega, by omega, by omega, by omega, rfl, rfl, by rw [e1, e2, show m - (m - a) = a by omega, show m + (b - m) = b by omega], h, At1.refl _ _⟩
  case round =>
    obtain ⟨i, j, d, hi, hj, hia, hjb, rfl, rfl, hd, hr, ha⟩ := hrel
    clear HP w1 w2
    have HD := Lib.hid hd
    clear hd
    obtain ⟨p, hp⟩ : ∃ p, p = m - i := ⟨_, rfl⟩
    have w3 : IntKind.i64.wrap ((m : Int) - (i : Int)) = (p : Int) := by rw [IntKind.wrap_i64]; omega
    have HP := Lib.hid hp
    rcases Nat.lt_trichotomy i j with hl | rfl | hl
    · have q1 : ((i : Int) == (j : Int)) = false := by simp; omega
      have q2 : decide ((j : Int) < (i : Int)) = false := by simp; omega
      have w4 : IntKind.i64.wrap ((m : Int) + (j : Int)) = ((m + j : Nat) : Int) := by rw [IntKind.wrap_i64]; omega
      obtain ⟨q, hq⟩ : ∃ q, q = m + j - i := ⟨_, rfl⟩
      obtain ⟨x, hx⟩ : ∃ x, x = j - i := ⟨_, rfl⟩
      have w5 : IntKind.i64.wrap ((m : Int) + (j : Int) - (i : Int)) = (q : Int) := by rw [IntKind.wrap_i64]; omega
      have w6 : IntKind.i64.wrap ((j : Int) - (i : Int)) = (x : Int) := by rw [IntKind.wrap_i64]; omega
      have hS := swapRange_h g c n d p q i cmp wr hr (by omega) (by omega)
      have hx1 : 0 < x := by omega
      have hx2 : x ≤ b - m := by omega
      have hx3 : x + i < j + i := by omega
      have HQ := Lib.hid (⟨hq, hx⟩ : q = m + j - i ∧ x = j - i)
      clear hp hq hx
      go_wp2_with ((with_reducible refine hS.mono ?_); rintro e w7 ⟨rfl, hr7, ha7⟩)
      go_roundw
      case rel =>
        refine ⟨i, x, _, hi, hx1, hia, hx2, rfl, by go_num, ?_, hr7, ha.trans ha7⟩
        rw [← HD.out, HP.out, HQ.out.1, HQ.out.2]
        exact roF_right d (by omega) hl
      case measure => simp [intOf]; omega
    · have q1 : ((i : Int) == (i : Int)) = true := by simp
      have hS := swapRange_h g c n d p m i cmp wr hr (by omega) (by omega)
      clear hp
      go_wp2_with ((with_reducible refine hS.mono ?_); rintro e w7 ⟨rfl, hr7, ha7⟩)
      go_end0
      refine ⟨rfl, ?_, ha.trans ha7⟩
      rw [← HD.out, ← roF_same d (by omega), ← HP.out]
      exact hr7
    · have q1 : ((i : Int) == (j : Int)) = false := by simp; omega
      have q2 : decide ((j : Int) < (i : Int)) = true := by simp; omega
      obtain ⟨x, hx⟩ : ∃ x, x = i - j := ⟨_, rfl⟩
      have w6 : IntKind.i64.wrap ((i : Int) - (j : Int)) = (x : Int) := by rw [IntKind.wrap_i64]; omega
      have hS := swapRange_h g c n d p m j cmp wr hr (by omega) (by omega)
      have hx1 : 0 < x := by omega
      have hx2 : x ≤ m - a := by omega
      have hx3 : x + j < i + j := by omega
      have HQ := Lib.hid hx
      clear hp hx
      go_wp2_with ((with_reducible refine hS.mono ?_); rintro e w7 ⟨rfl, hr7, ha7⟩)
      go_roundw
      case rel =>
        refine ⟨x, j, _, hx1, hj, hx2, hjb, by go_num, rfl, ?_, hr7, ha.trans ha7⟩
        rw [← HD.out, HP.out, HQ.out]
        exact roF_left d (by omega) hl
      case measure => simp [intOf]; omega

end Go.Proofs.YtipacjbegfingaaGreat
