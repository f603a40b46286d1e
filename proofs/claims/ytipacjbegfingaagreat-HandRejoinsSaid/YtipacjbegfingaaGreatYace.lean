/- symMerge, at texts. -/
import Derived.Test.YtipacjbegfingaaGreatYacd
namespace Go.Proofs.YtipacjbegfingaaGreat
set_option linter.unusedVariables false
open Go.RowKit
attribute [local go_sem] run_store_float

set_option maxRecDepth 100000 in
set_option maxHeartbeats 4000000 in
theorem symMerge1_s (g c n : Nat) (f : Nat → ByteArray) (a m b bk : Nat) (w : World) (h : RowF keyCells 1 9 w g c n f) (hn : n ≤ 1000000000) (ham : a < m) (hmb : m < b) (hb : b ≤ n) (hk : w.cell? ⟨bk, 0, none⟩ = some (.func (.func 55) #[] #[])) (hbk : bk < w.heap.size) (hne : bk ≠ g) (hs1 : Srt (fun x y => bl (id x) (id y)) f a m) (hs2 : Srt (fun x y => bl (id x) (id y)) f m b) (h1m : m = a + 1) :
    Calls Tryz.prog 132 #[.slice (some ⟨g, 0, none⟩) n c, .int .i64 (a : Int), .int .i64 (m : Int), .int .i64 (b : Int), .func (.func 87) #[] #[.pointer (some ⟨bk, 0, none⟩)]] w fun e w' => e = .returned (.tuple #[]) ∧ SortP keyCells 1 9 id f a b g c n w w' := by
  have hL := lin_key id
  have q0 : ((m : Int) - (a : Int) == 1) = true := by simp; omega
  have HM := Lib.hid h1m
  have hs2' : Srt (fun x y => bl (id x) (id y)) f (a + 1) b := by rw [← h1m]; exact hs2
  clear h1m
  go_enter Tryz.func132, Tryz.ntmps132
  go_wp2
  go_loopw [10, 11] (fun u v wr => BinR keyCells 1 9 f m b g c n (fun x => bl (id (f x)) (id (f a)) = true) (fun x => bl (id (f x)) (id (f a)) = false) w u v wr) (fun u v _ => (intOf v).toNat - (intOf u).toNat)
  case atStart => exact ⟨m, b, by omega, by omega, by omega, rfl, rfl, .inl rfl, .inl rfl, h, At1.refl _ _⟩
  case round =>
    obtain ⟨i, j, hi1, hij, hj1, rfl, rfl, hno, hyes, hr, ha⟩ := hrel
    by_cases hlt : i < j
    · have hd1 : decide ((i : Int) < (j : Int)) = true := by simp; omega
      obtain ⟨hm, hhm⟩ : ∃ z, z = (i + j) / 2 := ⟨_, rfl⟩
      have hm1 : i ≤ hm := by omega
      have hm2 : hm < j := by omega
      have w1 : ((i : Int) + (j : Int)) / 2 = (hm : Int) := by omega
      have k0 := (ha.cell (p := ⟨bk, 0, none⟩) hbk hne).trans hk
      have hbk2 := Nat.lt_of_lt_of_le hbk ha.size
      have hgl := hr.lt
      clear hhm
      obtain ⟨p, hp0⟩ : ∃ p, p = hm := ⟨_, rfl⟩
      subst hp0
      obtain ⟨q, hq0⟩ : ∃ q, q = a := ⟨_, rfl⟩
      have HQ := Lib.hid hq0
      have h1 : p < n := by omega
      have h2 : q < n := by omega
      have e1 : (a : Int) = (q : Int) := by omega
      have k1 : (0 : Int) ≤ (p : Int) := by omega
      have k2 : (p : Int) < (n : Int) := by omega
      have k3 : (0 : Int) ≤ (a : Int) := by omega
      have k4 : (a : Int) < (n : Int) := by omega
      clear hq0 e1
      have hC := cmp_s (f p) (f q) bk wr.drew k0 hbk2
      have hneg := cmpI_neg ((f p)) ((f q))
      generalize cmpI ((f p)) ((f q)) = z at *
      have c0 := hr.get (j := 0) h1 rfl
      have d0 := hr.get (j := 0) h2 rfl
      simp only [Nat.mul_one, Nat.add_zero] at c0 d0
      rw [HQ.out] at d0 hC hneg
      cases hbl : bl (id (f p)) (id (f a))
      case' false =>
        have hbl' : bl ((f p)) ((f a)) = false := hbl
        rw [hbl'] at hneg
        go_upto_region 5 with fail
        refine wp_region_held_drew (S := fun w' => w'.cell? ⟨g, p, none⟩ = some (.string (f p)) ∧ w'.cell? ⟨g, a, none⟩ = some (.string (f a))) (by kernel_rfl) ⟨c0, d0⟩ (fun hHeld => ?_)
        refine t0 0 40 ?_
        go_frame
        refine t0 1 41 ?_
        go_frame
        refine t0 2 42 ?_
        go_frame
        refine t0 3 43 ?_
        go_frame
        refine t0 4 44 ?_
        go_frame
        refine t0 5 45 ?_
        go_frame
        refine t0 6 46 ?_
        go_frame
        refine t0 7 47 ?_
        go_frame
        refine t0 8 48 ?_
        go_frame
        refine wpAnyH_ready (rs := [9]) (by kernel_rfl) (by simp) (AllReadyH.cons (o := ⟨some 49, _, _, _, _, _⟩) rfl (fun K hK => ?_) AllReadyH.nil)
        go_simp
        (with_reducible refine (hC).mono ?_)
        rintro e w5 ⟨rfl, hb5⟩
        refine hK.out _ _ ⟨(hb5.cell (by exact hgl)).trans c0, (hb5.cell (by exact hgl)).trans d0⟩ (fun hHeld => ?_)
        clear hK K
        try go_frame
        refine t0 10 50 ?_
        go_frame
        refine wpAnyH_done (by kernel_rfl) ?_ _
        have hb6 : Below wr.heap.size wr w5 := (Below.refl _ _).drew.trans hb5
        replace hr := hr.below hb6
        replace ha := ha.below hb6
        clear hC hb5 hHeld hb6 c0 d0
        go_wp2
        go_roundw
        case rel => exact ⟨i, p, hi1, hm1, by omega, rfl, by go_num, hno, .inr hbl, hr, ha⟩
        case measure => simp [intOf]; omega
      case' true =>
        have hbl' : bl ((f p)) ((f a)) = true := hbl
        rw [hbl'] at hneg
        go_upto_region 5 with fail
        refine wp_region_held_drew (S := fun w' => w'.cell? ⟨g, p, none⟩ = some (.string (f p)) ∧ w'.cell? ⟨g, a, none⟩ = some (.string (f a))) (by kernel_rfl) ⟨c0, d0⟩ (fun hHeld => ?_)
        refine t0 0 40 ?_
        go_frame
        refine t0 1 41 ?_
        go_frame
        refine t0 2 42 ?_
        go_frame
        refine t0 3 43 ?_
        go_frame
        refine t0 4 44 ?_
        go_frame
        refine t0 5 45 ?_
        go_frame
        refine t0 6 46 ?_
        go_frame
        refine t0 7 47 ?_
        go_frame
        refine t0 8 48 ?_
        go_frame
        refine wpAnyH_ready (rs := [9]) (by kernel_rfl) (by simp) (AllReadyH.cons (o := ⟨some 49, _, _, _, _, _⟩) rfl (fun K hK => ?_) AllReadyH.nil)
        go_simp
        (with_reducible refine (hC).mono ?_)
        rintro e w5 ⟨rfl, hb5⟩
        refine hK.out _ _ ⟨(hb5.cell (by exact hgl)).trans c0, (hb5.cell (by exact hgl)).trans d0⟩ (fun hHeld => ?_)
        clear hK K
        try go_frame
        refine t0 10 50 ?_
        go_frame
        refine wpAnyH_done (by kernel_rfl) ?_ _
        have hb6 : Below wr.heap.size wr w5 := (Below.refl _ _).drew.trans hb5
        replace hr := hr.below hb6
        replace ha := ha.below hb6
        clear hC hb5 hHeld hb6 c0 d0
        go_wp2
        go_roundw
        case rel => exact ⟨p + 1, j, by omega, by omega, hj1, by go_num, rfl, .inr hbl, hyes, hr, ha⟩
        case measure => simp [intOf]; omega
    · have hd1 : decide ((i : Int) < (j : Int)) = false := by simp; omega
      obtain rfl : i = j := by omega
      have hmi : a + 1 ≤ i := by omega
      have HS := Lib.hid (srt_first hL hs2' hmi hj1 (by rw [← HM.out]; exact hno) hyes)
      have hw1 : IntKind.i64.wrap ((i : Int) - 1) = (i : Int) - 1 := by rw [IntKind.wrap_i64]; omega
      clear hno hyes
      go_wp2
      go_loopw [13] (fun u wr => FstR keyCells 1 9 f a i g c n w u wr) (fun u _ => i - (intOf u).toNat)
      case atStart => exact ⟨a, Nat.le_refl _, by omega, rfl, by rw [roF_none f (by omega) (by omega) (.inr rfl)]; exact hr, ha⟩
      case round =>
        obtain ⟨k, hk1, hk2, rfl, hr, ha⟩ := hrel
        by_cases hlt2 : k < i - 1
        · have hd2 : decide ((k : Int) < (i : Int) - 1) = true := by simp; omega
          obtain ⟨p, hp0⟩ : ∃ p, p = k := ⟨_, rfl⟩
          subst hp0
          obtain ⟨q, hq0⟩ : ∃ q, q = p + 1 := ⟨_, rfl⟩
          have w1 : IntKind.i64.wrap ((p : Int) + 1) = (q : Int) := by rw [IntKind.wrap_i64]; omega
          have h1 : p < n := by omega
          have h2 : q < n := by omega
          have k1 : (0 : Int) ≤ (p : Int) := by omega
          have k2 : (p : Int) < (n : Int) := by omega
          have k3 : (0 : Int) ≤ (q : Int) := by omega
          have k4 : (q : Int) < (n : Int) := by omega
          have hqi : q ≤ i - 1 := by omega
          have HQ := Lib.hid hq0
          clear hq0
          go_upto_region 11 with fail
          have c0 := hr.get (j := 0) h1 rfl
          have d0 := hr.get (j := 0) h2 rfl
          simp only [Nat.mul_one, Nat.add_zero] at c0 d0
          refine wp_region_held_drew (S := fun _ => True) (by kernel_rfl) trivial (fun hHeld => ?_)
          refine t0 0 61 ?_
          go_frame
          refine t0 1 62 ?_
          go_frame
          refine t0 2 63 ?_
          go_frame
          refine t0 3 64 ?_
          go_frame
          refine t0 4 65 ?_
          go_frame
          refine t0 5 66 ?_
          go_frame
          refine t0 6 67 ?_
          go_frame
          refine t0 7 68 ?_
          go_frame
          refine t0 8 69 ?_
          go_frame
          refine t0 10 71 ?_
          go_frame
          refine t0 11 72 ?_
          go_frame
          refine t0 12 73 ?_
          go_frame
          refine wpAnyH_ready (rs := [9, 13]) (by kernel_rfl) (by simp) (AllReadyH.cons (o := ⟨some 70, _, _, _, _, _⟩) rfl (fun K hK => ?_) (AllReadyH.cons (o := ⟨some 74, _, _, _, _, _⟩) rfl (fun K hK => ?_) AllReadyH.nil))
          rotate_left
          go_simp
          refine hK.out _ _ trivial (fun hHeld => ?_)
          clear hK K
          try go_frame
          refine wpAnyH_ready (rs := [9]) (by kernel_rfl) (by simp) (AllReadyH.cons (o := ⟨some 70, _, _, _, _, _⟩) rfl (fun K hK => ?_) AllReadyH.nil)
          go_simp
          refine hK.out _ _ trivial (fun hHeld => ?_)
          clear hK K
          try go_frame
          rotate_left
          go_simp
          refine hK.out _ _ trivial (fun hHeld => ?_)
          clear hK K
          try go_frame
          refine wpAnyH_ready (rs := [13]) (by kernel_rfl) (by simp) (AllReadyH.cons (o := ⟨some 74, _, _, _, _, _⟩) rfl (fun K hK => ?_) AllReadyH.nil)
          go_simp
          refine hK.out _ _ trivial (fun hHeld => ?_)
          clear hK K
          try go_frame
          all_goals
            refine t0 14 75 ?_
            go_frame
            have hr1 := RowF.put ky_len hr.drew h1 ((roF f a (a + 1) (p + 1)) q)
            have hr2 := RowF.swap ky_len hr.drew h1 h2
            have ha2 := ((ha.drew).setCells (keyCells ((roF f a (a + 1) (p + 1)) q)) (p * 1)).setCells (keyCells ((roF f a (a + 1) (p + 1)) p)) (q * 1)
            have hth := hr1.there h2
            simp only [Nat.mul_one] at hr2 ha2 hr1
            have f1 := hr.frozen p
            have f2 := hr1.frozen q
            replace f2 : ((wr.setCell ⟨g, p, none⟩ (.string ((roF f a (a + 1) (p + 1)) q))).drew).frozen? ⟨g, q, none⟩ = false := f2
            have e2 : (((wr.setCell ⟨g, p, none⟩ (.string ((roF f a (a + 1) (p + 1)) q))).drew).cell? ⟨g, q, none⟩).isSome = true := by have h5 := (hth 0 (by omega)).1; simp only [Nat.mul_one, Nat.add_zero] at h5; exact h5
            obtain ⟨v2, e3⟩ := Option.isSome_iff_exists.1 e2
            refine wpAnyH_ready (rs := [15]) (by kernel_rfl) (by simp) (AllReadyH.cons (o := ⟨none, _, _, _, _, _⟩) rfl (fun K hK => ?_) AllReadyH.nil)
            go_simp
            refine hK.out _ _ trivial (fun hHeld => ?_)
            clear hK K
            try go_frame
            replace hr2 : RowF keyCells 1 9 (((wr.setCell ⟨g, p, none⟩ (.string ((roF f a (a + 1) (p + 1)) q))).drew).setCell ⟨g, q, none⟩ (.string ((roF f a (a + 1) (p + 1)) p))) g c n (sw (roF f a (a + 1) (p + 1)) p q) := hr2
            replace ha2 : At1 w (((wr.setCell ⟨g, p, none⟩ (.string ((roF f a (a + 1) (p + 1)) q))).drew).setCell ⟨g, q, none⟩ (.string ((roF f a (a + 1) (p + 1)) p))) g := ha2
            clear hr1 hth e2
            generalize ((wr.setCell ⟨g, p, none⟩ (.string ((roF f a (a + 1) (p + 1)) q))).drew) = W1 at *
            refine t0 16 76 ?_
            go_frame
            refine wpAnyH_ready (rs := [17]) (by kernel_rfl) (by simp) (AllReadyH.cons (o := ⟨none, _, _, _, _, _⟩) rfl (fun K hK => ?_) AllReadyH.nil)
            go_simp
            refine hK.out _ _ trivial (fun hHeld => ?_)
            clear hK K
            try go_frame
            refine wpAnyH_done (by kernel_rfl) ?_ _
            clear c0 d0 f1 f2 e3
            generalize (W1.setCell ⟨g, q, none⟩ (.string ((roF f a (a + 1) (p + 1)) p))) = wq at *
            try go_frame
            rw [show sw (roF f a (a + 1) (p + 1)) p q = roF f a (a + 1) (q + 1) by rw [HQ.out]; exact (roF_first f a p hk1).symm] at hr2
            go_wp2
            go_roundw
            case rel => exact ⟨q, by have := HQ.out; omega, hqi, by go_num, hr2, ha2⟩
            case measure => simp [intOf]; have := HQ.out; omega
        · have hd2 : decide ((k : Int) < (i : Int) - 1) = false := by simp; omega
          have hki : k + 1 = i := by omega
          rw [hki] at hr
          clear hki
          go_wp2
          (try simp only [Exit.inBlock, Exit.then])
          first | go_end0 | (refine bodyPost_ret (results_none rfl _ _ _) rfl ?_)
          exact ⟨rfl, _, hr, roF_pm f _ a (a + 1) i (Nat.le_refl _) (by omega) (by omega) |>.wide (Nat.le_refl _) hj1, HS.out, ha⟩

set_option maxRecDepth 100000 in
set_option maxHeartbeats 4000000 in
theorem symMerge2_s (g c n : Nat) (f : Nat → ByteArray) (a m b bk : Nat) (w : World) (h : RowF keyCells 1 9 w g c n f) (hn : n ≤ 1000000000) (ham : a < m) (hmb : m < b) (hb : b ≤ n) (hk : w.cell? ⟨bk, 0, none⟩ = some (.func (.func 55) #[] #[])) (hbk : bk < w.heap.size) (hne : bk ≠ g) (hs1 : Srt (fun x y => bl (id x) (id y)) f a m) (hs2 : Srt (fun x y => bl (id x) (id y)) f m b) (h1m : m ≠ a + 1) (h2m : b = m + 1) :
    Calls Tryz.prog 132 #[.slice (some ⟨g, 0, none⟩) n c, .int .i64 (a : Int), .int .i64 (m : Int), .int .i64 (b : Int), .func (.func 87) #[] #[.pointer (some ⟨bk, 0, none⟩)]] w fun e w' => e = .returned (.tuple #[]) ∧ SortP keyCells 1 9 id f a b g c n w w' := by
  have hL := lin_key id
  have q0 : ((m : Int) - (a : Int) == 1) = false := by simp; omega
  have q1 : ((b : Int) - (m : Int) == 1) = true := by simp; omega
  have w0 : IntKind.i64.wrap ((m : Int) - (a : Int)) = (m : Int) - (a : Int) := by rw [IntKind.wrap_i64]; omega
  have HM := Lib.hid h2m
  clear h2m h1m
  go_enter Tryz.func132, Tryz.ntmps132
  go_wp2
  go_loopw [14, 15] (fun u v wr => BinR keyCells 1 9 f a m g c n (fun x => bl (id (f m)) (id (f x)) = false) (fun x => bl (id (f m)) (id (f x)) = true) w u v wr) (fun u v _ => (intOf v).toNat - (intOf u).toNat)
  case atStart => exact ⟨a, m, by omega, by omega, by omega, rfl, rfl, .inl rfl, .inl rfl, h, At1.refl _ _⟩
  case round =>
    obtain ⟨i, j, hi1, hij, hj1, rfl, rfl, hno, hyes, hr, ha⟩ := hrel
    by_cases hlt : i < j
    · have hd1 : decide ((i : Int) < (j : Int)) = true := by simp; omega
      obtain ⟨hm, hhm⟩ : ∃ z, z = (i + j) / 2 := ⟨_, rfl⟩
      have hm1 : i ≤ hm := by omega
      have hm2 : hm < j := by omega
      have w1 : ((i : Int) + (j : Int)) / 2 = (hm : Int) := by omega
      have k0 := (ha.cell (p := ⟨bk, 0, none⟩) hbk hne).trans hk
      have hbk2 := Nat.lt_of_lt_of_le hbk ha.size
      have hgl := hr.lt
      clear hhm
      obtain ⟨q, hq0⟩ : ∃ q, q = hm := ⟨_, rfl⟩
      subst hq0
      obtain ⟨p, hp0⟩ : ∃ p, p = m := ⟨_, rfl⟩
      have HQ := Lib.hid hp0
      have h1 : p < n := by omega
      have h2 : q < n := by omega
      have k1 : (0 : Int) ≤ (q : Int) := by omega
      have k2 : (q : Int) < (n : Int) := by omega
      have k3 : (0 : Int) ≤ (m : Int) := by omega
      have k4 : (m : Int) < (n : Int) := by omega
      clear hp0
      have hC := cmp_s (f p) (f q) bk wr.drew k0 hbk2
      have hneg := cmpI_neg ((f p)) ((f q))
      generalize cmpI ((f p)) ((f q)) = z at *
      have c0 := hr.get (j := 0) h1 rfl
      have d0 := hr.get (j := 0) h2 rfl
      simp only [Nat.mul_one, Nat.add_zero] at c0 d0
      rw [HQ.out] at c0 hC hneg
      cases hbl : bl (id (f m)) (id (f q))
      case' true =>
        have hbl' : bl ((f m)) ((f q)) = true := hbl
        rw [hbl'] at hneg
        go_upto_region 17 with fail
        refine wp_region_held_drew (S := fun w' => w'.cell? ⟨g, m, none⟩ = some (.string (f m)) ∧ w'.cell? ⟨g, q, none⟩ = some (.string (f q))) (by kernel_rfl) ⟨c0, d0⟩ (fun hHeld => ?_)
        refine t0 0 92 ?_
        go_frame
        refine t0 1 93 ?_
        go_frame
        refine t0 2 94 ?_
        go_frame
        refine t0 3 95 ?_
        go_frame
        refine t0 4 96 ?_
        go_frame
        refine t0 5 97 ?_
        go_frame
        refine t0 6 98 ?_
        go_frame
        refine t0 7 99 ?_
        go_frame
        refine t0 8 100 ?_
        go_frame
        refine wpAnyH_ready (rs := [9]) (by kernel_rfl) (by simp) (AllReadyH.cons (o := ⟨some 101, _, _, _, _, _⟩) rfl (fun K hK => ?_) AllReadyH.nil)
        go_simp
        (with_reducible refine (hC).mono ?_)
        rintro e w5 ⟨rfl, hb5⟩
        refine hK.out _ _ ⟨(hb5.cell (by exact hgl)).trans c0, (hb5.cell (by exact hgl)).trans d0⟩ (fun hHeld => ?_)
        clear hK K
        try go_frame
        refine t0 10 102 ?_
        go_frame
        refine t0 11 103 ?_
        go_frame
        refine wpAnyH_done (by kernel_rfl) ?_ _
        have hb6 : Below wr.heap.size wr w5 := (Below.refl _ _).drew.trans hb5
        replace hr := hr.below hb6
        replace ha := ha.below hb6
        clear hC hb5 hHeld hb6 c0 d0
        go_wp2
        go_roundw
        case rel => exact ⟨i, q, hi1, hm1, by omega, rfl, by go_num, hno, .inr hbl, hr, ha⟩
        case measure => simp [intOf]; omega
      case' false =>
        have hbl' : bl ((f m)) ((f q)) = false := hbl
        rw [hbl'] at hneg
        go_upto_region 17 with fail
        refine wp_region_held_drew (S := fun w' => w'.cell? ⟨g, m, none⟩ = some (.string (f m)) ∧ w'.cell? ⟨g, q, none⟩ = some (.string (f q))) (by kernel_rfl) ⟨c0, d0⟩ (fun hHeld => ?_)
        refine t0 0 92 ?_
        go_frame
        refine t0 1 93 ?_
        go_frame
        refine t0 2 94 ?_
        go_frame
        refine t0 3 95 ?_
        go_frame
        refine t0 4 96 ?_
        go_frame
        refine t0 5 97 ?_
        go_frame
        refine t0 6 98 ?_
        go_frame
        refine t0 7 99 ?_
        go_frame
        refine t0 8 100 ?_
        go_frame
        refine wpAnyH_ready (rs := [9]) (by kernel_rfl) (by simp) (AllReadyH.cons (o := ⟨some 101, _, _, _, _, _⟩) rfl (fun K hK => ?_) AllReadyH.nil)
        go_simp
        (with_reducible refine (hC).mono ?_)
        rintro e w5 ⟨rfl, hb5⟩
        refine hK.out _ _ ⟨(hb5.cell (by exact hgl)).trans c0, (hb5.cell (by exact hgl)).trans d0⟩ (fun hHeld => ?_)
        clear hK K
        try go_frame
        refine t0 10 102 ?_
        go_frame
        refine t0 11 103 ?_
        go_frame
        refine wpAnyH_done (by kernel_rfl) ?_ _
        have hb6 : Below wr.heap.size wr w5 := (Below.refl _ _).drew.trans hb5
        replace hr := hr.below hb6
        replace ha := ha.below hb6
        clear hC hb5 hHeld hb6 c0 d0
        go_wp2
        go_roundw
        case rel => exact ⟨q + 1, j, by omega, by omega, hj1, by go_num, rfl, .inr hbl, hyes, hr, ha⟩
        case measure => simp [intOf]; omega
    · have hd1 : decide ((i : Int) < (j : Int)) = false := by simp; omega
      obtain rfl : i = j := by omega
      have HS := Lib.hid (srt_last hL hs1 hi1 hj1 hno hyes)
      clear hno hyes
      go_wp2
      go_loopw [17] (fun u wr => LstR keyCells 1 9 f i m g c n w u wr) (fun u _ => (intOf u).toNat - i)
      case atStart => exact ⟨m, hj1, Nat.le_refl _, rfl, by rw [roF_none f (by omega) (by omega) (.inl rfl)]; exact hr, ha⟩
      case round =>
        obtain ⟨k, hk1, hk2, rfl, hr, ha⟩ := hrel
        by_cases hlt2 : i < k
        · have hd2 : decide (i < k) = true := decide_eq_true hlt2
          obtain ⟨p, hp0⟩ : ∃ p, p = k := ⟨_, rfl⟩
          subst hp0
          obtain ⟨q, hq0⟩ : ∃ q, q = p - 1 := ⟨_, rfl⟩
          have w1 : IntKind.i64.wrap ((p : Int) - 1) = (q : Int) := by rw [IntKind.wrap_i64]; omega
          have h1 : p < n := by omega
          have h2 : q < n := by omega
          have k1 : (0 : Int) ≤ (p : Int) := by omega
          have k2 : (p : Int) < (n : Int) := by omega
          have k3 : (0 : Int) ≤ (q : Int) := by omega
          have k4 : (q : Int) < (n : Int) := by omega
          have hqi : i ≤ q := by omega
          have hqp : q < p := by omega
          have HQ := Lib.hid hq0
          clear hq0
          go_upto_region 23 with fail
          have c0 := hr.get (j := 0) h1 rfl
          have d0 := hr.get (j := 0) h2 rfl
          simp only [Nat.mul_one, Nat.add_zero] at c0 d0
          refine wp_region_held_drew (S := fun _ => True) (by kernel_rfl) trivial (fun hHeld => ?_)
          refine t0 0 113 ?_
          go_frame
          refine t0 1 114 ?_
          go_frame
          refine t0 2 115 ?_
          go_frame
          refine t0 3 116 ?_
          go_frame
          refine t0 4 117 ?_
          go_frame
          refine t0 5 118 ?_
          go_frame
          refine t0 6 119 ?_
          go_frame
          refine t0 7 120 ?_
          go_frame
          refine t0 8 121 ?_
          go_frame
          refine t0 10 123 ?_
          go_frame
          refine t0 11 124 ?_
          go_frame
          refine t0 12 125 ?_
          go_frame
          refine wpAnyH_ready (rs := [9, 13]) (by kernel_rfl) (by simp) (AllReadyH.cons (o := ⟨some 122, _, _, _, _, _⟩) rfl (fun K hK => ?_) (AllReadyH.cons (o := ⟨some 126, _, _, _, _, _⟩) rfl (fun K hK => ?_) AllReadyH.nil))
          rotate_left
          go_simp
          refine hK.out _ _ trivial (fun hHeld => ?_)
          clear hK K
          try go_frame
          refine wpAnyH_ready (rs := [9]) (by kernel_rfl) (by simp) (AllReadyH.cons (o := ⟨some 122, _, _, _, _, _⟩) rfl (fun K hK => ?_) AllReadyH.nil)
          go_simp
          refine hK.out _ _ trivial (fun hHeld => ?_)
          clear hK K
          try go_frame
          rotate_left
          go_simp
          refine hK.out _ _ trivial (fun hHeld => ?_)
          clear hK K
          try go_frame
          refine wpAnyH_ready (rs := [13]) (by kernel_rfl) (by simp) (AllReadyH.cons (o := ⟨some 126, _, _, _, _, _⟩) rfl (fun K hK => ?_) AllReadyH.nil)
          go_simp
          refine hK.out _ _ trivial (fun hHeld => ?_)
          clear hK K
          try go_frame
          all_goals
            refine t0 14 127 ?_
            go_frame
            have hr1 := RowF.put ky_len hr.drew h1 ((roF f p m (m + 1)) q)
            have hr2 := RowF.swap ky_len hr.drew h1 h2
            have ha2 := ((ha.drew).setCells (keyCells ((roF f p m (m + 1)) q)) (p * 1)).setCells (keyCells ((roF f p m (m + 1)) p)) (q * 1)
            have hth := hr1.there h2
            simp only [Nat.mul_one] at hr2 ha2 hr1
            have f1 := hr.frozen p
            have f2 := hr1.frozen q
            replace f2 : ((wr.setCell ⟨g, p, none⟩ (.string ((roF f p m (m + 1)) q))).drew).frozen? ⟨g, q, none⟩ = false := f2
            have e2 : (((wr.setCell ⟨g, p, none⟩ (.string ((roF f p m (m + 1)) q))).drew).cell? ⟨g, q, none⟩).isSome = true := by have h5 := (hth 0 (by omega)).1; simp only [Nat.mul_one, Nat.add_zero] at h5; exact h5
            obtain ⟨v2, e3⟩ := Option.isSome_iff_exists.1 e2
            refine wpAnyH_ready (rs := [15]) (by kernel_rfl) (by simp) (AllReadyH.cons (o := ⟨none, _, _, _, _, _⟩) rfl (fun K hK => ?_) AllReadyH.nil)
            go_simp
            refine hK.out _ _ trivial (fun hHeld => ?_)
            clear hK K
            try go_frame
            replace hr2 : RowF keyCells 1 9 (((wr.setCell ⟨g, p, none⟩ (.string ((roF f p m (m + 1)) q))).drew).setCell ⟨g, q, none⟩ (.string ((roF f p m (m + 1)) p))) g c n (sw (roF f p m (m + 1)) p q) := hr2
            replace ha2 : At1 w (((wr.setCell ⟨g, p, none⟩ (.string ((roF f p m (m + 1)) q))).drew).setCell ⟨g, q, none⟩ (.string ((roF f p m (m + 1)) p))) g := ha2
            clear hr1 hth e2
            generalize ((wr.setCell ⟨g, p, none⟩ (.string ((roF f p m (m + 1)) q))).drew) = W1 at *
            refine t0 16 128 ?_
            go_frame
            refine wpAnyH_ready (rs := [17]) (by kernel_rfl) (by simp) (AllReadyH.cons (o := ⟨none, _, _, _, _, _⟩) rfl (fun K hK => ?_) AllReadyH.nil)
            go_simp
            refine hK.out _ _ trivial (fun hHeld => ?_)
            clear hK K
            try go_frame
            refine wpAnyH_done (by kernel_rfl) ?_ _
            clear c0 d0 f1 f2 e3
            generalize (W1.setCell ⟨g, q, none⟩ (.string ((roF f p m (m + 1)) p))) = wq at *
            try go_frame
            rw [show sw (roF f p m (m + 1)) p q = roF f q m (m + 1) by rw [HQ.out]; exact (roF_last f p m (by omega) hk2).symm] at hr2
            go_wp2
            go_roundw
            case rel => exact ⟨q, hqi, by omega, by go_num, hr2, ha2⟩
            case measure => simp [intOf]; omega
        · have hd2 : decide (i < k) = false := decide_eq_false hlt2
          obtain rfl : i = k := by omega
          go_wp2
          (try simp only [Exit.inBlock, Exit.then])
          first | go_end0 | (refine bodyPost_ret (results_none rfl _ _ _) rfl ?_)
          exact ⟨rfl, _, hr, by rw [HM.out]; exact (roF_pm f _ i m (m + 1) (Nat.le_refl _) (by omega) (by omega)).wide hi1 (Nat.le_refl _), by rw [HM.out]; exact HS.out, ha⟩

/-- symMerge on these bounds does what it says -/
def SymOk_s (g c n bk a m b : Nat) : Prop := ∀ (f : Nat → ByteArray) (w : World), RowF keyCells 1 9 w g c n f → n ≤ 1000000000 → a < m → m < b → b ≤ n → w.cell? ⟨bk, 0, none⟩ = some (.func (.func 55) #[] #[]) → bk < w.heap.size → bk ≠ g → Srt (fun x y => bl (id x) (id y)) f a m → Srt (fun x y => bl (id x) (id y)) f m b →
    Calls Tryz.prog 132 #[.slice (some ⟨g, 0, none⟩) n c, .int .i64 (a : Int), .int .i64 (m : Int), .int .i64 (b : Int), .func (.func 87) #[] #[.pointer (some ⟨bk, 0, none⟩)]] w fun e w' => e = .returned (.tuple #[]) ∧ SortP keyCells 1 9 id f a b g c n w w'
set_option maxRecDepth 100000 in
set_option maxHeartbeats 8000000 in
theorem symMerge3_s (g c n : Nat) (f : Nat → ByteArray) (a m b bk : Nat) (w : World) (h : RowF keyCells 1 9 w g c n f) (hn : n ≤ 1000000000) (ham : a < m) (hmb : m < b) (hb : b ≤ n) (hk : w.cell? ⟨bk, 0, none⟩ = some (.func (.func 55) #[] #[])) (hbk : bk < w.heap.size) (hne : bk ≠ g) (hs1 : Srt (fun x y => bl (id x) (id y)) f a m) (hs2 : Srt (fun x y => bl (id x) (id y)) f m b) (h1m : m ≠ a + 1) (h2m : b ≠ m + 1) (IH : ∀ a' m' b', b' - a' < b - a → SymOk_s g c n bk a' m' b') :
    Calls Tryz.prog 132 #[.slice (some ⟨g, 0, none⟩) n c, .int .i64 (a : Int), .int .i64 (m : Int), .int .i64 (b : Int), .func (.func 87) #[] #[.pointer (some ⟨bk, 0, none⟩)]] w fun e w' => e = .returned (.tuple #[]) ∧ SortP keyCells 1 9 id f a b g c n w w' := by
  have hL := lin_key id
  have q0 : ((m : Int) - (a : Int) == 1) = false := by simp; omega
  have q1 : ((b : Int) - (m : Int) == 1) = false := by simp; omega
  have w0 : IntKind.i64.wrap ((m : Int) - (a : Int)) = (m : Int) - (a : Int) := by rw [IntKind.wrap_i64]; omega
  have w9 : IntKind.i64.wrap ((b : Int) - (m : Int)) = (b : Int) - (m : Int) := by rw [IntKind.wrap_i64]; omega
  obtain ⟨mid, hmid⟩ : ∃ z, z = (a + b) / 2 := ⟨_, rfl⟩
  obtain ⟨nn, hnn⟩ : ∃ z, z = mid + m := ⟨_, rfl⟩
  obtain ⟨pp, hpp⟩ : ∃ z, z = nn - 1 := ⟨_, rfl⟩
  obtain ⟨lo, hi, hlh⟩ : ∃ lo hi, mid < m ∧ lo = nn - b ∧ hi = mid ∨ m ≤ mid ∧ lo = a ∧ hi = m := by
    rcases Nat.lt_or_ge mid m with hl | hl
    · exact ⟨nn - b, mid, .inl ⟨hl, rfl, rfl⟩⟩
    · exact ⟨a, m, .inr ⟨hl, rfl, rfl⟩⟩
  have w2 : ((a : Int) + (b : Int)) / 2 = (mid : Int) := by omega
  have w3 : IntKind.i64.wrap ((mid : Int) + (m : Int)) = (nn : Int) := by rw [IntKind.wrap_i64]; omega
  have w4 : IntKind.i64.wrap ((nn : Int) - 1) = (pp : Int) := by rw [IntKind.wrap_i64]; omega
  have b1 : a < mid := by omega
  have b2 : mid < b := by omega
  have b3 : lo ≤ hi := by omega
  have b4 : a ≤ lo := by omega
  have b5 : hi ≤ m := by omega
  have b6 : hi ≤ mid := by omega
  have b7 : nn - lo ≤ b := by omega
  have b8 : hi < nn := by omega
  have b9 : m ≤ nn - hi := by omega
  have HD := Lib.hid (⟨hmid, hnn, hpp, hlh⟩ : mid = (a + b) / 2 ∧ nn = mid + m ∧ pp = nn - 1 ∧ (mid < m ∧ lo = nn - b ∧ hi = mid ∨ m ≤ mid ∧ lo = a ∧ hi = m))
  clear hmid hnn hpp hlh h1m h2m
  go_enter Tryz.func132, Tryz.ntmps132
  go_upto_if 140 with fail
  go_cut [20, 21] from 141 (fun u v w' => u = .int .i64 (lo : Int) ∧ v = .int .i64 (hi : Int) ∧ w' = w)
  case first =>
    obtain ⟨e1, e2, e3, e4⟩ := HD.out
    rcases e4 with ⟨x1, x2, x3⟩ | ⟨x1, x2, x3⟩
    · have hd1 : decide (mid < m) = true := decide_eq_true x1
      have w5 : IntKind.i64.wrap ((nn : Int) - (b : Int)) = (lo : Int) := by rw [IntKind.wrap_i64]; omega
      have x3' : (mid : Int) = (hi : Int) := by omega
      have X := Lib.hid x3
      clear e1 e2 e3 x2 x3 x3'
      go_wp2_with fail
      go_meet
      case rel => exact ⟨rfl, by rw [X.out], rfl⟩
    · have hd1 : decide (mid < m) = false := decide_eq_false (by omega)
      have hd1' : ¬ mid < m := by omega
      have X := Lib.hid (⟨x2, x3⟩ : lo = a ∧ hi = m)
      clear e1 e2 e3 x2 x3
      go_wp2_with fail
      go_meet
      case rel => exact ⟨by rw [X.out.1], by rw [X.out.2], rfl⟩
  case rest =>
    obtain ⟨rfl, rfl, rfl⟩ := hcut
    obtain ⟨wa, rfl⟩ : ∃ z, z = wc := ⟨_, rfl⟩
    go_wp2
    go_loopw [20, 21] (fun u v wr => BinR keyCells 1 9 f lo hi g c n (fun x => bl (id (f (nn - 1 - x))) (id (f x)) = false) (fun x => bl (id (f (nn - 1 - x))) (id (f x)) = true) wa u v wr) (fun u v _ => (intOf v).toNat - (intOf u).toNat)
    case atStart => exact ⟨lo, hi, Nat.le_refl _, b3, Nat.le_refl _, rfl, rfl, .inl rfl, .inl rfl, h, At1.refl _ _⟩
    case round =>
      obtain ⟨i, j, hi1, hij, hj1, rfl, rfl, hno, hyes, hr, ha⟩ := hrel
      by_cases hlt : i < j
      · have hd1 : decide ((i : Int) < (j : Int)) = true := by simp; omega
        obtain ⟨hm, hhm⟩ : ∃ z, z = (i + j) / 2 := ⟨_, rfl⟩
        have hm1 : i ≤ hm := by omega
        have hm2 : hm < j := by omega
        have w1 : ((i : Int) + (j : Int)) / 2 = (hm : Int) := by omega
        have k0 := (ha.cell (p := ⟨bk, 0, none⟩) hbk hne).trans hk
        have hbk2 := Nat.lt_of_lt_of_le hbk ha.size
        have hgl := hr.lt
        clear hhm
        obtain ⟨q, hq0⟩ : ∃ q, q = hm := ⟨_, rfl⟩
        subst hq0
        obtain ⟨p, hp0⟩ : ∃ p, p = nn - 1 - q := ⟨_, rfl⟩
        have hpp := HD.out.2.2.1
        have w6 : IntKind.i64.wrap ((pp : Int) - (q : Int)) = (p : Int) := by rw [IntKind.wrap_i64]; omega
        have h1 : p < n := by omega
        have h2 : q < n := by omega
        have k1 : (0 : Int) ≤ (q : Int) := by omega
        have k2 : (q : Int) < (n : Int) := by omega
        have k3 : (0 : Int) ≤ (p : Int) := by omega
        have k4 : (p : Int) < (n : Int) := by omega
        have HQ := Lib.hid hp0
        clear hp0 hpp
        have hC := cmp_s (f p) (f q) bk wr.drew k0 hbk2
        have hneg := cmpI_neg ((f p)) ((f q))
        generalize cmpI ((f p)) ((f q)) = z at *
        have c0 := hr.get (j := 0) h1 rfl
        have d0 := hr.get (j := 0) h2 rfl
        simp only [Nat.mul_one, Nat.add_zero] at c0 d0
        cases hbl : bl (id (f p)) (id (f q))
        case' true =>
          have hbl' : bl ((f p)) ((f q)) = true := hbl
          rw [hbl'] at hneg
          go_upto_region 35 with fail
          refine wp_region_held_drew (S := fun w' => w'.cell? ⟨g, p, none⟩ = some (.string (f p)) ∧ w'.cell? ⟨g, q, none⟩ = some (.string (f q))) (by kernel_rfl) ⟨c0, d0⟩ (fun hHeld => ?_)
          refine t0 0 158 ?_
          go_frame
          refine t0 1 159 ?_
          go_frame
          refine t0 2 160 ?_
          go_frame
          refine t0 3 161 ?_
          go_frame
          refine t0 4 162 ?_
          go_frame
          refine t0 5 163 ?_
          go_frame
          refine t0 6 164 ?_
          go_frame
          refine t0 7 165 ?_
          go_frame
          refine t0 8 166 ?_
          go_frame
          refine t0 9 167 ?_
          go_frame
          refine t0 10 168 ?_
          go_frame
          refine wpAnyH_ready (rs := [11]) (by kernel_rfl) (by simp) (AllReadyH.cons (o := ⟨some 169, _, _, _, _, _⟩) rfl (fun K hK => ?_) AllReadyH.nil)
          go_simp
          (with_reducible refine (hC).mono ?_)
          rintro e w5 ⟨rfl, hb5⟩
          refine hK.out _ _ ⟨(hb5.cell (by exact hgl)).trans c0, (hb5.cell (by exact hgl)).trans d0⟩ (fun hHeld => ?_)
          clear hK K
          try go_frame
          refine t0 12 170 ?_
          go_frame
          refine t0 13 171 ?_
          go_frame
          refine wpAnyH_done (by kernel_rfl) ?_ _
          have hb6 : Below wr.heap.size wr w5 := (Below.refl _ _).drew.trans hb5
          replace hr := hr.below hb6
          replace ha := ha.below hb6
          clear hC hb5 hHeld hb6 c0 d0
          go_wp2
          go_roundw
          case rel => exact ⟨i, q, hi1, hm1, by omega, rfl, by go_num, hno, .inr (by show bl (id (f (nn - 1 - q))) (id (f q)) = true; rw [← HQ.out]; exact hbl), hr, ha⟩
          case measure => simp [intOf]; omega
        case' false =>
          have hbl' : bl ((f p)) ((f q)) = false := hbl
          rw [hbl'] at hneg
          go_upto_region 35 with fail
          refine wp_region_held_drew (S := fun w' => w'.cell? ⟨g, p, none⟩ = some (.string (f p)) ∧ w'.cell? ⟨g, q, none⟩ = some (.string (f q))) (by kernel_rfl) ⟨c0, d0⟩ (fun hHeld => ?_)
          refine t0 0 158 ?_
          go_frame
          refine t0 1 159 ?_
          go_frame
          refine t0 2 160 ?_
          go_frame
          refine t0 3 161 ?_
          go_frame
          refine t0 4 162 ?_
          go_frame
          refine t0 5 163 ?_
          go_frame
          refine t0 6 164 ?_
          go_frame
          refine t0 7 165 ?_
          go_frame
          refine t0 8 166 ?_
          go_frame
          refine t0 9 167 ?_
          go_frame
          refine t0 10 168 ?_
          go_frame
          refine wpAnyH_ready (rs := [11]) (by kernel_rfl) (by simp) (AllReadyH.cons (o := ⟨some 169, _, _, _, _, _⟩) rfl (fun K hK => ?_) AllReadyH.nil)
          go_simp
          (with_reducible refine (hC).mono ?_)
          rintro e w5 ⟨rfl, hb5⟩
          refine hK.out _ _ ⟨(hb5.cell (by exact hgl)).trans c0, (hb5.cell (by exact hgl)).trans d0⟩ (fun hHeld => ?_)
          clear hK K
          try go_frame
          refine t0 12 170 ?_
          go_frame
          refine t0 13 171 ?_
          go_frame
          refine wpAnyH_done (by kernel_rfl) ?_ _
          have hb6 : Below wr.heap.size wr w5 := (Below.refl _ _).drew.trans hb5
          replace hr := hr.below hb6
          replace ha := ha.below hb6
          clear hC hb5 hHeld hb6 c0 d0
          go_wp2
          go_roundw
          case rel => exact ⟨q + 1, j, by omega, by omega, hj1, by go_num, rfl, .inr (by show bl (id (f (nn - 1 - (q + 1 - 1)))) (id (f (q + 1 - 1))) = false; rw [Nat.add_sub_cancel, ← HQ.out]; exact hbl), hyes, hr, ha⟩
          case measure => simp [intOf]; omega
      · have hd1 : decide ((i : Int) < (j : Int)) = false := by simp; omega
        obtain rfl : i = j := by omega
        obtain ⟨e, he⟩ : ∃ e, e = nn - i := ⟨_, rfl⟩
        have w6 : IntKind.i64.wrap ((nn : Int) - (i : Int)) = (e : Int) := by rw [IntKind.wrap_i64]; omega
        have HS : a ≤ i ∧ i ≤ mid ∧ mid ≤ e ∧ e ≤ b ∧ i ≤ m ∧ m ≤ e ∧ Srt (fun x y => bl (id x) (id y)) (roF f i m e) a i ∧ Srt (fun x y => bl (id x) (id y)) (roF f i m e) i mid ∧ Srt (fun x y => bl (id x) (id y)) (roF f i m e) mid e ∧ Srt (fun x y => bl (id x) (id y)) (roF f i m e) e b ∧
            ∀ x y, a ≤ x → x < mid → mid ≤ y → y < b → bl (id (roF f i m e y)) (id (roF f i m e x)) = false := by
          obtain ⟨e1, e2, e3, e4⟩ := HD.out
          have hcut := sym_cut hL hs1 hs2 ham hmb e1 (lo := lo) (hi := hi) (s := i) (by rw [← e2]; exact e4) hi1 hj1
            (by rcases hno with z | z
                · exact .inl z
                · by_cases hz : i = lo
                  · exact .inl hz
                  · rw [show nn - 1 - (i - 1) = mid + m - i by omega] at z; exact .inr z)
            (by rcases hyes with z | z
                · exact .inl z
                · rw [show nn - 1 - i = mid + m - 1 - i by omega] at z; exact .inr z)
          rw [← e2, ← he] at hcut
          exact hcut
        obtain ⟨g1, g2, g3, g4, g5, g6, HS⟩ := HS
        have HS := Lib.hid HS
        clear hno hyes he w2 w3 w4 q0 q1 w0 w9
        go_upto_region 39 with fail
        obtain ⟨bq, hbq⟩ : ∃ z : Bool, z = decide (i < m ∧ m < e) := ⟨_, rfl⟩
        have HB := Lib.hid hbq
        clear hbq
        go_cut [185] from 178 (fun v w' => v = .bool bq ∧ w' = wr)
        case first =>
          by_cases hx1 : i < m
          · have hx1d : decide (i < m) = true := decide_eq_true hx1
            by_cases hx2 : m < e
            · have hx2d : decide (m < e) = true := decide_eq_true hx2
              have HR := Lib.hid (show bq = true from HB.out.trans (decide_eq_true ⟨hx1, hx2⟩))
              go_wp2_with fail
              go_meet
              case rel => exact ⟨congrArg Value.bool HR.out.symm, rfl⟩
            · have hx2d : decide (m < e) = false := decide_eq_false hx2
              have HR := Lib.hid (show bq = false from HB.out.trans (decide_eq_false fun h => hx2 h.2))
              go_wp2_with fail
              go_meet
              case rel => exact ⟨congrArg Value.bool HR.out.symm, rfl⟩
          · have hx1d : decide (i < m) = false := decide_eq_false hx1
            have HR := Lib.hid (show bq = false from HB.out.trans (decide_eq_false fun h => hx1 h.1))
            go_wp2_with fail
            go_meet
            case rel => exact ⟨congrArg Value.bool HR.out.symm, rfl⟩
        case rest =>
          obtain ⟨rfl, rfl⟩ := hcut
          go_upto_if 185 with fail
          go_cut [] from 178 (fun w' => RowF keyCells 1 9 w' g c n (roF f i m e) ∧ At1 wa w' g)
          case first =>
            by_cases hc : i < m ∧ m < e
            · obtain rfl : bq = true := HB.out.trans (decide_eq_true hc)
              have hRo := rotate_s g c n f i m e (.func (.func 87) #[] #[.pointer (some ⟨bk, 0, none⟩)]) wc hr hc.1 hc.2 (by omega)
              clear hc
              go_wp2_with ((with_reducible refine hRo.mono ?_); rintro e' w7 ⟨rfl, hr7, ha7⟩)
              go_meet
              case rel => exact ⟨hr7, ha.trans ha7⟩
            · obtain rfl : bq = false := HB.out.trans (decide_eq_false hc)
              have hr7 : RowF keyCells 1 9 wc g c n (roF f i m e) := by rw [roF_none f g5 g6 (by omega)]; exact hr
              clear hc
              go_wp2_with fail
              go_meet
              case rel => exact ⟨hr7, ha⟩
          case rest =>
            obtain ⟨hr, ha⟩ := hcut
            obtain ⟨wb, rfl⟩ : ∃ z, z = wc := ⟨_, rfl⟩
            obtain ⟨F, hF⟩ : ∃ F, F = roF f i m e := ⟨_, rfl⟩
            rw [← hF] at hr HS
            have HF := Lib.hid hF
            clear hF
            go_upto_region 41 with fail
            obtain ⟨bq, hbq⟩ : ∃ z : Bool, z = decide (a < i ∧ i < mid) := ⟨_, rfl⟩
            have HB := Lib.hid hbq
            clear hbq
            go_cut [199] from 192 (fun v w' => v = .bool bq ∧ w' = wb)
            case first =>
              by_cases hx1 : a < i
              · have hx1d : decide (a < i) = true := decide_eq_true hx1
                by_cases hx2 : i < mid
                · have hx2d : decide (i < mid) = true := decide_eq_true hx2
                  have HR := Lib.hid (show bq = true from HB.out.trans (decide_eq_true ⟨hx1, hx2⟩))
                  go_wp2_with fail
                  go_meet
                  case rel => exact ⟨congrArg Value.bool HR.out.symm, rfl⟩
                · have hx2d : decide (i < mid) = false := decide_eq_false hx2
                  have HR := Lib.hid (show bq = false from HB.out.trans (decide_eq_false fun h => hx2 h.2))
                  go_wp2_with fail
                  go_meet
                  case rel => exact ⟨congrArg Value.bool HR.out.symm, rfl⟩
              · have hx1d : decide (a < i) = false := decide_eq_false hx1
                have HR := Lib.hid (show bq = false from HB.out.trans (decide_eq_false fun h => hx1 h.1))
                go_wp2_with fail
                go_meet
                case rel => exact ⟨congrArg Value.bool HR.out.symm, rfl⟩
            case rest =>
              obtain ⟨rfl, rfl⟩ := hcut
              obtain ⟨wb, rfl⟩ : ∃ z, z = wc := ⟨_, rfl⟩
              go_upto_if 199 with fail
              go_cut [] from 192 (fun w' => SortP keyCells 1 9 id F a mid g c n wb w')
              case first =>
                by_cases hc : a < i ∧ i < mid
                · obtain rfl : bq = true := HB.out.trans (decide_eq_true hc)
                  have hIH := IH a i mid (by omega) F wb hr hn hc.1 hc.2 (by omega) ((ha.cell (p := ⟨bk, 0, none⟩) hbk hne).trans hk) (Nat.lt_of_lt_of_le hbk ha.size) hne HS.out.1 HS.out.2.1
                  clear hc
                  go_wp2_with ((with_reducible refine hIH.mono ?_); rintro e' w7 ⟨rfl, hS7⟩)
                  go_meet
                  case rel => exact hS7
                · obtain rfl : bq = false := HB.out.trans (decide_eq_false hc)
                  have hs7 : Srt (fun x y => bl (id x) (id y)) F a mid := by
                    by_cases hi : i = a
                    · have := HS.out.2.1; rw [hi] at this; exact this
                    · have := HS.out.1; rw [show i = mid by omega] at this; exact this
                  clear hc
                  go_wp2_with fail
                  go_meet
                  case rel => exact ⟨F, hr, Pm.refl _ _ _, hs7, At1.refl _ _⟩
              case rest =>
                obtain ⟨G, hr2, hp2, hsG, ha2⟩ := hcut
                obtain ⟨wd, rfl⟩ : ∃ z, z = wc := ⟨_, rfl⟩
                have HX := Lib.hid (⟨hp2, hsG⟩ : Pm a mid F G ∧ Srt (fun x y => bl (id x) (id y)) G a mid)
                have ha3 := ha.trans ha2
                clear hr ha ha2 hp2 hsG
                go_upto_region 43 with fail
                obtain ⟨bq, hbq⟩ : ∃ z : Bool, z = decide (mid < e ∧ e < b) := ⟨_, rfl⟩
                have HB := Lib.hid hbq
                clear hbq
                go_cut [213] from 206 (fun v w' => v = .bool bq ∧ w' = wd)
                case first =>
                  by_cases hx1 : mid < e
                  · have hx1d : decide (mid < e) = true := decide_eq_true hx1
                    by_cases hx2 : e < b
                    · have hx2d : decide (e < b) = true := decide_eq_true hx2
                      have HR := Lib.hid (show bq = true from HB.out.trans (decide_eq_true ⟨hx1, hx2⟩))
                      go_wp2_with fail
                      go_meet
                      case rel => exact ⟨congrArg Value.bool HR.out.symm, rfl⟩
                    · have hx2d : decide (e < b) = false := decide_eq_false hx2
                      have HR := Lib.hid (show bq = false from HB.out.trans (decide_eq_false fun h => hx2 h.2))
                      go_wp2_with fail
                      go_meet
                      case rel => exact ⟨congrArg Value.bool HR.out.symm, rfl⟩
                  · have hx1d : decide (mid < e) = false := decide_eq_false hx1
                    have HR := Lib.hid (show bq = false from HB.out.trans (decide_eq_false fun h => hx1 h.1))
                    go_wp2_with fail
                    go_meet
                    case rel => exact ⟨congrArg Value.bool HR.out.symm, rfl⟩
                case rest =>
                  obtain ⟨rfl, rfl⟩ := hcut
                  obtain ⟨wd, rfl⟩ : ∃ z, z = wc := ⟨_, rfl⟩
                  have hp0 : Pm a b f F := by rw [HF.out]; exact (roF_pm f _ i m e (Nat.le_refl _) g5 g6).wide g1 g4
                  have hg1 : Srt (fun x y => bl (id x) (id y)) G mid e := HS.out.2.2.1.same fun k hk _ => HX.out.1.out k (.inr hk)
                  have hg2 : Srt (fun x y => bl (id x) (id y)) G e b := HS.out.2.2.2.1.same fun k hk _ => HX.out.1.out k (.inr (by omega))
                  have HP := Lib.hid hp0
                  by_cases hc : mid < e ∧ e < b
                  · obtain rfl : bq = true := HB.out.trans (decide_eq_true hc)
                    have hIH := IH mid e b (by omega) G wd hr2 hn hc.1 hc.2 hb ((ha3.cell (p := ⟨bk, 0, none⟩) hbk hne).trans hk) (Nat.lt_of_lt_of_le hbk ha3.size) hne hg1 hg2
                    clear hc hg1 hg2 hp0
                    go_wp2_with ((with_reducible refine hIH.mono ?_); rintro e' w7 ⟨rfl, G2, hr7, hp7, hs7, ha7⟩)
                    go_end0
                    exact ⟨rfl, G2, hr7, HP.out.trans ((HX.out.1.wide (Nat.le_refl _) (by omega)).trans (hp7.wide (by omega) (Nat.le_refl _))), sym_end HX.out.2 HX.out.1 hs7 hp7 HS.out.2.2.2.2, ha3.trans ha7⟩
                  · obtain rfl : bq = false := HB.out.trans (decide_eq_false hc)
                    have hs7 : Srt (fun x y => bl (id x) (id y)) G mid b := by
                      by_cases hi : e = mid
                      · rw [hi] at hg2; exact hg2
                      · rw [show e = b by omega] at hg1; exact hg1
                    clear hc hg1 hg2 hp0
                    go_wp2_with fail
                    go_end0
                    exact ⟨rfl, G, hr2, HP.out.trans (HX.out.1.wide (Nat.le_refl _) (by omega)), sym_end HX.out.2 HX.out.1 hs7 (Pm.refl _ _ _) HS.out.2.2.2.2, ha3⟩
theorem symMerge_s (g c n bk : Nat) : ∀ (s a m b : Nat), b - a ≤ s → SymOk_s g c n bk a m b := by
  intro s
  induction s with
  | zero => intro a m b hs f w _ _ h1 h2; omega
  | succ s ih =>
    intro a m b hs f w h hn ham hmb hb hk hbk hne hs1 hs2
    by_cases h1 : m = a + 1
    · exact symMerge1_s g c n f a m b bk w h hn ham hmb hb hk hbk hne hs1 hs2 h1
    · by_cases h2 : b = m + 1
      · exact symMerge2_s g c n f a m b bk w h hn ham hmb hb hk hbk hne hs1 hs2 h1 h2
      · exact symMerge3_s g c n f a m b bk w h hn ham hmb hb hk hbk hne hs1 hs2 h1 h2 fun a' m' b' hlt => ih a' m' b' (by omega)

end Go.Proofs.YtipacjbegfingaaGreat
