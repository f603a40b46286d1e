/- insertionSort, at writes, texts, histories. -/
import Derived.Test.YtipacjbegfingaaGreatYaai
import Derived.Test.YtipacjbegfingaaGreatYaba
import Derived.Test.YtipacjbegfingaaGreatYacb
namespace Go.Proofs.YtipacjbegfingaaGreat
set_option linter.unusedVariables false
open Go.RowKit
attribute [local go_sem] run_store_float

theorem lin_key {α : Type} (k : α → ByteArray) : Lin fun a b => bl (k a) (k b) := by
  have hs : ∀ a : ByteArray, bl a a = false := fun a => by
    cases e : bl a a
    · rfl
    · have := bl_irrefl a a e; rw [beq_self_eq_true] at this; cases this
  have hto : ∀ a b : ByteArray, bl a b = true → bl b a = false := fun a b h => by
    cases e : bl b a
    · rfl
    · have := bl_trans h e; rw [hs] at this; cases this
  refine ⟨fun a b h => hto _ _ h, fun a b c h1 h2 => ?_⟩
  show bl (k c) (k a) = false
  cases e : bl (k c) (k a)
  · rfl
  · have h1' : bl (k b) (k a) = false := h1
    have h2' : bl (k c) (k b) = false := h2
    have e2 := bl_beq h2'
    cases e3 : bl (k b) (k c)
    · rw [e3] at e2
      have := bytes_toList (beq_iff_eq.1 e2)
      rw [this, h1'] at e; cases e
    · have := bl_trans e3 e
      rw [h1'] at this; cases this
/-- what a sort leaves -/
def SortP {α : Type} (cells : α → List Value) (E : Nat) (T : TypeId) (k : α → ByteArray) (f : Nat → α) (a b g c n : Nat) (w w' : World) : Prop :=
  ∃ f', RowF cells E T w' g c n f' ∧ Pm a b f f' ∧ Srt (fun x y => bl (k x) (k y)) f' a b ∧ At1 w w' g
def InsO {α : Type} (cells : α → List Value) (E : Nat) (T : TypeId) (k : α → ByteArray) (f : Nat → α) (a b g c n : Nat) (w : World) (u : Value) (wr : World) : Prop :=
  ∃ (i : Nat) (d : Nat → α), a + 1 ≤ i ∧ (i ≤ b ∨ i = a + 1) ∧ u = .int .i64 (i : Int) ∧ RowF cells E T wr g c n d ∧ Pm a b f d ∧ Srt (fun x y => bl (k x) (k y)) d a i ∧ At1 w wr g
def InsI {α : Type} (cells : α → List Value) (E : Nat) (T : TypeId) (k : α → ByteArray) (f : Nat → α) (a b i g c n : Nat) (w : World) (u : Value) (wr : World) : Prop :=
  ∃ (j : Nat) (d : Nat → α), a ≤ j ∧ j ≤ i ∧ u = .int .i64 (j : Int) ∧ RowF cells E T wr g c n d ∧ Pm a b f d ∧ Ins (fun x y => bl (k x) (k y)) d a j i ∧ At1 w wr g

set_option maxRecDepth 100000 in
set_option maxHeartbeats 2000000 in
theorem insertion_w (g c n : Nat) (f : Nat → Wt) (a b bk : Nat) (w : World) (h : RowF Wt.cells 4 86 w g c n f) (hn : n ≤ 1000000000) (hab : a ≤ b) (hb : b ≤ n) (hk : w.cell? ⟨bk, 0, none⟩ = some (.func (.func 57) #[] #[])) (hbk : bk < w.heap.size) (hne : bk ≠ g) :
    Calls Tryz.prog 133 #[.slice (some ⟨g, 0, none⟩) n c, .int .i64 (a : Int), .int .i64 (b : Int), .func (.func 90) #[] #[.pointer (some ⟨bk, 0, none⟩)]] w fun e w' => e = .returned (.tuple #[]) ∧ SortP Wt.cells 4 86 Wt.key f a b g c n w w' := by
  have hL := lin_key Wt.key
  go_enter Tryz.func133, Tryz.ntmps133
  go_wp2
  go_loopw [8] (fun u wr => InsO Wt.cells 4 86 Wt.key f a b g c n w u wr) (fun u _ => b - (intOf u).toNat)
  case atStart => exact ⟨a + 1, f, Nat.le_refl _, .inr rfl, by go_num, h, Pm.refl _ _ _, Srt.one hL f (Nat.le_refl _), At1.refl _ _⟩
  case round =>
    obtain ⟨i, d, hi1, hi2, rfl, hr, hp, hs, ha⟩ := hrel
    by_cases hlt : i < b
    · have hd1 : decide ((i : Int) < (b : Int)) = true := by simp; omega
      obtain ⟨wo, rfl⟩ : ∃ wo, wo = wr := ⟨_, rfl⟩
      go_wp2
      go_loopw [9] (fun u wr => InsI Wt.cells 4 86 Wt.key f a b i g c n w u wr) (fun u _ => (intOf u).toNat)
      case atStart => exact ⟨i, d, by omega, Nat.le_refl _, rfl, hr, hp, ins_start hL hs, ha⟩
      case round =>
        obtain ⟨j, d, hj1, hj2, rfl, hr, hp, hI, ha⟩ := hrel
        have k0 := (ha.cell (p := ⟨bk, 0, none⟩) hbk hne).trans hk
        have hbk2 := Nat.lt_of_lt_of_le hbk ha.size
        have hgl := hr.lt
        by_cases hja : j = a
        · have hd2 : decide (a < j) = false := by simp; omega
          have hd2' : ¬ a < j := by omega
          have hend := ins_end hL hI hj1 hj2 (.inl hja)
          clear hI hs
          go_wp2_with fail
          go_quiet (fail)
          replace hr := hr.below (w' := wr.drewN nq) ⟨rfl, rfl, rfl, Nat.le_refl _, fun _ _ => rfl⟩
          replace ha := ha.drewN nq
          generalize wr.drewN nq = wx at *
          go_wp2
          go_roundw
          case rel => exact ⟨i + 1, d, by omega, .inl hlt, by go_num, hr, hp, hend, ha⟩
          case measure => simp [intOf]; omega
        · have hd2' : a < j := by omega
          have hd2 : decide (a < j) = true := decide_eq_true hd2'
          obtain ⟨p, hp0⟩ : ∃ p, p = j := ⟨_, rfl⟩
          obtain ⟨q, hq0⟩ : ∃ q, q = j - 1 := ⟨_, rfl⟩
          have w1 : IntKind.i64.wrap ((j : Int) - 1) = (q : Int) := by rw [IntKind.wrap_i64]; omega
          have h1 : p < n := by omega
          have h2 : q < n := by omega
          have k1 : (0 : Int) ≤ (j : Int) := by omega
          have k2 : (j : Int) < (n : Int) := by omega
          have k3 : (0 : Int) ≤ (q : Int) := by omega
          have k4 : (q : Int) < (n : Int) := by omega
          have hqj : q < j := by omega
          have haq : a ≤ q := by omega
          subst hp0
          have HQ := Lib.hid hq0
          clear hq0
          have hC := cmp_w (d p) (d q) bk wr.drew k0 hbk2
          have hneg := cmpI_neg (d p).key (d q).key
          generalize cmpI (d p).key (d q).key = z at *
          have c0 := hr.get (j := 0) h1 rfl
          have c1 := hr.get (j := 1) h1 rfl
          have c2 := hr.get (j := 2) h1 rfl
          have c3 := hr.get (j := 3) h1 rfl
          have d0 := hr.get (j := 0) h2 rfl
          have d1 := hr.get (j := 1) h2 rfl
          have d2 := hr.get (j := 2) h2 rfl
          have d3 := hr.get (j := 3) h2 rfl
          simp only [Nat.add_zero] at c0 d0
          cases hbl : bl (d p).key (d q).key
          case' false =>
            rw [hbl] at hneg
            have hend := ins_end hL hI hj1 hj2 (.inr (by rw [← HQ.out]; exact hbl))
            clear hI hs hbl
            go_wp2_with fail
            refine wp_region_held_drew (S := fun w' => w'.cell? ⟨g, p * 4, none⟩ = some (.string (d p).key) ∧ w'.cell? ⟨g, p * 4 + 1, none⟩ = some (.int .i64 (d p).v.k) ∧ w'.cell? ⟨g, p * 4 + 2, none⟩ = some (.float .f64 (d p).v.n) ∧ w'.cell? ⟨g, p * 4 + 3, none⟩ = some (.string (d p).v.t) ∧ w'.cell? ⟨g, q * 4, none⟩ = some (.string (d q).key) ∧ w'.cell? ⟨g, q * 4 + 1, none⟩ = some (.int .i64 (d q).v.k) ∧ w'.cell? ⟨g, q * 4 + 2, none⟩ = some (.float .f64 (d q).v.n) ∧ w'.cell? ⟨g, q * 4 + 3, none⟩ = some (.string (d q).v.t)) (by kernel_rfl) ⟨c0, c1, c2, c3, d0, d1, d2, d3⟩ (fun hHeld => ?_)
            refine t0 0 18 ?_
            go_frame
            refine t0 1 19 ?_
            go_frame
            refine t0 2 20 ?_
            go_frame
            refine t0 3 21 ?_
            go_frame
            refine t0 4 22 ?_
            go_frame
            refine t0 5 23 ?_
            go_frame
            refine t0 6 24 ?_
            go_frame
            refine t0 7 25 ?_
            go_frame
            refine t0 8 26 ?_
            go_frame
            refine t0 9 27 ?_
            go_frame
            refine t0 10 28 ?_
            go_frame
            refine t0 11 29 ?_
            go_frame
            refine t0 12 30 ?_
            go_frame
            refine t0 13 31 ?_
            go_frame
            refine wpAnyH_ready (rs := [14]) (by kernel_rfl) (by simp) (AllReadyH.cons (o := ⟨some 32, _, _, _, _, _⟩) rfl (fun K hK => ?_) AllReadyH.nil)
            go_simp
            (with_reducible refine (hC).mono ?_)
            rintro e w5 ⟨rfl, hb5⟩
            refine hK.out _ _ ⟨(hb5.cell (by exact hgl)).trans c0, (hb5.cell (by exact hgl)).trans c1, (hb5.cell (by exact hgl)).trans c2, (hb5.cell (by exact hgl)).trans c3, (hb5.cell (by exact hgl)).trans d0, (hb5.cell (by exact hgl)).trans d1, (hb5.cell (by exact hgl)).trans d2, (hb5.cell (by exact hgl)).trans d3⟩ (fun hHeld => ?_)
            clear hK K
            try go_frame
            refine t0 15 33 ?_
            go_frame
            refine t0 16 34 ?_
            go_frame
            refine wpAnyH_done (by kernel_rfl) ?_ _
            have hb6 : Below wr.heap.size wr w5 := (Below.refl _ _).drew.trans hb5
            replace hr := hr.below hb6
            replace ha := ha.below hb6
            clear hC hb5 hHeld c0 c1 c2 c3 d0 d1 d2 d3
            go_wp2
            go_roundw
            case rel => exact ⟨i + 1, d, by omega, .inl hlt, by go_num, hr, hp, hend, ha⟩
            case measure => simp [intOf]; omega
          case' true =>
            rw [hbl] at hneg
            have hstep := ins_step hL hI (by omega) hj2 (by rw [← HQ.out]; exact hbl)
            rw [← HQ.out] at hstep
            clear hI hs hbl
            go_wp2_with fail
            refine wp_region_held_drew (S := fun w' => w'.cell? ⟨g, p * 4, none⟩ = some (.string (d p).key) ∧ w'.cell? ⟨g, p * 4 + 1, none⟩ = some (.int .i64 (d p).v.k) ∧ w'.cell? ⟨g, p * 4 + 2, none⟩ = some (.float .f64 (d p).v.n) ∧ w'.cell? ⟨g, p * 4 + 3, none⟩ = some (.string (d p).v.t) ∧ w'.cell? ⟨g, q * 4, none⟩ = some (.string (d q).key) ∧ w'.cell? ⟨g, q * 4 + 1, none⟩ = some (.int .i64 (d q).v.k) ∧ w'.cell? ⟨g, q * 4 + 2, none⟩ = some (.float .f64 (d q).v.n) ∧ w'.cell? ⟨g, q * 4 + 3, none⟩ = some (.string (d q).v.t)) (by kernel_rfl) ⟨c0, c1, c2, c3, d0, d1, d2, d3⟩ (fun hHeld => ?_)
            refine t0 0 18 ?_
            go_frame
            refine t0 1 19 ?_
            go_frame
            refine t0 2 20 ?_
            go_frame
            refine t0 3 21 ?_
            go_frame
            refine t0 4 22 ?_
            go_frame
            refine t0 5 23 ?_
            go_frame
            refine t0 6 24 ?_
            go_frame
            refine t0 7 25 ?_
            go_frame
            refine t0 8 26 ?_
            go_frame
            refine t0 9 27 ?_
            go_frame
            refine t0 10 28 ?_
            go_frame
            refine t0 11 29 ?_
            go_frame
            refine t0 12 30 ?_
            go_frame
            refine t0 13 31 ?_
            go_frame
            refine wpAnyH_ready (rs := [14]) (by kernel_rfl) (by simp) (AllReadyH.cons (o := ⟨some 32, _, _, _, _, _⟩) rfl (fun K hK => ?_) AllReadyH.nil)
            go_simp
            (with_reducible refine (hC).mono ?_)
            rintro e w5 ⟨rfl, hb5⟩
            refine hK.out _ _ ⟨(hb5.cell (by exact hgl)).trans c0, (hb5.cell (by exact hgl)).trans c1, (hb5.cell (by exact hgl)).trans c2, (hb5.cell (by exact hgl)).trans c3, (hb5.cell (by exact hgl)).trans d0, (hb5.cell (by exact hgl)).trans d1, (hb5.cell (by exact hgl)).trans d2, (hb5.cell (by exact hgl)).trans d3⟩ (fun hHeld => ?_)
            clear hK K
            try go_frame
            refine t0 15 33 ?_
            go_frame
            refine t0 16 34 ?_
            go_frame
            refine wpAnyH_done (by kernel_rfl) ?_ _
            have hb6 : Below wr.heap.size wr w5 := (Below.refl _ _).drew.trans hb5
            replace hr := hr.below hb6
            replace ha := ha.below hb6
            have hpm := hp.trans (Pm.swap d (i := p) (j := q) hj1 (by omega) haq (by omega))
            clear hC hb5 hHeld hb6 c0 c1 c2 c3 d0 d1 d2 d3
            go_upto_region 6 with fail
            have c0 := hr.get (j := 0) h1 rfl
            have c1 := hr.get (j := 1) h1 rfl
            have c2 := hr.get (j := 2) h1 rfl
            have c3 := hr.get (j := 3) h1 rfl
            have d0 := hr.get (j := 0) h2 rfl
            have d1 := hr.get (j := 1) h2 rfl
            have d2 := hr.get (j := 2) h2 rfl
            have d3 := hr.get (j := 3) h2 rfl
            simp only [Nat.add_zero] at c0 d0
            refine wp_region_held_drew (S := fun _ => True) (by kernel_rfl) trivial (fun hHeld => ?_)
            refine t0 0 37 ?_
            go_frame
            refine t0 1 38 ?_
            go_frame
            refine t0 2 39 ?_
            go_frame
            refine t0 3 40 ?_
            go_frame
            refine t0 4 41 ?_
            go_frame
            refine t0 5 42 ?_
            go_frame
            refine t0 6 43 ?_
            go_frame
            refine t0 7 44 ?_
            go_frame
            refine t0 8 45 ?_
            go_frame
            refine t0 10 47 ?_
            go_frame
            refine t0 11 48 ?_
            go_frame
            refine t0 12 49 ?_
            go_frame
            refine wpAnyH_ready (rs := [9, 13]) (by kernel_rfl) (by simp) (AllReadyH.cons (o := ⟨some 46, _, _, _, _, _⟩) rfl (fun K hK => ?_) (AllReadyH.cons (o := ⟨some 50, _, _, _, _, _⟩) rfl (fun K hK => ?_) AllReadyH.nil))
            rotate_left
            go_simp
            refine hK.out _ _ trivial (fun hHeld => ?_)
            clear hK K
            try go_frame
            refine wpAnyH_ready (rs := [9]) (by kernel_rfl) (by simp) (AllReadyH.cons (o := ⟨some 46, _, _, _, _, _⟩) rfl (fun K hK => ?_) AllReadyH.nil)
            go_simp
            refine hK.out _ _ trivial (fun hHeld => ?_)
            clear hK K
            try go_frame
            rotate_left
            go_simp
            refine hK.out _ _ trivial (fun hHeld => ?_)
            clear hK K
            try go_frame
            refine wpAnyH_ready (rs := [13]) (by kernel_rfl) (by simp) (AllReadyH.cons (o := ⟨some 50, _, _, _, _, _⟩) rfl (fun K hK => ?_) AllReadyH.nil)
            go_simp
            refine hK.out _ _ trivial (fun hHeld => ?_)
            clear hK K
            try go_frame
            all_goals
              refine t0 14 51 ?_
              go_frame
              have hr1 := RowF.put wt_len hr.drew h1 (d q)
              have hr2 := RowF.swap wt_len hr.drew h1 h2
              have ha2 := ((ha.drew).setCells (Wt.cells (d q)) (p * 4)).setCells (Wt.cells (d p)) (q * 4)
              have hth := hr1.there h2
              refine wpAnyH_store_mid (i := 15) (by kernel_rfl) rfl rfl _ _ _ rfl g (p * 4) (Wt.cells (d q)).toArray (by kernel_rfl) (by kernel_rfl) (hr.there h1) (by kernel_rfl) (by kernel_rfl) trivial ?_
              refine t0 16 52 ?_
              go_frame
              refine wpAnyH_store_mid (i := 17) (by kernel_rfl) rfl rfl _ _ _ rfl g (q * 4) (Wt.cells (d p)).toArray (by kernel_rfl) (by kernel_rfl) hth (by kernel_rfl) (by kernel_rfl) trivial ?_
              refine wpAnyH_done (by kernel_rfl) ?_ _
              clear c0 c1 c2 c3 d0 d1 d2 d3 hr1 hth
              replace hr2 : RowF Wt.cells 4 86 ((w5.drew.setCells g (p * 4) (Wt.cells (d q)).toArray.toList).setCells g (q * 4) (Wt.cells (d p)).toArray.toList) g c n (sw d p q) := hr2
              replace ha2 : At1 w ((w5.drew.setCells g (p * 4) (Wt.cells (d q)).toArray.toList).setCells g (q * 4) (Wt.cells (d p)).toArray.toList) g := ha2
              generalize ((w5.drew.setCells g (p * 4) (Wt.cells (d q)).toArray.toList).setCells g (q * 4) (Wt.cells (d p)).toArray.toList) = wq at *
              go_frame
              go_wp2
              go_roundw
              case rel => exact ⟨q, _, haq, by omega, by go_num, hr2, hpm, hstep, ha2⟩
              case measure => simp [intOf]; omega
    · have hd1 : decide ((i : Int) < (b : Int)) = false := by simp; omega
      go_wp2
      go_end0
      exact ⟨rfl, d, hr, hp, hs.sub (Nat.le_refl _) (by omega), ha⟩

set_option maxRecDepth 100000 in
set_option maxHeartbeats 2000000 in
theorem insertion_s (g c n : Nat) (f : Nat → ByteArray) (a b bk : Nat) (w : World) (h : RowF keyCells 1 9 w g c n f) (hn : n ≤ 1000000000) (hab : a ≤ b) (hb : b ≤ n) (hk : w.cell? ⟨bk, 0, none⟩ = some (.func (.func 55) #[] #[])) (hbk : bk < w.heap.size) (hne : bk ≠ g) :
    Calls Tryz.prog 131 #[.slice (some ⟨g, 0, none⟩) n c, .int .i64 (a : Int), .int .i64 (b : Int), .func (.func 87) #[] #[.pointer (some ⟨bk, 0, none⟩)]] w fun e w' => e = .returned (.tuple #[]) ∧ SortP keyCells 1 9 id f a b g c n w w' := by
  have hL := lin_key id
  go_enter Tryz.func131, Tryz.ntmps131
  go_wp2
  go_loopw [8] (fun u wr => InsO keyCells 1 9 id f a b g c n w u wr) (fun u _ => b - (intOf u).toNat)
  case atStart => exact ⟨a + 1, f, Nat.le_refl _, .inr rfl, by go_num, h, Pm.refl _ _ _, Srt.one hL f (Nat.le_refl _), At1.refl _ _⟩
  case round =>
    obtain ⟨i, d, hi1, hi2, rfl, hr, hp, hs, ha⟩ := hrel
    by_cases hlt : i < b
    · have hd1 : decide ((i : Int) < (b : Int)) = true := by simp; omega
      obtain ⟨wo, rfl⟩ : ∃ wo, wo = wr := ⟨_, rfl⟩
      go_wp2
      go_loopw [9] (fun u wr => InsI keyCells 1 9 id f a b i g c n w u wr) (fun u _ => (intOf u).toNat)
      case atStart => exact ⟨i, d, by omega, Nat.le_refl _, rfl, hr, hp, ins_start hL hs, ha⟩
      case round =>
        obtain ⟨j, d, hj1, hj2, rfl, hr, hp, hI, ha⟩ := hrel
        have k0 := (ha.cell (p := ⟨bk, 0, none⟩) hbk hne).trans hk
        have hbk2 := Nat.lt_of_lt_of_le hbk ha.size
        have hgl := hr.lt
        by_cases hja : j = a
        · have hd2 : decide (a < j) = false := by simp; omega
          have hd2' : ¬ a < j := by omega
          have hend := ins_end hL hI hj1 hj2 (.inl hja)
          clear hI hs
          go_wp2_with fail
          go_quiet (fail)
          replace hr := hr.below (w' := wr.drewN nq) ⟨rfl, rfl, rfl, Nat.le_refl _, fun _ _ => rfl⟩
          replace ha := ha.drewN nq
          generalize wr.drewN nq = wx at *
          go_wp2
          go_roundw
          case rel => exact ⟨i + 1, d, by omega, .inl hlt, by go_num, hr, hp, hend, ha⟩
          case measure => simp [intOf]; omega
        · have hd2' : a < j := by omega
          have hd2 : decide (a < j) = true := decide_eq_true hd2'
          obtain ⟨p, hp0⟩ : ∃ p, p = j := ⟨_, rfl⟩
          obtain ⟨q, hq0⟩ : ∃ q, q = j - 1 := ⟨_, rfl⟩
          have w1 : IntKind.i64.wrap ((j : Int) - 1) = (q : Int) := by rw [IntKind.wrap_i64]; omega
          have h1 : p < n := by omega
          have h2 : q < n := by omega
          have k1 : (0 : Int) ≤ (j : Int) := by omega
          have k2 : (j : Int) < (n : Int) := by omega
          have k3 : (0 : Int) ≤ (q : Int) := by omega
          have k4 : (q : Int) < (n : Int) := by omega
          have hqj : q < j := by omega
          have haq : a ≤ q := by omega
          subst hp0
          have HQ := Lib.hid hq0
          clear hq0
          have hC := cmp_s (d p) (d q) bk wr.drew k0 hbk2
          have hneg := cmpI_neg (d p) (d q)
          generalize cmpI (d p) (d q) = z at *
          have c0 := hr.get (j := 0) h1 rfl
          have d0 := hr.get (j := 0) h2 rfl
          simp only [Nat.mul_one, Nat.add_zero] at c0 d0
          cases hbl : bl (d p) (d q)
          case' false =>
            rw [hbl] at hneg
            have hend := ins_end hL hI hj1 hj2 (.inr (by rw [← HQ.out]; exact hbl))
            clear hI hs hbl
            go_wp2_with fail
            refine wp_region_held_drew (S := fun w' => w'.cell? ⟨g, p, none⟩ = some (.string (d p)) ∧ w'.cell? ⟨g, q, none⟩ = some (.string (d q))) (by kernel_rfl) ⟨c0, d0⟩ (fun hHeld => ?_)
            refine t0 0 18 ?_
            go_frame
            refine t0 1 19 ?_
            go_frame
            refine t0 2 20 ?_
            go_frame
            refine t0 3 21 ?_
            go_frame
            refine t0 4 22 ?_
            go_frame
            refine t0 5 23 ?_
            go_frame
            refine t0 6 24 ?_
            go_frame
            refine t0 7 25 ?_
            go_frame
            refine t0 8 26 ?_
            go_frame
            refine t0 9 27 ?_
            go_frame
            refine t0 10 28 ?_
            go_frame
            refine t0 11 29 ?_
            go_frame
            refine t0 12 30 ?_
            go_frame
            refine t0 13 31 ?_
            go_frame
            refine wpAnyH_ready (rs := [14]) (by kernel_rfl) (by simp) (AllReadyH.cons (o := ⟨some 32, _, _, _, _, _⟩) rfl (fun K hK => ?_) AllReadyH.nil)
            go_simp
            (with_reducible refine (hC).mono ?_)
            rintro e w5 ⟨rfl, hb5⟩
            refine hK.out _ _ ⟨(hb5.cell (by exact hgl)).trans c0, (hb5.cell (by exact hgl)).trans d0⟩ (fun hHeld => ?_)
            clear hK K
            try go_frame
            refine t0 15 33 ?_
            go_frame
            refine t0 16 34 ?_
            go_frame
            refine wpAnyH_done (by kernel_rfl) ?_ _
            have hb6 : Below wr.heap.size wr w5 := (Below.refl _ _).drew.trans hb5
            replace hr := hr.below hb6
            replace ha := ha.below hb6
            clear hC hb5 hHeld c0 d0
            go_wp2
            go_roundw
            case rel => exact ⟨i + 1, d, by omega, .inl hlt, by go_num, hr, hp, hend, ha⟩
            case measure => simp [intOf]; omega
          case' true =>
            rw [hbl] at hneg
            have hstep := ins_step hL hI (by omega) hj2 (by rw [← HQ.out]; exact hbl)
            rw [← HQ.out] at hstep
            clear hI hs hbl
            go_wp2_with fail
            refine wp_region_held_drew (S := fun w' => w'.cell? ⟨g, p, none⟩ = some (.string (d p)) ∧ w'.cell? ⟨g, q, none⟩ = some (.string (d q))) (by kernel_rfl) ⟨c0, d0⟩ (fun hHeld => ?_)
            refine t0 0 18 ?_
            go_frame
            refine t0 1 19 ?_
            go_frame
            refine t0 2 20 ?_
            go_frame
            refine t0 3 21 ?_
            go_frame
            refine t0 4 22 ?_
            go_frame
            refine t0 5 23 ?_
            go_frame
            refine t0 6 24 ?_
            go_frame
            refine t0 7 25 ?_
            go_frame
            refine t0 8 26 ?_
            go_frame
            refine t0 9 27 ?_
            go_frame
            refine t0 10 28 ?_
            go_frame
            refine t0 11 29 ?_
            go_frame
            refine t0 12 30 ?_
            go_frame
            refine t0 13 31 ?_
            go_frame
            refine wpAnyH_ready (rs := [14]) (by kernel_rfl) (by simp) (AllReadyH.cons (o := ⟨some 32, _, _, _, _, _⟩) rfl (fun K hK => ?_) AllReadyH.nil)
            go_simp
            (with_reducible refine (hC).mono ?_)
            rintro e w5 ⟨rfl, hb5⟩
            refine hK.out _ _ ⟨(hb5.cell (by exact hgl)).trans c0, (hb5.cell (by exact hgl)).trans d0⟩ (fun hHeld => ?_)
            clear hK K
            try go_frame
            refine t0 15 33 ?_
            go_frame
            refine t0 16 34 ?_
            go_frame
            refine wpAnyH_done (by kernel_rfl) ?_ _
            have hb6 : Below wr.heap.size wr w5 := (Below.refl _ _).drew.trans hb5
            replace hr := hr.below hb6
            replace ha := ha.below hb6
            have hpm := hp.trans (Pm.swap d (i := p) (j := q) hj1 (by omega) haq (by omega))
            clear hC hb5 hHeld hb6 c0 d0
            go_upto_region 6 with fail
            have c0 := hr.get (j := 0) h1 rfl
            have d0 := hr.get (j := 0) h2 rfl
            simp only [Nat.mul_one, Nat.add_zero] at c0 d0
            refine wp_region_held_drew (S := fun _ => True) (by kernel_rfl) trivial (fun hHeld => ?_)
            refine t0 0 37 ?_
            go_frame
            refine t0 1 38 ?_
            go_frame
            refine t0 2 39 ?_
            go_frame
            refine t0 3 40 ?_
            go_frame
            refine t0 4 41 ?_
            go_frame
            refine t0 5 42 ?_
            go_frame
            refine t0 6 43 ?_
            go_frame
            refine t0 7 44 ?_
            go_frame
            refine t0 8 45 ?_
            go_frame
            refine t0 10 47 ?_
            go_frame
            refine t0 11 48 ?_
            go_frame
            refine t0 12 49 ?_
            go_frame
            refine wpAnyH_ready (rs := [9, 13]) (by kernel_rfl) (by simp) (AllReadyH.cons (o := ⟨some 46, _, _, _, _, _⟩) rfl (fun K hK => ?_) (AllReadyH.cons (o := ⟨some 50, _, _, _, _, _⟩) rfl (fun K hK => ?_) AllReadyH.nil))
            rotate_left
            go_simp
            refine hK.out _ _ trivial (fun hHeld => ?_)
            clear hK K
            try go_frame
            refine wpAnyH_ready (rs := [9]) (by kernel_rfl) (by simp) (AllReadyH.cons (o := ⟨some 46, _, _, _, _, _⟩) rfl (fun K hK => ?_) AllReadyH.nil)
            go_simp
            refine hK.out _ _ trivial (fun hHeld => ?_)
            clear hK K
            try go_frame
            rotate_left
            go_simp
            refine hK.out _ _ trivial (fun hHeld => ?_)
            clear hK K
            try go_frame
            refine wpAnyH_ready (rs := [13]) (by kernel_rfl) (by simp) (AllReadyH.cons (o := ⟨some 50, _, _, _, _, _⟩) rfl (fun K hK => ?_) AllReadyH.nil)
            go_simp
            refine hK.out _ _ trivial (fun hHeld => ?_)
            clear hK K
            try go_frame
            all_goals
              refine t0 14 51 ?_
              go_frame
              have hr1 := RowF.put ky_len hr.drew h1 (d q)
              have hr2 := RowF.swap ky_len hr.drew h1 h2
              have ha2 := ((ha.drew).setCells (keyCells (d q)) (p * 1)).setCells (keyCells (d p)) (q * 1)
              have hth := hr1.there h2
              simp only [Nat.mul_one] at hr2 ha2 hr1
              have f1 := hr.frozen p
              have f2 := hr1.frozen q
              replace f2 : ((w5.setCell ⟨g, p, none⟩ (.string (d q))).drew).frozen? ⟨g, q, none⟩ = false := f2
              have e2 : (((w5.setCell ⟨g, p, none⟩ (.string (d q))).drew).cell? ⟨g, q, none⟩).isSome = true := by have h5 := (hth 0 (by omega)).1; simp only [Nat.mul_one, Nat.add_zero] at h5; exact h5
              obtain ⟨v2, e3⟩ := Option.isSome_iff_exists.1 e2
              refine wpAnyH_ready (rs := [15]) (by kernel_rfl) (by simp) (AllReadyH.cons (o := ⟨none, _, _, _, _, _⟩) rfl (fun K hK => ?_) AllReadyH.nil)
              go_simp
              refine hK.out _ _ trivial (fun hHeld => ?_)
              clear hK K
              try go_frame
              replace hr2 : RowF keyCells 1 9 (((w5.setCell ⟨g, p, none⟩ (.string (d q))).drew).setCell ⟨g, q, none⟩ (.string (d p))) g c n (sw d p q) := hr2
              replace ha2 : At1 w (((w5.setCell ⟨g, p, none⟩ (.string (d q))).drew).setCell ⟨g, q, none⟩ (.string (d p))) g := ha2
              clear hr1 hth e2
              generalize ((w5.setCell ⟨g, p, none⟩ (.string (d q))).drew) = W1 at *
              refine t0 16 52 ?_
              go_frame
              refine wpAnyH_ready (rs := [17]) (by kernel_rfl) (by simp) (AllReadyH.cons (o := ⟨none, _, _, _, _, _⟩) rfl (fun K hK => ?_) AllReadyH.nil)
              go_simp
              refine hK.out _ _ trivial (fun hHeld => ?_)
              clear hK K
              try go_frame
              refine wpAnyH_done (by kernel_rfl) ?_ _
              clear c0 d0 f1 f2 e3
              generalize (W1.setCell ⟨g, q, none⟩ (.string (d p))) = wq at *
              try go_frame
              go_wp2
              go_roundw
              case rel => exact ⟨q, _, haq, by omega, by go_num, hr2, hpm, hstep, ha2⟩
              case measure => simp [intOf]; omega
    · have hd1 : decide ((i : Int) < (b : Int)) = false := by simp; omega
      go_wp2
      go_end0
      exact ⟨rfl, d, hr, hp, hs.sub (Nat.le_refl _) (by omega), ha⟩

set_option maxRecDepth 100000 in
set_option maxHeartbeats 2000000 in
theorem insertion_h (g c n : Nat) (f : Nat → Hh) (a b bk : Nat) (w : World) (h : RowF Hh.cells 2 59 w g c n f) (hn : n ≤ 1000000000) (hab : a ≤ b) (hb : b ≤ n) (hk : w.cell? ⟨bk, 0, none⟩ = some (.func (.func 25) #[] #[])) (hbk : bk < w.heap.size) (hne : bk ≠ g) :
    Calls Tryz.prog 115 #[.slice (some ⟨g, 0, none⟩) n c, .int .i64 (a : Int), .int .i64 (b : Int), .func (.func 53) #[] #[.pointer (some ⟨bk, 0, none⟩)]] w fun e w' => e = .returned (.tuple #[]) ∧ SortP Hh.cells 2 59 Hh.key f a b g c n w w' := by
  have hL := lin_key Hh.key
  go_enter Tryz.func115, Tryz.ntmps115
  go_wp2
  go_loopw [8] (fun u wr => InsO Hh.cells 2 59 Hh.key f a b g c n w u wr) (fun u _ => b - (intOf u).toNat)
  case atStart => exact ⟨a + 1, f, Nat.le_refl _, .inr rfl, by go_num, h, Pm.refl _ _ _, Srt.one hL f (Nat.le_refl _), At1.refl _ _⟩
  case round =>
    obtain ⟨i, d, hi1, hi2, rfl, hr, hp, hs, ha⟩ := hrel
    by_cases hlt : i < b
    · have hd1 : decide ((i : Int) < (b : Int)) = true := by simp; omega
      obtain ⟨wo, rfl⟩ : ∃ wo, wo = wr := ⟨_, rfl⟩
      go_wp2
      go_loopw [9] (fun u wr => InsI Hh.cells 2 59 Hh.key f a b i g c n w u wr) (fun u _ => (intOf u).toNat)
      case atStart => exact ⟨i, d, by omega, Nat.le_refl _, rfl, hr, hp, ins_start hL hs, ha⟩
      case round =>
        obtain ⟨j, d, hj1, hj2, rfl, hr, hp, hI, ha⟩ := hrel
        have k0 := (ha.cell (p := ⟨bk, 0, none⟩) hbk hne).trans hk
        have hbk2 := Nat.lt_of_lt_of_le hbk ha.size
        have hgl := hr.lt
        by_cases hja : j = a
        · have hd2 : decide (a < j) = false := by simp; omega
          have hd2' : ¬ a < j := by omega
          have hend := ins_end hL hI hj1 hj2 (.inl hja)
          clear hI hs
          go_wp2_with fail
          go_quiet (fail)
          replace hr := hr.below (w' := wr.drewN nq) ⟨rfl, rfl, rfl, Nat.le_refl _, fun _ _ => rfl⟩
          replace ha := ha.drewN nq
          generalize wr.drewN nq = wx at *
          go_wp2
          go_roundw
          case rel => exact ⟨i + 1, d, by omega, .inl hlt, by go_num, hr, hp, hend, ha⟩
          case measure => simp [intOf]; omega
        · have hd2' : a < j := by omega
          have hd2 : decide (a < j) = true := decide_eq_true hd2'
          obtain ⟨p, hp0⟩ : ∃ p, p = j := ⟨_, rfl⟩
          obtain ⟨q, hq0⟩ : ∃ q, q = j - 1 := ⟨_, rfl⟩
          have w1 : IntKind.i64.wrap ((j : Int) - 1) = (q : Int) := by rw [IntKind.wrap_i64]; omega
          have h1 : p < n := by omega
          have h2 : q < n := by omega
          have k1 : (0 : Int) ≤ (j : Int) := by omega
          have k2 : (j : Int) < (n : Int) := by omega
          have k3 : (0 : Int) ≤ (q : Int) := by omega
          have k4 : (q : Int) < (n : Int) := by omega
          have hqj : q < j := by omega
          have haq : a ≤ q := by omega
          subst hp0
          have HQ := Lib.hid hq0
          clear hq0
          have hC := cmp_h (d p) (d q) bk wr.drew k0 hbk2
          have hneg := cmpI_neg (d p).key (d q).key
          generalize cmpI (d p).key (d q).key = z at *
          have c0 := hr.get (j := 0) h1 rfl
          have c1 := hr.get (j := 1) h1 rfl
          have d0 := hr.get (j := 0) h2 rfl
          have d1 := hr.get (j := 1) h2 rfl
          simp only [Nat.add_zero] at c0 d0
          cases hbl : bl (d p).key (d q).key
          case' false =>
            rw [hbl] at hneg
            have hend := ins_end hL hI hj1 hj2 (.inr (by rw [← HQ.out]; exact hbl))
            clear hI hs hbl
            go_wp2_with fail
            refine wp_region_held_drew (S := fun w' => w'.cell? ⟨g, p * 2, none⟩ = some (.string (d p).key) ∧ w'.cell? ⟨g, p * 2 + 1, none⟩ = some ((d p).hd) ∧ w'.cell? ⟨g, q * 2, none⟩ = some (.string (d q).key) ∧ w'.cell? ⟨g, q * 2 + 1, none⟩ = some ((d q).hd)) (by kernel_rfl) ⟨c0, c1, d0, d1⟩ (fun hHeld => ?_)
            refine t0 0 18 ?_
            go_frame
            refine t0 1 19 ?_
            go_frame
            refine t0 2 20 ?_
            go_frame
            refine t0 3 21 ?_
            go_frame
            refine t0 4 22 ?_
            go_frame
            refine t0 5 23 ?_
            go_frame
            refine t0 6 24 ?_
            go_frame
            refine t0 7 25 ?_
            go_frame
            refine t0 8 26 ?_
            go_frame
            refine t0 9 27 ?_
            go_frame
            refine t0 10 28 ?_
            go_frame
            refine t0 11 29 ?_
            go_frame
            refine t0 12 30 ?_
            go_frame
            refine t0 13 31 ?_
            go_frame
            refine wpAnyH_ready (rs := [14]) (by kernel_rfl) (by simp) (AllReadyH.cons (o := ⟨some 32, _, _, _, _, _⟩) rfl (fun K hK => ?_) AllReadyH.nil)
            go_simp
            (with_reducible refine (hC).mono ?_)
            rintro e w5 ⟨rfl, hb5⟩
            refine hK.out _ _ ⟨(hb5.cell (by exact hgl)).trans c0, (hb5.cell (by exact hgl)).trans c1, (hb5.cell (by exact hgl)).trans d0, (hb5.cell (by exact hgl)).trans d1⟩ (fun hHeld => ?_)
            clear hK K
            try go_frame
            refine t0 15 33 ?_
            go_frame
            refine t0 16 34 ?_
            go_frame
            refine wpAnyH_done (by kernel_rfl) ?_ _
            have hb6 : Below wr.heap.size wr w5 := (Below.refl _ _).drew.trans hb5
            replace hr := hr.below hb6
            replace ha := ha.below hb6
            clear hC hb5 hHeld c0 c1 d0 d1
            go_wp2
            go_roundw
            case rel => exact ⟨i + 1, d, by omega, .inl hlt, by go_num, hr, hp, hend, ha⟩
            case measure => simp [intOf]; omega
          case' true =>
            rw [hbl] at hneg
            have hstep := ins_step hL hI (by omega) hj2 (by rw [← HQ.out]; exact hbl)
            rw [← HQ.out] at hstep
            clear hI hs hbl
            go_wp2_with fail
            refine wp_region_held_drew (S := fun w' => w'.cell? ⟨g, p * 2, none⟩ = some (.string (d p).key) ∧ w'.cell? ⟨g, p * 2 + 1, none⟩ = some ((d p).hd) ∧ w'.cell? ⟨g, q * 2, none⟩ = some (.string (d q).key) ∧ w'.cell? ⟨g, q * 2 + 1, none⟩ = some ((d q).hd)) (by kernel_rfl) ⟨c0, c1, d0, d1⟩ (fun hHeld => ?_)
            refine t0 0 18 ?_
            go_frame
            refine t0 1 19 ?_
            go_frame
            refine t0 2 20 ?_
            go_frame
            refine t0 3 21 ?_
            go_frame
            refine t0 4 22 ?_
            go_frame
            refine t0 5 23 ?_
            go_frame
            refine t0 6 24 ?_
            go_frame
            refine t0 7 25 ?_
            go_frame
            refine t0 8 26 ?_
            go_frame
            refine t0 9 27 ?_
            go_frame
            refine t0 10 28 ?_
            go_frame
            refine t0 11 29 ?_
            go_frame
            refine t0 12 30 ?_
            go_frame
            refine t0 13 31 ?_
            go_frame
            refine wpAnyH_ready (rs := [14]) (by kernel_rfl) (by simp) (AllReadyH.cons (o := ⟨some 32, _, _, _, _, _⟩) rfl (fun K hK => ?_) AllReadyH.nil)
            go_simp
            (with_reducible refine (hC).mono ?_)
            rintro e w5 ⟨rfl, hb5⟩
            refine hK.out _ _ ⟨(hb5.cell (by exact hgl)).trans c0, (hb5.cell (by exact hgl)).trans c1, (hb5.cell (by exact hgl)).trans d0, (hb5.cell (by exact hgl)).trans d1⟩ (fun hHeld => ?_)
            clear hK K
            try go_frame
            refine t0 15 33 ?_
            go_frame
            refine t0 16 34 ?_
            go_frame
            refine wpAnyH_done (by kernel_rfl) ?_ _
            have hb6 : Below wr.heap.size wr w5 := (Below.refl _ _).drew.trans hb5
            replace hr := hr.below hb6
            replace ha := ha.below hb6
            have hpm := hp.trans (Pm.swap d (i := p) (j := q) hj1 (by omega) haq (by omega))
            clear hC hb5 hHeld hb6 c0 c1 d0 d1
            go_upto_region 6 with fail
            have c0 := hr.get (j := 0) h1 rfl
            have c1 := hr.get (j := 1) h1 rfl
            have d0 := hr.get (j := 0) h2 rfl
            have d1 := hr.get (j := 1) h2 rfl
            simp only [Nat.add_zero] at c0 d0
            refine wp_region_held_drew (S := fun _ => True) (by kernel_rfl) trivial (fun hHeld => ?_)
            refine t0 0 37 ?_
            go_frame
            refine t0 1 38 ?_
            go_frame
            refine t0 2 39 ?_
            go_frame
            refine t0 3 40 ?_
            go_frame
            refine t0 4 41 ?_
            go_frame
            refine t0 5 42 ?_
            go_frame
            refine t0 6 43 ?_
            go_frame
            refine t0 7 44 ?_
            go_frame
            refine t0 8 45 ?_
            go_frame
            refine t0 10 47 ?_
            go_frame
            refine t0 11 48 ?_
            go_frame
            refine t0 12 49 ?_
            go_frame
            refine wpAnyH_ready (rs := [9, 13]) (by kernel_rfl) (by simp) (AllReadyH.cons (o := ⟨some 46, _, _, _, _, _⟩) rfl (fun K hK => ?_) (AllReadyH.cons (o := ⟨some 50, _, _, _, _, _⟩) rfl (fun K hK => ?_) AllReadyH.nil))
            rotate_left
            go_simp
            refine hK.out _ _ trivial (fun hHeld => ?_)
            clear hK K
            try go_frame
            refine wpAnyH_ready (rs := [9]) (by kernel_rfl) (by simp) (AllReadyH.cons (o := ⟨some 46, _, _, _, _, _⟩) rfl (fun K hK => ?_) AllReadyH.nil)
            go_simp
            refine hK.out _ _ trivial (fun hHeld => ?_)
            clear hK K
            try go_frame
            rotate_left
            go_simp
            refine hK.out _ _ trivial (fun hHeld => ?_)
            clear hK K
            try go_frame
            refine wpAnyH_ready (rs := [13]) (by kernel_rfl) (by simp) (AllReadyH.cons (o := ⟨some 50, _, _, _, _, _⟩) rfl (fun K hK => ?_) AllReadyH.nil)
            go_simp
            refine hK.out _ _ trivial (fun hHeld => ?_)
            clear hK K
            try go_frame
            all_goals
              refine t0 14 51 ?_
              go_frame
              have hr1 := RowF.put hh_len hr.drew h1 (d q)
              have hr2 := RowF.swap hh_len hr.drew h1 h2
              have ha2 := ((ha.drew).setCells (Hh.cells (d q)) (p * 2)).setCells (Hh.cells (d p)) (q * 2)
              have hth := hr1.there h2
              refine wpAnyH_store_mid (i := 15) (by kernel_rfl) rfl rfl _ _ _ rfl g (p * 2) (Hh.cells (d q)).toArray (by kernel_rfl) (by kernel_rfl) (hr.there h1) (by kernel_rfl) (by kernel_rfl) trivial ?_
              refine t0 16 52 ?_
              go_frame
              refine wpAnyH_store_mid (i := 17) (by kernel_rfl) rfl rfl _ _ _ rfl g (q * 2) (Hh.cells (d p)).toArray (by kernel_rfl) (by kernel_rfl) hth (by kernel_rfl) (by kernel_rfl) trivial ?_
              refine wpAnyH_done (by kernel_rfl) ?_ _
              clear c0 c1 d0 d1 hr1 hth
              replace hr2 : RowF Hh.cells 2 59 ((w5.drew.setCells g (p * 2) (Hh.cells (d q)).toArray.toList).setCells g (q * 2) (Hh.cells (d p)).toArray.toList) g c n (sw d p q) := hr2
              replace ha2 : At1 w ((w5.drew.setCells g (p * 2) (Hh.cells (d q)).toArray.toList).setCells g (q * 2) (Hh.cells (d p)).toArray.toList) g := ha2
              generalize ((w5.drew.setCells g (p * 2) (Hh.cells (d q)).toArray.toList).setCells g (q * 2) (Hh.cells (d p)).toArray.toList) = wq at *
              go_frame
              go_wp2
              go_roundw
              case rel => exact ⟨q, _, haq, by omega, by go_num, hr2, hpm, hstep, ha2⟩
              case measure => simp [intOf]; omega
    · have hd1 : decide ((i : Int) < (b : Int)) = false := by simp; omega
      go_wp2
      go_end0
      exact ⟨rfl, d, hr, hp, hs.sub (Nat.le_refl _) (by omega), ha⟩

end Go.Proofs.YtipacjbegfingaaGreat
