/- The stable sort, at writes, texts, histories. -/
import Derived.Test.YtipacjbegfingaaGreatYacd
import Derived.Test.YtipacjbegfingaaGreatYace
import Derived.Test.YtipacjbegfingaaGreatYacf
namespace Go.Proofs.YtipacjbegfingaaGreat
set_option linter.unusedVariables false
open Go.RowKit
attribute [local go_sem] run_store_float

def St1 {α : Type} (cells : α → List Value) (E : Nat) (T : TypeId) (key : α → ByteArray) (f : Nat → α) (g c n : Nat) (w : World) (u v : Value) (wr : World) : Prop :=
  ∃ (k A B : Nat) (d : Nat → α), A = k * 20 ∧ B = A + 20 ∧ A ≤ n ∧ u = .int .i64 (A : Int) ∧ v = .int .i64 (B : Int) ∧ RowF cells E T wr g c n d ∧ Pm 0 n f d ∧ (∀ j, j < k → Srt (fun x y => bl (key x) (key y)) d (j * 20) (j * 20 + 20)) ∧ At1 w wr g
def St2 {α : Type} (cells : α → List Value) (E : Nat) (T : TypeId) (key : α → ByteArray) (f : Nat → α) (g c n : Nat) (w : World) (u : Value) (wr : World) : Prop :=
  ∃ (bs : Nat) (d : Nat → α), 0 < bs ∧ bs ≤ 4000000000 ∧ u = .int .i64 (bs : Int) ∧ RowF cells E T wr g c n d ∧ Pm 0 n f d ∧ Blks (fun x y => bl (key x) (key y)) d bs n ∧ At1 w wr g
def St3 {α : Type} (cells : α → List Value) (E : Nat) (T : TypeId) (key : α → ByteArray) (f : Nat → α) (bs g c n : Nat) (w : World) (u v : Value) (wr : World) : Prop :=
  ∃ (k A B : Nat) (d : Nat → α), A = k * (2 * bs) ∧ B = A + 2 * bs ∧ A ≤ n ∧ u = .int .i64 (A : Int) ∧ v = .int .i64 (B : Int) ∧ RowF cells E T wr g c n d ∧ Pm 0 n f d ∧ Phase (fun x y => bl (key x) (key y)) d bs (2 * bs) k n ∧ At1 w wr g

set_option maxRecDepth 100000 in
set_option maxHeartbeats 4000000 in
theorem stable_w (g c n : Nat) (f : Nat → Wt) (bk : Nat) (w : World) (h : RowF Wt.cells 4 86 w g c n f) (hn : n ≤ 1000000000) (hk : w.cell? ⟨bk, 0, none⟩ = some (.func (.func 57) #[] #[])) (hbk : bk < w.heap.size) (hne : bk ≠ g) :
    Calls Tryz.prog 120 #[.slice (some ⟨g, 0, none⟩) n c, .int .i64 (n : Int), .func (.func 90) #[] #[.pointer (some ⟨bk, 0, none⟩)]] w fun e w' => e = .returned (.tuple #[]) ∧ SortP Wt.cells 4 86 Wt.key f 0 n g c n w w' := by
  have hL := lin_key Wt.key
  go_enter Tryz.func120, Tryz.ntmps120
  go_wp2
  go_loopw [7, 8] (fun u v wr => St1 Wt.cells 4 86 Wt.key f g c n w u v wr) (fun u _ _ => n - (intOf u).toNat)
  case atStart => exact ⟨0, 0, 20, f, rfl, rfl, Nat.zero_le _, rfl, rfl, h, Pm.refl _ _ _, fun _ hj => absurd hj (Nat.not_lt_zero _), At1.refl _ _⟩
  case round =>
    obtain ⟨k, A, B, d, hA, hB, hAn, rfl, rfl, hr, hp, hs, ha⟩ := hrel
    have hk2 := (ha.cell (p := ⟨bk, 0, none⟩) hbk hne).trans hk
    have hbk2 := Nat.lt_of_lt_of_le hbk ha.size
    by_cases hlt : B ≤ n
    · have hd1 : decide ((B : Int) ≤ (n : Int)) = true := by simp; omega
      have hI := insertion_w g c n d A B bk wr hr hn (by omega) hlt hk2 hbk2 hne
      obtain ⟨B2, hB2⟩ : ∃ z, z = B + 20 := ⟨_, rfl⟩
      have w1 : IntKind.i64.wrap ((B : Int) + 20) = (B2 : Int) := by rw [IntKind.wrap_i64]; omega
      have hAB : A < B := by omega
      have H := Lib.hid (⟨hA, hB, hB2⟩ : A = k * 20 ∧ B = A + 20 ∧ B2 = B + 20)
      clear hA hB hB2
      go_wp2_with ((with_reducible refine hI.mono ?_); rintro e w5 ⟨rfl, d2, hr2, hp2, hs2, ha2⟩)
      go_roundw
      case rel =>
        obtain ⟨hA, hB, hB2⟩ := H.out
        have e1 : k * 20 + 20 = B := by omega
        exact ⟨k + 1, B, B2, d2, by omega, hB2, hlt, rfl, by go_num, hr2, hp.trans (hp2.wide (Nat.zero_le _) hlt), first_step hs (by rw [e1, ← hA]; exact hs2) (by rw [e1, ← hA]; exact hp2), ha.trans ha2⟩
      case measure => simp [intOf]; omega
    · have hd1 : decide ((B : Int) ≤ (n : Int)) = false := by simp; omega
      have hI := insertion_w g c n d A n bk wr hr hn hAn (Nat.le_refl _) hk2 hbk2 hne
      have H := Lib.hid (⟨hA, hB⟩ : A = k * 20 ∧ B = A + 20)
      clear hA hB
      go_wp2_with ((with_reducible refine hI.mono ?_); rintro e w5 ⟨rfl, d2, hr2, hp2, hs2, ha2⟩)
      have hB5 : Blks (fun x y => bl (Wt.key x) (Wt.key y)) d2 20 n := by
        obtain ⟨hA, hB⟩ := H.out
        exact first_end hs (by omega) (by rw [← hA]; exact hs2) (by rw [← hA]; exact hp2)
      replace hp := hp.trans (hp2.wide (Nat.zero_le _) (Nat.le_refl _))
      replace ha := ha.trans ha2
      clear hs hp2 hs2 ha2 hr hI hk2 hbk2
      go_loopw [6] (fun u wr => St2 Wt.cells 4 86 Wt.key f g c n w u wr) (fun u _ => n - (intOf u).toNat)
      case atStart => exact ⟨20, d2, by omega, by omega, rfl, hr2, hp, hB5, ha⟩
      case round =>
        obtain ⟨bs, d, hbs, hbs2, rfl, hr, hp, hB, ha⟩ := hrel
        by_cases hlt2 : bs < n
        · have hd2 : decide (bs < n) = true := decide_eq_true hlt2
          obtain ⟨cs, hcs⟩ : ∃ z, z = 2 * bs := ⟨_, rfl⟩
          have w1 : IntKind.i64.wrap (2 * (bs : Int)) = (cs : Int) := by rw [IntKind.wrap_i64]; omega
          have w2 : IntKind.i64.wrap ((bs : Int) * 2) = (cs : Int) := by rw [IntKind.wrap_i64]; omega
          have hc1 : bs < cs := by omega
          have hc2 : cs ≤ 2000000000 := by omega
          have HC := Lib.hid hcs
          clear hcs
          obtain ⟨wo, rfl⟩ : ∃ z, z = wr := ⟨_, rfl⟩
          go_wp2
          go_loopw [7, 8] (fun u v wr => St3 Wt.cells 4 86 Wt.key f bs g c n w u v wr) (fun u _ _ => n - (intOf u).toNat)
          case atStart => exact ⟨0, 0, cs, d, by rw [Nat.zero_mul], by rw [HC.out, Nat.zero_add], Nat.zero_le _, rfl, rfl, hr, hp, phase_start _ hB, ha⟩
          case round =>
            obtain ⟨k, A, B, d, hA, hB', hAn, rfl, rfl, hr, hp, hP, ha⟩ := hrel
            have hk2 := (ha.cell (p := ⟨bk, 0, none⟩) hbk hne).trans hk
            have hbk2 := Nat.lt_of_lt_of_le hbk ha.size
            rw [← HC.out] at hB'
            have hbl := phase_blocks hP
            rw [← hA, ← HC.out] at hbl
            obtain ⟨M, hM⟩ : ∃ z, z = A + bs := ⟨_, rfl⟩
            have w3 : IntKind.i64.wrap ((A : Int) + (bs : Int)) = (M : Int) := by rw [IntKind.wrap_i64]; omega
            by_cases hlt3 : B ≤ n
            · have hd3 : decide ((B : Int) ≤ (n : Int)) = true := by simp; omega
              have hS := symMerge_w g c n bk (B - A) A M B (Nat.le_refl _) d wr hr hn (by omega) (by omega) hlt3 hk2 hbk2 hne (by have := hbl.1; rw [Nat.min_eq_left (by omega)] at this; rw [hM]; exact this) (by have := hbl.2; rw [Nat.min_eq_left (by omega)] at this; rw [hM, hB']; exact this)
              obtain ⟨B2, hB2⟩ : ∃ z, z = B + cs := ⟨_, rfl⟩
              have w4 : IntKind.i64.wrap ((B : Int) + (cs : Int)) = (B2 : Int) := by rw [IntKind.wrap_i64]; omega
              have hAB : A < B := by omega
              have H := Lib.hid (⟨hA, hB', hB2⟩ : A = k * (2 * bs) ∧ B = A + cs ∧ B2 = B + cs)
              clear hA hB' hB2 hM hbl
              go_wp2_with ((with_reducible refine hS.mono ?_); rintro e w5 ⟨rfl, d3, hr3, hp3, hs3, ha3⟩)
              go_roundw
              case rel =>
                obtain ⟨hA, hB', hB2⟩ := H.out
                rw [HC.out] at hB' hB2
                have e1 : k * (2 * bs) + 2 * bs = B := by omega
                refine ⟨k + 1, B, B2, d3, by rw [Nat.add_mul, Nat.one_mul]; omega, hB2, hlt3, rfl, by go_num, hr3, hp.trans (hp3.wide (Nat.zero_le _) hlt3), phase_step hP (by omega) (by rw [e1, ← hA]; exact hs3) (by rw [e1, ← hA]; exact hp3), ha.trans ha3⟩
              case measure => simp [intOf]; omega
            · have hd3 : decide ((B : Int) ≤ (n : Int)) = false := by simp; omega
              by_cases hlt4 : M < n
              · have hd4 : decide ((M : Int) < (n : Int)) = true := by simp; omega
                have hS := symMerge_w g c n bk (n - A) A M n (Nat.le_refl _) d wr hr hn (by omega) hlt4 (Nat.le_refl _) hk2 hbk2 hne (by have := hbl.1; rw [Nat.min_eq_left (by omega)] at this; rw [hM]; exact this) (by have := hbl.2; rw [Nat.min_eq_right (by omega)] at this; rw [hM]; exact this)
                have H := Lib.hid (⟨hA, hB'⟩ : A = k * (2 * bs) ∧ B = A + cs)
                clear hA hB' hM hbl
                go_wp2_with ((with_reducible refine hS.mono ?_); rintro e w5 ⟨rfl, d3, hr3, hp3, hs3, ha3⟩)
                go_roundw
                case rel =>
                  obtain ⟨hA, hB'⟩ := H.out
                  rw [HC.out] at hB'
                  exact ⟨cs, d3, by omega, by omega, by go_num, hr3, hp.trans (hp3.wide (Nat.zero_le _) (Nat.le_refl _)), by rw [HC.out]; exact phase_end hP (by omega) (by rw [← hA]; exact hs3) (by rw [← hA]; exact hp3), ha.trans ha3⟩
                case measure => simp [intOf]; omega
              · have hd4 : decide ((M : Int) < (n : Int)) = false := by simp; omega
                have hs3 : Srt (fun x y => bl (Wt.key x) (Wt.key y)) d A n := by have := hbl.1; rw [Nat.min_eq_right (by omega)] at this; exact this
                have H := Lib.hid (⟨hA, hB'⟩ : A = k * (2 * bs) ∧ B = A + cs)
                clear hA hB' hM hbl
                go_wp2_with fail
                go_roundw
                case rel =>
                  obtain ⟨hA, hB'⟩ := H.out
                  rw [HC.out] at hB'
                  exact ⟨cs, d, by omega, by omega, by go_num, hr, hp, by rw [HC.out]; exact phase_end hP (by omega) (by rw [← hA]; exact hs3) (Pm.refl _ _ _), ha⟩
                case measure => simp [intOf]; omega
        · have hd2 : decide (bs < n) = false := decide_eq_false hlt2
          go_wp2_with fail
          go_end0
          exact ⟨rfl, d, hr, hp, blks_all hB (by omega), ha⟩
set_option maxHeartbeats 1000000 in
theorem sortStable_w (g c n : Nat) (f : Nat → Wt) (bk : Nat) (w : World) (h : RowF Wt.cells 4 86 w g c n f) (hn : n ≤ 1000000000) (hk : w.cell? ⟨bk, 0, none⟩ = some (.func (.func 57) #[] #[])) (hbk : bk < w.heap.size) (hne : bk ≠ g) :
    Calls Tryz.prog 89 #[.slice (some ⟨g, 0, none⟩) n c, .func (.func 90) #[] #[.pointer (some ⟨bk, 0, none⟩)]] w fun e w' => e = .returned (.tuple #[]) ∧ SortP Wt.cells 4 86 Wt.key f 0 n g c n w w' := by
  have hS := stable_w g c n f bk w h hn hk hbk hne
  go_enter Tryz.func89, Tryz.ntmps89
  go_wp2_with ((with_reducible refine hS.mono ?_); rintro e w5 ⟨rfl, h5⟩)
  go_end0
  exact ⟨rfl, h5⟩

set_option maxRecDepth 100000 in
set_option maxHeartbeats 4000000 in
theorem stable_s (g c n : Nat) (f : Nat → ByteArray) (bk : Nat) (w : World) (h : RowF keyCells 1 9 w g c n f) (hn : n ≤ 1000000000) (hk : w.cell? ⟨bk, 0, none⟩ = some (.func (.func 55) #[] #[])) (hbk : bk < w.heap.size) (hne : bk ≠ g) :
    Calls Tryz.prog 118 #[.slice (some ⟨g, 0, none⟩) n c, .int .i64 (n : Int), .func (.func 87) #[] #[.pointer (some ⟨bk, 0, none⟩)]] w fun e w' => e = .returned (.tuple #[]) ∧ SortP keyCells 1 9 id f 0 n g c n w w' := by
  have hL := lin_key id
  go_enter Tryz.func118, Tryz.ntmps118
  go_wp2
  go_loopw [7, 8] (fun u v wr => St1 keyCells 1 9 id f g c n w u v wr) (fun u _ _ => n - (intOf u).toNat)
  case atStart => exact ⟨0, 0, 20, f, rfl, rfl, Nat.zero_le _, rfl, rfl, h, Pm.refl _ _ _, fun _ hj => absurd hj (Nat.not_lt_zero _), At1.refl _ _⟩
  case round =>
    obtain ⟨k, A, B, d, hA, hB, hAn, rfl, rfl, hr, hp, hs, ha⟩ := hrel
    have hk2 := (ha.cell (p := ⟨bk, 0, none⟩) hbk hne).trans hk
    have hbk2 := Nat.lt_of_lt_of_le hbk ha.size
    by_cases hlt : B ≤ n
    · have hd1 : decide ((B : Int) ≤ (n : Int)) = true := by simp; omega
      have hI := insertion_s g c n d A B bk wr hr hn (by omega) hlt hk2 hbk2 hne
      obtain ⟨B2, hB2⟩ : ∃ z, z = B + 20 := ⟨_, rfl⟩
      have w1 : IntKind.i64.wrap ((B : Int) + 20) = (B2 : Int) := by rw [IntKind.wrap_i64]; omega
      have hAB : A < B := by omega
      have H := Lib.hid (⟨hA, hB, hB2⟩ : A = k * 20 ∧ B = A + 20 ∧ B2 = B + 20)
      clear hA hB hB2
      go_wp2_with ((with_reducible refine hI.mono ?_); rintro e w5 ⟨rfl, d2, hr2, hp2, hs2, ha2⟩)
      go_roundw
      case rel =>
        obtain ⟨hA, hB, hB2⟩ := H.out
        have e1 : k * 20 + 20 = B := by omega
        exact ⟨k + 1, B, B2, d2, by omega, hB2, hlt, rfl, by go_num, hr2, hp.trans (hp2.wide (Nat.zero_le _) hlt), first_step hs (by rw [e1, ← hA]; exact hs2) (by rw [e1, ← hA]; exact hp2), ha.trans ha2⟩
      case measure => simp [intOf]; omega
    · have hd1 : decide ((B : Int) ≤ (n : Int)) = false := by simp; omega
      have hI := insertion_s g c n d A n bk wr hr hn hAn (Nat.le_refl _) hk2 hbk2 hne
      have H := Lib.hid (⟨hA, hB⟩ : A = k * 20 ∧ B = A + 20)
      clear hA hB
      go_wp2_with ((with_reducible refine hI.mono ?_); rintro e w5 ⟨rfl, d2, hr2, hp2, hs2, ha2⟩)
      have hB5 : Blks (fun x y => bl (id x) (id y)) d2 20 n := by
        obtain ⟨hA, hB⟩ := H.out
        exact first_end hs (by omega) (by rw [← hA]; exact hs2) (by rw [← hA]; exact hp2)
      replace hp := hp.trans (hp2.wide (Nat.zero_le _) (Nat.le_refl _))
      replace ha := ha.trans ha2
      clear hs hp2 hs2 ha2 hr hI hk2 hbk2
      go_loopw [6] (fun u wr => St2 keyCells 1 9 id f g c n w u wr) (fun u _ => n - (intOf u).toNat)
      case atStart => exact ⟨20, d2, by omega, by omega, rfl, hr2, hp, hB5, ha⟩
      case round =>
        obtain ⟨bs, d, hbs, hbs2, rfl, hr, hp, hB, ha⟩ := hrel
        by_cases hlt2 : bs < n
        · have hd2 : decide (bs < n) = true := decide_eq_true hlt2
          obtain ⟨cs, hcs⟩ : ∃ z, z = 2 * bs := ⟨_, rfl⟩
          have w1 : IntKind.i64.wrap (2 * (bs : Int)) = (cs : Int) := by rw [IntKind.wrap_i64]; omega
          have w2 : IntKind.i64.wrap ((bs : Int) * 2) = (cs : Int) := by rw [IntKind.wrap_i64]; omega
          have hc1 : bs < cs := by omega
          have hc2 : cs ≤ 2000000000 := by omega
          have HC := Lib.hid hcs
          clear hcs
          obtain ⟨wo, rfl⟩ : ∃ z, z = wr := ⟨_, rfl⟩
          go_wp2
          go_loopw [7, 8] (fun u v wr => St3 keyCells 1 9 id f bs g c n w u v wr) (fun u _ _ => n - (intOf u).toNat)
          case atStart => exact ⟨0, 0, cs, d, by rw [Nat.zero_mul], by rw [HC.out, Nat.zero_add], Nat.zero_le _, rfl, rfl, hr, hp, phase_start _ hB, ha⟩
          case round =>
            obtain ⟨k, A, B, d, hA, hB', hAn, rfl, rfl, hr, hp, hP, ha⟩ := hrel
            have hk2 := (ha.cell (p := ⟨bk, 0, none⟩) hbk hne).trans hk
            have hbk2 := Nat.lt_of_lt_of_le hbk ha.size
            rw [← HC.out] at hB'
            have hbl := phase_blocks hP
            rw [← hA, ← HC.out] at hbl
            obtain ⟨M, hM⟩ : ∃ z, z = A + bs := ⟨_, rfl⟩
            have w3 : IntKind.i64.wrap ((A : Int) + (bs : Int)) = (M : Int) := by rw [IntKind.wrap_i64]; omega
            by_cases hlt3 : B ≤ n
            · have hd3 : decide ((B : Int) ≤ (n : Int)) = true := by simp; omega
              have hS := symMerge_s g c n bk (B - A) A M B (Nat.le_refl _) d wr hr hn (by omega) (by omega) hlt3 hk2 hbk2 hne (by have := hbl.1; rw [Nat.min_eq_left (by omega)] at this; rw [hM]; exact this) (by have := hbl.2; rw [Nat.min_eq_left (by omega)] at this; rw [hM, hB']; exact this)
              obtain ⟨B2, hB2⟩ : ∃ z, z = B + cs := ⟨_, rfl⟩
              have w4 : IntKind.i64.wrap ((B : Int) + (cs : Int)) = (B2 : Int) := by rw [IntKind.wrap_i64]; omega
              have hAB : A < B := by omega
              have H := Lib.hid (⟨hA, hB', hB2⟩ : A = k * (2 * bs) ∧ B = A + cs ∧ B2 = B + cs)
              clear hA hB' hB2 hM hbl
              go_wp2_with ((with_reducible refine hS.mono ?_); rintro e w5 ⟨rfl, d3, hr3, hp3, hs3, ha3⟩)
              go_roundw
              case rel =>
                obtain ⟨hA, hB', hB2⟩ := H.out
                rw [HC.out] at hB' hB2
                have e1 : k * (2 * bs) + 2 * bs = B := by omega
                refine ⟨k + 1, B, B2, d3, by rw [Nat.add_mul, Nat.one_mul]; omega, hB2, hlt3, rfl, by go_num, hr3, hp.trans (hp3.wide (Nat.zero_le _) hlt3), phase_step hP (by omega) (by rw [e1, ← hA]; exact hs3) (by rw [e1, ← hA]; exact hp3), ha.trans ha3⟩
              case measure => simp [intOf]; omega
            · have hd3 : decide ((B : Int) ≤ (n : Int)) = false := by simp; omega
              by_cases hlt4 : M < n
              · have hd4 : decide ((M : Int) < (n : Int)) = true := by simp; omega
                have hS := symMerge_s g c n bk (n - A) A M n (Nat.le_refl _) d wr hr hn (by omega) hlt4 (Nat.le_refl _) hk2 hbk2 hne (by have := hbl.1; rw [Nat.min_eq_left (by omega)] at this; rw [hM]; exact this) (by have := hbl.2; rw [Nat.min_eq_right (by omega)] at this; rw [hM]; exact this)
                have H := Lib.hid (⟨hA, hB'⟩ : A = k * (2 * bs) ∧ B = A + cs)
                clear hA hB' hM hbl
                go_wp2_with ((with_reducible refine hS.mono ?_); rintro e w5 ⟨rfl, d3, hr3, hp3, hs3, ha3⟩)
                go_roundw
                case rel =>
                  obtain ⟨hA, hB'⟩ := H.out
                  rw [HC.out] at hB'
                  exact ⟨cs, d3, by omega, by omega, by go_num, hr3, hp.trans (hp3.wide (Nat.zero_le _) (Nat.le_refl _)), by rw [HC.out]; exact phase_end hP (by omega) (by rw [← hA]; exact hs3) (by rw [← hA]; exact hp3), ha.trans ha3⟩
                case measure => simp [intOf]; omega
              · have hd4 : decide ((M : Int) < (n : Int)) = false := by simp; omega
                have hs3 : Srt (fun x y => bl (id x) (id y)) d A n := by have := hbl.1; rw [Nat.min_eq_right (by omega)] at this; exact this
                have H := Lib.hid (⟨hA, hB'⟩ : A = k * (2 * bs) ∧ B = A + cs)
                clear hA hB' hM hbl
                go_wp2_with fail
                go_roundw
                case rel =>
                  obtain ⟨hA, hB'⟩ := H.out
                  rw [HC.out] at hB'
                  exact ⟨cs, d, by omega, by omega, by go_num, hr, hp, by rw [HC.out]; exact phase_end hP (by omega) (by rw [← hA]; exact hs3) (Pm.refl _ _ _), ha⟩
                case measure => simp [intOf]; omega
        · have hd2 : decide (bs < n) = false := decide_eq_false hlt2
          go_wp2_with fail
          go_end0
          exact ⟨rfl, d, hr, hp, blks_all hB (by omega), ha⟩
set_option maxHeartbeats 1000000 in
theorem sortStable_s (g c n : Nat) (f : Nat → ByteArray) (bk : Nat) (w : World) (h : RowF keyCells 1 9 w g c n f) (hn : n ≤ 1000000000) (hk : w.cell? ⟨bk, 0, none⟩ = some (.func (.func 55) #[] #[])) (hbk : bk < w.heap.size) (hne : bk ≠ g) :
    Calls Tryz.prog 86 #[.slice (some ⟨g, 0, none⟩) n c, .func (.func 87) #[] #[.pointer (some ⟨bk, 0, none⟩)]] w fun e w' => e = .returned (.tuple #[]) ∧ SortP keyCells 1 9 id f 0 n g c n w w' := by
  have hS := stable_s g c n f bk w h hn hk hbk hne
  go_enter Tryz.func86, Tryz.ntmps86
  go_wp2_with ((with_reducible refine hS.mono ?_); rintro e w5 ⟨rfl, h5⟩)
  go_end0
  exact ⟨rfl, h5⟩

set_option maxRecDepth 100000 in
set_option maxHeartbeats 4000000 in
theorem stable_h (g c n : Nat) (f : Nat → Hh) (bk : Nat) (w : World) (h : RowF Hh.cells 2 59 w g c n f) (hn : n ≤ 1000000000) (hk : w.cell? ⟨bk, 0, none⟩ = some (.func (.func 25) #[] #[])) (hbk : bk < w.heap.size) (hne : bk ≠ g) :
    Calls Tryz.prog 84 #[.slice (some ⟨g, 0, none⟩) n c, .int .i64 (n : Int), .func (.func 53) #[] #[.pointer (some ⟨bk, 0, none⟩)]] w fun e w' => e = .returned (.tuple #[]) ∧ SortP Hh.cells 2 59 Hh.key f 0 n g c n w w' := by
  have hL := lin_key Hh.key
  go_enter Tryz.func84, Tryz.ntmps84
  go_wp2
  go_loopw [7, 8] (fun u v wr => St1 Hh.cells 2 59 Hh.key f g c n w u v wr) (fun u _ _ => n - (intOf u).toNat)
  case atStart => exact ⟨0, 0, 20, f, rfl, rfl, Nat.zero_le _, rfl, rfl, h, Pm.refl _ _ _, fun _ hj => absurd hj (Nat.not_lt_zero _), At1.refl _ _⟩
  case round =>
    obtain ⟨k, A, B, d, hA, hB, hAn, rfl, rfl, hr, hp, hs, ha⟩ := hrel
    have hk2 := (ha.cell (p := ⟨bk, 0, none⟩) hbk hne).trans hk
    have hbk2 := Nat.lt_of_lt_of_le hbk ha.size
    by_cases hlt : B ≤ n
    · have hd1 : decide ((B : Int) ≤ (n : Int)) = true := by simp; omega
      have hI := insertion_h g c n d A B bk wr hr hn (by omega) hlt hk2 hbk2 hne
      obtain ⟨B2, hB2⟩ : ∃ z, z = B + 20 := ⟨_, rfl⟩
      have w1 : IntKind.i64.wrap ((B : Int) + 20) = (B2 : Int) := by rw [IntKind.wrap_i64]; omega
      have hAB : A < B := by omega
      have H := Lib.hid (⟨hA, hB, hB2⟩ : A = k * 20 ∧ B = A + 20 ∧ B2 = B + 20)
      clear hA hB hB2
      go_wp2_with ((with_reducible refine hI.mono ?_); rintro e w5 ⟨rfl, d2, hr2, hp2, hs2, ha2⟩)
      go_roundw
      case rel =>
        obtain ⟨hA, hB, hB2⟩ := H.out
        have e1 : k * 20 + 20 = B := by omega
        exact ⟨k + 1, B, B2, d2, by omega, hB2, hlt, rfl, by go_num, hr2, hp.trans (hp2.wide (Nat.zero_le _) hlt), first_step hs (by rw [e1, ← hA]; exact hs2) (by rw [e1, ← hA]; exact hp2), ha.trans ha2⟩
      case measure => simp [intOf]; omega
    · have hd1 : decide ((B : Int) ≤ (n : Int)) = false := by simp; omega
      have hI := insertion_h g c n d A n bk wr hr hn hAn (Nat.le_refl _) hk2 hbk2 hne
      have H := Lib.hid (⟨hA, hB⟩ : A = k * 20 ∧ B = A + 20)
      clear hA hB
      go_wp2_with ((with_reducible refine hI.mono ?_); rintro e w5 ⟨rfl, d2, hr2, hp2, hs2, ha2⟩)
      have hB5 : Blks (fun x y => bl (Hh.key x) (Hh.key y)) d2 20 n := by
        obtain ⟨hA, hB⟩ := H.out
        exact first_end hs (by omega) (by rw [← hA]; exact hs2) (by rw [← hA]; exact hp2)
      replace hp := hp.trans (hp2.wide (Nat.zero_le _) (Nat.le_refl _))
      replace ha := ha.trans ha2
      clear hs hp2 hs2 ha2 hr hI hk2 hbk2
      go_loopw [6] (fun u wr => St2 Hh.cells 2 59 Hh.key f g c n w u wr) (fun u _ => n - (intOf u).toNat)
      case atStart => exact ⟨20, d2, by omega, by omega, rfl, hr2, hp, hB5, ha⟩
      case round =>
        obtain ⟨bs, d, hbs, hbs2, rfl, hr, hp, hB, ha⟩ := hrel
        by_cases hlt2 : bs < n
        · have hd2 : decide (bs < n) = true := decide_eq_true hlt2
          obtain ⟨cs, hcs⟩ : ∃ z, z = 2 * bs := ⟨_, rfl⟩
          have w1 : IntKind.i64.wrap (2 * (bs : Int)) = (cs : Int) := by rw [IntKind.wrap_i64]; omega
          have w2 : IntKind.i64.wrap ((bs : Int) * 2) = (cs : Int) := by rw [IntKind.wrap_i64]; omega
          have hc1 : bs < cs := by omega
          have hc2 : cs ≤ 2000000000 := by omega
          have HC := Lib.hid hcs
          clear hcs
          obtain ⟨wo, rfl⟩ : ∃ z, z = wr := ⟨_, rfl⟩
          go_wp2
          go_loopw [7, 8] (fun u v wr => St3 Hh.cells 2 59 Hh.key f bs g c n w u v wr) (fun u _ _ => n - (intOf u).toNat)
          case atStart => exact ⟨0, 0, cs, d, by rw [Nat.zero_mul], by rw [HC.out, Nat.zero_add], Nat.zero_le _, rfl, rfl, hr, hp, phase_start _ hB, ha⟩
          case round =>
            obtain ⟨k, A, B, d, hA, hB', hAn, rfl, rfl, hr, hp, hP, ha⟩ := hrel
            have hk2 := (ha.cell (p := ⟨bk, 0, none⟩) hbk hne).trans hk
            have hbk2 := Nat.lt_of_lt_of_le hbk ha.size
            rw [← HC.out] at hB'
            have hbl := phase_blocks hP
            rw [← hA, ← HC.out] at hbl
            obtain ⟨M, hM⟩ : ∃ z, z = A + bs := ⟨_, rfl⟩
            have w3 : IntKind.i64.wrap ((A : Int) + (bs : Int)) = (M : Int) := by rw [IntKind.wrap_i64]; omega
            by_cases hlt3 : B ≤ n
            · have hd3 : decide ((B : Int) ≤ (n : Int)) = true := by simp; omega
              have hS := symMerge_h g c n bk (B - A) A M B (Nat.le_refl _) d wr hr hn (by omega) (by omega) hlt3 hk2 hbk2 hne (by have := hbl.1; rw [Nat.min_eq_left (by omega)] at this; rw [hM]; exact this) (by have := hbl.2; rw [Nat.min_eq_left (by omega)] at this; rw [hM, hB']; exact this)
              obtain ⟨B2, hB2⟩ : ∃ z, z = B + cs := ⟨_, rfl⟩
              have w4 : IntKind.i64.wrap ((B : Int) + (cs : Int)) = (B2 : Int) := by rw [IntKind.wrap_i64]; omega
              have hAB : A < B := by omega
              have H := Lib.hid (⟨hA, hB', hB2⟩ : A = k * (2 * bs) ∧ B = A + cs ∧ B2 = B + cs)
              clear hA hB' hB2 hM hbl
              go_wp2_with ((with_reducible refine hS.mono ?_); rintro e w5 ⟨rfl, d3, hr3, hp3, hs3, ha3⟩)
              go_roundw
              case rel =>
                obtain ⟨hA, hB', hB2⟩ := H.out
                rw [HC.out] at hB' hB2
                have e1 : k * (2 * bs) + 2 * bs = B := by omega
                refine ⟨k + 1, B, B2, d3, by rw [Nat.add_mul, Nat.one_mul]; omega, hB2, hlt3, rfl, by go_num, hr3, hp.trans (hp3.wide (Nat.zero_le _) hlt3), phase_step hP (by omega) (by rw [e1, ← hA]; exact hs3) (by rw [e1, ← hA]; exact hp3), ha.trans ha3⟩
              case measure => simp [intOf]; omega
            · have hd3 : decide ((B : Int) ≤ (n : Int)) = false := by simp; omega
              by_cases hlt4 : M < n
              · have hd4 : decide ((M : Int) < (n : Int)) = true := by simp; omega
                have hS := symMerge_h g c n bk (n - A) A M n (Nat.le_refl _) d wr hr hn (by omega) hlt4 (Nat.le_refl _) hk2 hbk2 hne (by have := hbl.1; rw [Nat.min_eq_left (by omega)] at this; rw [hM]; exact this) (by have := hbl.2; rw [Nat.min_eq_right (by omega)] at this; rw [hM]; exact this)
                have H := Lib.hid (⟨hA, hB'⟩ : A = k * (2 * bs) ∧ B = A + cs)
                clear hA hB' hM hbl
                go_wp2_with ((with_reducible refine hS.mono ?_); rintro e w5 ⟨rfl, d3, hr3, hp3, hs3, ha3⟩)
                go_roundw
                case rel =>
                  obtain ⟨hA, hB'⟩ := H.out
                  rw [HC.out] at hB'
                  exact ⟨cs, d3, by omega, by omega, by go_num, hr3, hp.trans (hp3.wide (Nat.zero_le _) (Nat.le_refl _)), by rw [HC.out]; exact phase_end hP (by omega) (by rw [← hA]; exact hs3) (by rw [← hA]; exact hp3), ha.trans ha3⟩
                case measure => simp [intOf]; omega
              · have hd4 : decide ((M : Int) < (n : Int)) = false := by simp; omega
                have hs3 : Srt (fun x y => bl (Hh.key x) (Hh.key y)) d A n := by have := hbl.1; rw [Nat.min_eq_right (by omega)] at this; exact this
                have H := Lib.hid (⟨hA, hB'⟩ : A = k * (2 * bs) ∧ B = A + cs)
                clear hA hB' hM hbl
                go_wp2_with fail
                go_roundw
                case rel =>
                  obtain ⟨hA, hB'⟩ := H.out
                  rw [HC.out] at hB'
                  exact ⟨cs, d, by omega, by omega, by go_num, hr, hp, by rw [HC.out]; exact phase_end hP (by omega) (by rw [← hA]; exact hs3) (Pm.refl _ _ _), ha⟩
                case measure => simp [intOf]; omega
        · have hd2 : decide (bs < n) = false := decide_eq_false hlt2
          go_wp2_with fail
          go_end0
          exact ⟨rfl, d, hr, hp, blks_all hB (by omega), ha⟩
set_option maxHeartbeats 1000000 in
theorem sortStable_h (g c n : Nat) (f : Nat → Hh) (bk : Nat) (w : World) (h : RowF Hh.cells 2 59 w g c n f) (hn : n ≤ 1000000000) (hk : w.cell? ⟨bk, 0, none⟩ = some (.func (.func 25) #[] #[])) (hbk : bk < w.heap.size) (hne : bk ≠ g) :
    Calls Tryz.prog 52 #[.slice (some ⟨g, 0, none⟩) n c, .func (.func 53) #[] #[.pointer (some ⟨bk, 0, none⟩)]] w fun e w' => e = .returned (.tuple #[]) ∧ SortP Hh.cells 2 59 Hh.key f 0 n g c n w w' := by
  have hS := stable_h g c n f bk w h hn hk hbk hne
  go_enter Tryz.func52, Tryz.ntmps52
  go_wp2_with ((with_reducible refine hS.mono ?_); rintro e w5 ⟨rfl, h5⟩)
  go_end0
  exact ⟨rfl, h5⟩

end Go.Proofs.YtipacjbegfingaaGreat
