/- Room for a row, and two rows as one. -/
import Derived.Lib.AppendZeros
import Derived.Test.YtipacjbegfingaaGreatYaai
namespace Go.Proofs.YtipacjbegfingaaGreat
set_option linter.unusedVariables false
open Go.RowKit
attribute [local go_sem] run_store_float

theorem zeroCells_size (z : Array Value) (n : Nat) : (Builtin.zeroCells z n).size = n * z.size := by simp [Builtin.zeroCells]
theorem own_zeros {α : Type} (cells : α → List Value) (E : Nat) (T : TypeId) (w : World) (z : Array Value) (n c : Nat) (hz : z.size = E) (hn : n ≤ c) (hc : c ≤ maxLen) :
    OwnL cells T E w.heap.size (w.drew.alloc (.cells (Builtin.zeroCells z n ++ Builtin.zeroCells z (c - n)) T)) (.slice (some ⟨w.heap.size, 0, none⟩) 0 c) [] := by
  refine ⟨by simp, .inr ⟨w.heap.size, c, _, rfl, Nat.le_refl _, heap_alloc_new w.drew _, Nat.zero_le _, hc, ?_, by simp⟩⟩
  rw [Array.size_append, zeroCells_size, zeroCells_size, hz, ← Nat.add_mul]
  congr 1; omega

theorem hh_one (a : Hh) : ∀ u ∈ a.cells, u.oneCell' = true := by
  intro u hu
  simp only [Hh.cells, List.mem_cons, List.not_mem_nil, or_false] at hu
  rcases hu with rfl | rfl <;> rfl
def CoR1 (n1 n2 : Nat) (w : World) (s i : Value) (wr : World) : Prop :=
  ∃ k z : Nat, (k = 0 ∧ 0 = z ∨ k = 1 ∧ n1 = z ∨ k = 2 ∧ n1 + n2 = z) ∧ i = .int .i64 (k : Int) ∧ s = .int .i64 (z : Int) ∧ w = wr
def CoR2 {α : Type} (cells : α → List Value) (T : TypeId) (E base : Nat) (l1 l2 : List α) (w : World) (v i : Value) (wr : World) : Prop :=
  ∃ (k : Nat) (xs : List α), (k = 0 ∧ [] = xs ∨ k = 1 ∧ l1 = xs ∨ k = 2 ∧ l1 ++ l2 = xs) ∧ i = .int .i64 (k : Int) ∧ OwnL cells T E base wr v xs ∧ Below w.heap.size w wr
theorem Reads.past {w w' : World} {B B' size n : Nat} {A : Option Addr} {xs : List Value} (h : Reads w B size A n xs) (hb : Below B w w') (hB : B ≤ B') : Reads w' B' size A n xs :=
  ⟨h.1, fun hn => by
    obtain ⟨ad, e, h1, h2⟩ := h.2 hn
    exact ⟨ad, e, Nat.lt_of_lt_of_le h1 hB, fun j u hj => (hb.cell (by rw [block_of_add]; exact h1)).trans (h2 j u hj)⟩⟩

theorem info_wG : (Tryz.prog.info? 86).map (fun i => (i.zero, i.size, i.bytes)) = some (some (.agg #[.string ⟨#[]⟩, .int .i64 0, .float .f64 0, .string ⟨#[]⟩]), 4, 48) := by kernel_rfl
set_option maxHeartbeats 1000000 in
theorem grow_w (n : Nat) (w : World) (hn : n ≤ 1000000000) :
    Calls Tryz.prog 119 #[.slice none 0 0, .int .i64 (n : Int)] w fun e w' => ∃ v, e = .returned v ∧ OwnL Wt.cells 86 4 w.heap.size w' v [] ∧ Below w.heap.size w w' := by
  obtain ⟨i0, hi0, hz0, hz1, hz2⟩ := info_parts info_wG
  by_cases h0 : n = 0
  · subst h0
    go_enter Tryz.func119, Tryz.ntmps119
    go_wp2
    go_ret
    exact ⟨_, rfl, OwnL.nil _, Below.refl _ _⟩
  · have hd1 : decide ((n : Int) < 0) = false := by simp
    have hd2 : decide (0 < n) = true := by simp; omega
    have hr := Lib.run_append_nil_zeros w 43 3 43 86 i0 _ .i64 .i64 Tryz.underlying43 Tryz.underlying3 hi0 hz0 n (by omega) (by omega) (by omega) (by rw [hz2]; omega)
    have hg1 := grownCap_ge w n 0 86
    have hg2 := grownCap_le_maxLen w n 0 86 (by unfold maxLen; omega)
    have ho := own_zeros Wt.cells 4 86 w (.agg #[.string ⟨#[]⟩, .int .i64 0, .float .f64 0, .string ⟨#[]⟩] : Value).cells n (grownCap w n 0 86) (by rfl) hg1 hg2
    have hb : Below w.heap.size w (w.drew.alloc (.cells (Builtin.zeroCells (.agg #[.string ⟨#[]⟩, .int .i64 0, .float .f64 0, .string ⟨#[]⟩] : Value).cells n ++ Builtin.zeroCells (.agg #[.string ⟨#[]⟩, .int .i64 0, .float .f64 0, .string ⟨#[]⟩] : Value).cells (grownCap w n 0 86 - n)) 86)) := (Below.refl _ _).drew.alloc (Nat.le_refl _) _
    generalize grownCap w n 0 86 = cp at *
    generalize hW : w.drew.alloc (.cells (Builtin.zeroCells (.agg #[.string ⟨#[]⟩, .int .i64 0, .float .f64 0, .string ⟨#[]⟩] : Value).cells n ++ Builtin.zeroCells (.agg #[.string ⟨#[]⟩, .int .i64 0, .float .f64 0, .string ⟨#[]⟩] : Value).cells (cp - n)) 86) = W at *
    go_enter Tryz.func119, Tryz.ntmps119
    go_wp2_with (first
      | (at_builtin
         refine Lib.wpList_append_run _ rfl _ _ _ _ rfl _ _ rfl rfl _ _ hr ?_))
    go_ret
    exact ⟨_, rfl, ho, hb⟩

theorem info_sG : (Tryz.prog.info? 9).map (fun i => (i.zero, i.size, i.bytes)) = some (some (.string ⟨#[]⟩), 1, 16) := by kernel_rfl
set_option maxHeartbeats 1000000 in
theorem grow_s (n : Nat) (w : World) (hn : n ≤ 1000000000) :
    Calls Tryz.prog 117 #[.slice none 0 0, .int .i64 (n : Int)] w fun e w' => ∃ v, e = .returned v ∧ OwnL keyCells 9 1 w.heap.size w' v [] ∧ Below w.heap.size w w' := by
  obtain ⟨i0, hi0, hz0, hz1, hz2⟩ := info_parts info_sG
  by_cases h0 : n = 0
  · subst h0
    go_enter Tryz.func117, Tryz.ntmps117
    go_wp2
    go_ret
    exact ⟨_, rfl, OwnL.nil _, Below.refl _ _⟩
  · have hd1 : decide ((n : Int) < 0) = false := by simp
    have hd2 : decide (0 < n) = true := by simp; omega
    have hr := Lib.run_append_nil_zeros w 42 3 42 9 i0 _ .i64 .i64 Tryz.underlying42 Tryz.underlying3 hi0 hz0 n (by omega) (by omega) (by omega) (by rw [hz2]; omega)
    have hg1 := grownCap_ge w n 0 9
    have hg2 := grownCap_le_maxLen w n 0 9 (by unfold maxLen; omega)
    have ho := own_zeros keyCells 1 9 w (.string ⟨#[]⟩ : Value).cells n (grownCap w n 0 9) (by rfl) hg1 hg2
    have hb : Below w.heap.size w (w.drew.alloc (.cells (Builtin.zeroCells (.string ⟨#[]⟩ : Value).cells n ++ Builtin.zeroCells (.string ⟨#[]⟩ : Value).cells (grownCap w n 0 9 - n)) 9)) := (Below.refl _ _).drew.alloc (Nat.le_refl _) _
    generalize grownCap w n 0 9 = cp at *
    generalize hW : w.drew.alloc (.cells (Builtin.zeroCells (.string ⟨#[]⟩ : Value).cells n ++ Builtin.zeroCells (.string ⟨#[]⟩ : Value).cells (cp - n)) 9) = W at *
    go_enter Tryz.func117, Tryz.ntmps117
    go_wp2_with (first
      | (at_builtin
         refine Lib.wpList_append_run _ rfl _ _ _ _ rfl _ _ rfl rfl _ _ hr ?_))
    go_ret
    exact ⟨_, rfl, ho, hb⟩

theorem info_hG : (Tryz.prog.info? 59).map (fun i => (i.zero, i.size, i.bytes)) = some (some (.agg #[.string ⟨#[]⟩, .slice none 0 0]), 2, 40) := by kernel_rfl
set_option maxHeartbeats 1000000 in
theorem grow_h (n : Nat) (w : World) (hn : n ≤ 1000000000) :
    Calls Tryz.prog 83 #[.slice none 0 0, .int .i64 (n : Int)] w fun e w' => ∃ v, e = .returned v ∧ OwnL Hh.cells 59 2 w.heap.size w' v [] ∧ Below w.heap.size w w' := by
  obtain ⟨i0, hi0, hz0, hz1, hz2⟩ := info_parts info_hG
  by_cases h0 : n = 0
  · subst h0
    go_enter Tryz.func83, Tryz.ntmps83
    go_wp2
    go_ret
    exact ⟨_, rfl, OwnL.nil _, Below.refl _ _⟩
  · have hd1 : decide ((n : Int) < 0) = false := by simp
    have hd2 : decide (0 < n) = true := by simp; omega
    have hr := Lib.run_append_nil_zeros w 27 3 27 59 i0 _ .i64 .i64 Tryz.underlying27 Tryz.underlying3 hi0 hz0 n (by omega) (by omega) (by omega) (by rw [hz2]; omega)
    have hg1 := grownCap_ge w n 0 59
    have hg2 := grownCap_le_maxLen w n 0 59 (by unfold maxLen; omega)
    have ho := own_zeros Hh.cells 2 59 w (.agg #[.string ⟨#[]⟩, .slice none 0 0] : Value).cells n (grownCap w n 0 59) (by rfl) hg1 hg2
    have hb : Below w.heap.size w (w.drew.alloc (.cells (Builtin.zeroCells (.agg #[.string ⟨#[]⟩, .slice none 0 0] : Value).cells n ++ Builtin.zeroCells (.agg #[.string ⟨#[]⟩, .slice none 0 0] : Value).cells (grownCap w n 0 59 - n)) 59)) := (Below.refl _ _).drew.alloc (Nat.le_refl _) _
    generalize grownCap w n 0 59 = cp at *
    generalize hW : w.drew.alloc (.cells (Builtin.zeroCells (.agg #[.string ⟨#[]⟩, .slice none 0 0] : Value).cells n ++ Builtin.zeroCells (.agg #[.string ⟨#[]⟩, .slice none 0 0] : Value).cells (cp - n)) 59) = W at *
    go_enter Tryz.func83, Tryz.ntmps83
    go_wp2_with (first
      | (at_builtin
         refine Lib.wpList_append_run _ rfl _ _ _ _ rfl _ _ rfl rfl _ _ hr ?_))
    go_ret
    exact ⟨_, rfl, ho, hb⟩

set_option maxRecDepth 100000 in
set_option maxHeartbeats 2000000 in
theorem concat_w (A1 A2 : Option Addr) (n1 n2 c1 c2 : Nat) (l1 l2 : List Wt) (g0 : Nat) (TT : TypeId) (w : World) (hrow : Blk w g0 TT #[.slice A1 n1 c1, .slice A2 n2 c2]) (h1 : Reads w w.heap.size 4 A1 n1 (l1.flatMap Wt.cells)) (h2 : Reads w w.heap.size 4 A2 n2 (l2.flatMap Wt.cells)) (hl1 : l1.length = n1) (hl2 : l2.length = n2) (hn1 : n1 ≤ 100000000) (hn2 : n2 ≤ 100000000) :
    Calls Tryz.prog 88 #[.slice (some ⟨g0, 0, none⟩) 2 2] w fun e w' => ∃ v, e = .returned v ∧ OwnL Wt.cells 86 4 w.heap.size w' v (l1 ++ l2) ∧ Below w.heap.size w w' := by
  obtain ⟨i0, hi0, hz0, hz1, hz2⟩ := info_parts info_wG
  have hrl := hrow.lt
  have e0 : w.cell? ⟨g0, 0, none⟩ = some (.slice A1 n1 c1) := hrow.cell 0
  have e1 : w.cell? ⟨g0, 1, none⟩ = some (.slice A2 n2 c2) := hrow.cell 1
  go_enter Tryz.func88, Tryz.ntmps88
  go_wp2
  go_loopw [3, 11] (fun s i wr => CoR1 n1 n2 w s i wr) (fun _ i _ => 2 - (intOf i).toNat)
  case atStart => exact ⟨0, 0, .inl ⟨rfl, rfl⟩, rfl, rfl, rfl⟩
  case round =>
    obtain ⟨k, z, hkz, rfl, rfl, rfl⟩ := hrel
    rcases hkz with ⟨rfl, rfl⟩ | ⟨rfl, rfl⟩ | ⟨rfl, rfl⟩
    · have hw1 : IntKind.i64.wrap ((n1 : Int)) = (n1 : Int) := by rw [IntKind.wrap_i64]; omega
      have hd2 : decide ((n1 : Int) < 0) = false := by simp
      go_wp2
      go_roundw
      case rel => exact ⟨1, n1, .inr (.inl ⟨rfl, rfl⟩), by go_num, by go_num, rfl⟩
      case measure => simp [intOf]
    · obtain ⟨z, hz⟩ : ∃ z, z = n1 + n2 := ⟨_, rfl⟩
      have hw1 : IntKind.i64.wrap ((n1 : Int) + (n2 : Int)) = (z : Int) := by rw [IntKind.wrap_i64]; omega
      have hd2 : decide ((z : Int) < 0) = false := by simp
      have HZ := Lib.hid hz
      clear hz
      go_wp2
      go_roundw
      case rel => exact ⟨2, z, .inr (.inr ⟨rfl, HZ.out.symm⟩), by go_num, by go_num, rfl⟩
      case measure => simp [intOf]
    · obtain ⟨z, hz⟩ : ∃ z, z = n1 + n2 := ⟨_, rfl⟩
      rw [← hz]
      have hG := grow_w z w (by omega)
      have HZ := Lib.hid hz
      clear hz
      go_wp2_with ((with_reducible refine hG.mono ?_); rintro e w5 ⟨v5, rfl, ho5, hb5⟩)
      go_loopw [6, 27] (fun v i wr => CoR2 Wt.cells 86 4 w.heap.size l1 l2 w v i wr) (fun _ i _ => 2 - (intOf i).toNat)
      case atStart => exact ⟨0, [], .inl ⟨rfl, rfl⟩, rfl, ho5, hb5⟩
      case round =>
        obtain ⟨k, xs, hkx, rfl, ho, hb⟩ := hrel
        rcases hkx with ⟨rfl, rfl⟩ | ⟨rfl, rfl⟩ | ⟨rfl, rfl⟩
        · skip
          have hel : wr.cell? ⟨g0, 0, none⟩ = some (.slice A1 n1 c1) := (hb.cell (by exact hrl)).trans e0
          have hrd := h1.past hb hb.size
          have hz := hb.size
          have hd1 : decide ((0 : Int) < 2) = true := by decide
          obtain ⟨A9, c9, rfl, hq1, hq1m⟩ := ho.form
          go_wp2_with (first
            | (at_builtin
               refine wpList_append_any _ rfl (.tmp 31) (.tmp 32) _ rfl w.heap.size 86 i0 _ 4 48 Tryz.underlying43 hi0 hz0 hz1 hz2 rfl (by omega) _ _ _ (by rfl) ho _ A1 n1 c1 (l1.flatMap Wt.cells) (by rfl) hrd (one_of wt_one l1) (by unfold maxLen; simp only [List.length_nil]; omega) (by simp only [List.length_nil]; omega) (by omega) ?_
               intro v3 w3 hown3 hg3 hat3))
          have ho3 : OwnL Wt.cells 86 4 w.heap.size w3 v3 ([] ++ l1) := by
            unfold OwnL
            rw [List.nil_append]
            rw [← hl1] at hown3
            simpa using hown3
          have hb3 : Below w.heap.size w w3 := hb.grown hg3 hz (fun q hq => (ho.lt q hq).1)
          go_roundw
          case rel => exact ⟨1, _, .inr (.inl ⟨rfl, rfl⟩), by go_num, ho3, hb3⟩
          case measure => simp [intOf]
        · skip
          have hel : wr.cell? ⟨g0, 1, none⟩ = some (.slice A2 n2 c2) := (hb.cell (by exact hrl)).trans e1
          have hrd := h2.past hb hb.size
          have hz := hb.size
          have hd1 : decide ((1 : Int) < 2) = true := by decide
          obtain ⟨A9, c9, rfl, hq1, hq1m⟩ := ho.form
          go_wp2_with (first
            | (at_builtin
               refine wpList_append_any _ rfl (.tmp 31) (.tmp 32) _ rfl w.heap.size 86 i0 _ 4 48 Tryz.underlying43 hi0 hz0 hz1 hz2 rfl (by omega) _ _ _ (by rfl) ho _ A2 n2 c2 (l2.flatMap Wt.cells) (by rfl) hrd (one_of wt_one l2) (by unfold maxLen; omega) (by omega) (by omega) ?_
               intro v3 w3 hown3 hg3 hat3))
          have ho3 : OwnL Wt.cells 86 4 w.heap.size w3 v3 (l1 ++ l2) := by
            unfold OwnL
            rw [List.length_append, List.flatMap_append]
            rw [← hl2] at hown3
            exact hown3
          have hb3 : Below w.heap.size w w3 := hb.grown hg3 hz (fun q hq => (ho.lt q hq).1)
          go_roundw
          case rel => exact ⟨2, _, .inr (.inr ⟨rfl, rfl⟩), by go_num, ho3, hb3⟩
          case measure => simp [intOf]
        · go_wp2
          go_ret
          exact ⟨_, rfl, ho, hb⟩

set_option maxRecDepth 100000 in
set_option maxHeartbeats 2000000 in
theorem concat_s (A1 A2 : Option Addr) (n1 n2 c1 c2 : Nat) (l1 l2 : List ByteArray) (g0 : Nat) (TT : TypeId) (w : World) (hrow : Blk w g0 TT #[.slice A1 n1 c1, .slice A2 n2 c2]) (h1 : Reads w w.heap.size 1 A1 n1 (l1.flatMap keyCells)) (h2 : Reads w w.heap.size 1 A2 n2 (l2.flatMap keyCells)) (hl1 : l1.length = n1) (hl2 : l2.length = n2) (hn1 : n1 ≤ 100000000) (hn2 : n2 ≤ 100000000) :
    Calls Tryz.prog 85 #[.slice (some ⟨g0, 0, none⟩) 2 2] w fun e w' => ∃ v, e = .returned v ∧ OwnL keyCells 9 1 w.heap.size w' v (l1 ++ l2) ∧ Below w.heap.size w w' := by
  obtain ⟨i0, hi0, hz0, hz1, hz2⟩ := info_parts info_sG
  have hrl := hrow.lt
  have e0 : w.cell? ⟨g0, 0, none⟩ = some (.slice A1 n1 c1) := hrow.cell 0
  have e1 : w.cell? ⟨g0, 1, none⟩ = some (.slice A2 n2 c2) := hrow.cell 1
  go_enter Tryz.func85, Tryz.ntmps85
  go_wp2
  go_loopw [3, 11] (fun s i wr => CoR1 n1 n2 w s i wr) (fun _ i _ => 2 - (intOf i).toNat)
  case atStart => exact ⟨0, 0, .inl ⟨rfl, rfl⟩, rfl, rfl, rfl⟩
  case round =>
    obtain ⟨k, z, hkz, rfl, rfl, rfl⟩ := hrel
    rcases hkz with ⟨rfl, rfl⟩ | ⟨rfl, rfl⟩ | ⟨rfl, rfl⟩
    · have hw1 : IntKind.i64.wrap ((n1 : Int)) = (n1 : Int) := by rw [IntKind.wrap_i64]; omega
      have hd2 : decide ((n1 : Int) < 0) = false := by simp
      go_wp2
      go_roundw
      case rel => exact ⟨1, n1, .inr (.inl ⟨rfl, rfl⟩), by go_num, by go_num, rfl⟩
      case measure => simp [intOf]
    · obtain ⟨z, hz⟩ : ∃ z, z = n1 + n2 := ⟨_, rfl⟩
      have hw1 : IntKind.i64.wrap ((n1 : Int) + (n2 : Int)) = (z : Int) := by rw [IntKind.wrap_i64]; omega
      have hd2 : decide ((z : Int) < 0) = false := by simp
      have HZ := Lib.hid hz
      clear hz
      go_wp2
      go_roundw
      case rel => exact ⟨2, z, .inr (.inr ⟨rfl, HZ.out.symm⟩), by go_num, by go_num, rfl⟩
      case measure => simp [intOf]
    · obtain ⟨z, hz⟩ : ∃ z, z = n1 + n2 := ⟨_, rfl⟩
      rw [← hz]
      have hG := grow_s z w (by omega)
      have HZ := Lib.hid hz
      clear hz
      go_wp2_with ((with_reducible refine hG.mono ?_); rintro e w5 ⟨v5, rfl, ho5, hb5⟩)
      go_loopw [6, 27] (fun v i wr => CoR2 keyCells 9 1 w.heap.size l1 l2 w v i wr) (fun _ i _ => 2 - (intOf i).toNat)
      case atStart => exact ⟨0, [], .inl ⟨rfl, rfl⟩, rfl, ho5, hb5⟩
      case round =>
        obtain ⟨k, xs, hkx, rfl, ho, hb⟩ := hrel
        rcases hkx with ⟨rfl, rfl⟩ | ⟨rfl, rfl⟩ | ⟨rfl, rfl⟩
        · skip
          have hel : wr.cell? ⟨g0, 0, none⟩ = some (.slice A1 n1 c1) := (hb.cell (by exact hrl)).trans e0
          have hrd := h1.past hb hb.size
          have hz := hb.size
          have hd1 : decide ((0 : Int) < 2) = true := by decide
          obtain ⟨A9, c9, rfl, hq1, hq1m⟩ := ho.form
          go_wp2_with (first
            | (at_builtin
               refine wpList_append_any _ rfl (.tmp 31) (.tmp 32) _ rfl w.heap.size 9 i0 _ 1 16 Tryz.underlying42 hi0 hz0 hz1 hz2 rfl (by omega) _ _ _ (by rfl) ho _ A1 n1 c1 (l1.flatMap keyCells) (by rfl) hrd (one_of ky_one l1) (by unfold maxLen; simp only [List.length_nil]; omega) (by simp only [List.length_nil]; omega) (by omega) ?_
               intro v3 w3 hown3 hg3 hat3))
          have ho3 : OwnL keyCells 9 1 w.heap.size w3 v3 ([] ++ l1) := by
            unfold OwnL
            rw [List.nil_append]
            rw [← hl1] at hown3
            simpa using hown3
          have hb3 : Below w.heap.size w w3 := hb.grown hg3 hz (fun q hq => (ho.lt q hq).1)
          go_roundw
          case rel => exact ⟨1, _, .inr (.inl ⟨rfl, rfl⟩), by go_num, ho3, hb3⟩
          case measure => simp [intOf]
        · skip
          have hel : wr.cell? ⟨g0, 1, none⟩ = some (.slice A2 n2 c2) := (hb.cell (by exact hrl)).trans e1
          have hrd := h2.past hb hb.size
          have hz := hb.size
          have hd1 : decide ((1 : Int) < 2) = true := by decide
          obtain ⟨A9, c9, rfl, hq1, hq1m⟩ := ho.form
          go_wp2_with (first
            | (at_builtin
               refine wpList_append_any _ rfl (.tmp 31) (.tmp 32) _ rfl w.heap.size 9 i0 _ 1 16 Tryz.underlying42 hi0 hz0 hz1 hz2 rfl (by omega) _ _ _ (by rfl) ho _ A2 n2 c2 (l2.flatMap keyCells) (by rfl) hrd (one_of ky_one l2) (by unfold maxLen; omega) (by omega) (by omega) ?_
               intro v3 w3 hown3 hg3 hat3))
          have ho3 : OwnL keyCells 9 1 w.heap.size w3 v3 (l1 ++ l2) := by
            unfold OwnL
            rw [List.length_append, List.flatMap_append]
            rw [← hl2] at hown3
            exact hown3
          have hb3 : Below w.heap.size w w3 := hb.grown hg3 hz (fun q hq => (ho.lt q hq).1)
          go_roundw
          case rel => exact ⟨2, _, .inr (.inr ⟨rfl, rfl⟩), by go_num, ho3, hb3⟩
          case measure => simp [intOf]
        · go_wp2
          go_ret
          exact ⟨_, rfl, ho, hb⟩

set_option maxRecDepth 100000 in
set_option maxHeartbeats 2000000 in
theorem concat_h (A1 A2 : Option Addr) (n1 n2 c1 c2 : Nat) (l1 l2 : List Hh) (g0 : Nat) (TT : TypeId) (w : World) (hrow : Blk w g0 TT #[.slice A1 n1 c1, .slice A2 n2 c2]) (h1 : Reads w w.heap.size 2 A1 n1 (l1.flatMap Hh.cells)) (h2 : Reads w w.heap.size 2 A2 n2 (l2.flatMap Hh.cells)) (hl1 : l1.length = n1) (hl2 : l2.length = n2) (hn1 : n1 ≤ 100000000) (hn2 : n2 ≤ 100000000) :
    Calls Tryz.prog 51 #[.slice (some ⟨g0, 0, none⟩) 2 2] w fun e w' => ∃ v, e = .returned v ∧ OwnL Hh.cells 59 2 w.heap.size w' v (l1 ++ l2) ∧ Below w.heap.size w w' := by
  obtain ⟨i0, hi0, hz0, hz1, hz2⟩ := info_parts info_hG
  have hrl := hrow.lt
  have e0 : w.cell? ⟨g0, 0, none⟩ = some (.slice A1 n1 c1) := hrow.cell 0
  have e1 : w.cell? ⟨g0, 1, none⟩ = some (.slice A2 n2 c2) := hrow.cell 1
  go_enter Tryz.func51, Tryz.ntmps51
  go_wp2
  go_loopw [3, 11] (fun s i wr => CoR1 n1 n2 w s i wr) (fun _ i _ => 2 - (intOf i).toNat)
  case atStart => exact ⟨0, 0, .inl ⟨rfl, rfl⟩, rfl, rfl, rfl⟩
  case round =>
    obtain ⟨k, z, hkz, rfl, rfl, rfl⟩ := hrel
    rcases hkz with ⟨rfl, rfl⟩ | ⟨rfl, rfl⟩ | ⟨rfl, rfl⟩
    · have hw1 : IntKind.i64.wrap ((n1 : Int)) = (n1 : Int) := by rw [IntKind.wrap_i64]; omega
      have hd2 : decide ((n1 : Int) < 0) = false := by simp
      go_wp2
      go_roundw
      case rel => exact ⟨1, n1, .inr (.inl ⟨rfl, rfl⟩), by go_num, by go_num, rfl⟩
      case measure => simp [intOf]
    · obtain ⟨z, hz⟩ : ∃ z, z = n1 + n2 := ⟨_, rfl⟩
      have hw1 : IntKind.i64.wrap ((n1 : Int) + (n2 : Int)) = (z : Int) := by rw [IntKind.wrap_i64]; omega
      have hd2 : decide ((z : Int) < 0) = false := by simp
      have HZ := Lib.hid hz
      clear hz
      go_wp2
      go_roundw
      case rel => exact ⟨2, z, .inr (.inr ⟨rfl, HZ.out.symm⟩), by go_num, by go_num, rfl⟩
      case measure => simp [intOf]
    · obtain ⟨z, hz⟩ : ∃ z, z = n1 + n2 := ⟨_, rfl⟩
      rw [← hz]
      have hG := grow_h z w (by omega)
      have HZ := Lib.hid hz
      clear hz
      go_wp2_with ((with_reducible refine hG.mono ?_); rintro e w5 ⟨v5, rfl, ho5, hb5⟩)
      go_loopw [6, 27] (fun v i wr => CoR2 Hh.cells 59 2 w.heap.size l1 l2 w v i wr) (fun _ i _ => 2 - (intOf i).toNat)
      case atStart => exact ⟨0, [], .inl ⟨rfl, rfl⟩, rfl, ho5, hb5⟩
      case round =>
        obtain ⟨k, xs, hkx, rfl, ho, hb⟩ := hrel
        rcases hkx with ⟨rfl, rfl⟩ | ⟨rfl, rfl⟩ | ⟨rfl, rfl⟩
        · skip
          have hel : wr.cell? ⟨g0, 0, none⟩ = some (.slice A1 n1 c1) := (hb.cell (by exact hrl)).trans e0
          have hrd := h1.past hb hb.size
          have hz := hb.size
          have hd1 : decide ((0 : Int) < 2) = true := by decide
          obtain ⟨A9, c9, rfl, hq1, hq1m⟩ := ho.form
          go_wp2_with (first
            | (at_builtin
               refine wpList_append_any _ rfl (.tmp 31) (.tmp 32) _ rfl w.heap.size 59 i0 _ 2 40 Tryz.underlying27 hi0 hz0 hz1 hz2 rfl (by omega) _ _ _ (by rfl) ho _ A1 n1 c1 (l1.flatMap Hh.cells) (by rfl) hrd (one_of hh_one l1) (by unfold maxLen; simp only [List.length_nil]; omega) (by simp only [List.length_nil]; omega) (by omega) ?_
               intro v3 w3 hown3 hg3 hat3))
          have ho3 : OwnL Hh.cells 59 2 w.heap.size w3 v3 ([] ++ l1) := by
            unfold OwnL
            rw [List.nil_append]
            rw [← hl1] at hown3
            simpa using hown3
          have hb3 : Below w.heap.size w w3 := hb.grown hg3 hz (fun q hq => (ho.lt q hq).1)
          go_roundw
          case rel => exact ⟨1, _, .inr (.inl ⟨rfl, rfl⟩), by go_num, ho3, hb3⟩
          case measure => simp [intOf]
        · skip
          have hel : wr.cell? ⟨g0, 1, none⟩ = some (.slice A2 n2 c2) := (hb.cell (by exact hrl)).trans e1
          have hrd := h2.past hb hb.size
          have hz := hb.size
          have hd1 : decide ((1 : Int) < 2) = true := by decide
          obtain ⟨A9, c9, rfl, hq1, hq1m⟩ := ho.form
          go_wp2_with (first
            | (at_builtin
               refine wpList_append_any _ rfl (.tmp 31) (.tmp 32) _ rfl w.heap.size 59 i0 _ 2 40 Tryz.underlying27 hi0 hz0 hz1 hz2 rfl (by omega) _ _ _ (by rfl) ho _ A2 n2 c2 (l2.flatMap Hh.cells) (by rfl) hrd (one_of hh_one l2) (by unfold maxLen; omega) (by omega) (by omega) ?_
               intro v3 w3 hown3 hg3 hat3))
          have ho3 : OwnL Hh.cells 59 2 w.heap.size w3 v3 (l1 ++ l2) := by
            unfold OwnL
            rw [List.length_append, List.flatMap_append]
            rw [← hl2] at hown3
            exact hown3
          have hb3 : Below w.heap.size w w3 := hb.grown hg3 hz (fun q hq => (ho.lt q hq).1)
          go_roundw
          case rel => exact ⟨2, _, .inr (.inr ⟨rfl, rfl⟩), by go_num, ho3, hb3⟩
          case measure => simp [intOf]
        · go_wp2
          go_ret
          exact ⟨_, rfl, ho, hb⟩

end Go.Proofs.YtipacjbegfingaaGreat
