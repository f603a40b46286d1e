/- The closures by which a sort compares. -/
import Derived.Deep.CutRange
import Derived.Test.YtipacjbegfingaaGreatYaab
import Derived.Test.YtipacjbegfingaaGreatYaac
import Derived.Test.YtipacjbegfingaaGreatYaad
namespace Go.Proofs.YtipacjbegfingaaGreat
set_option linter.unusedVariables false
open Go.RowKit
attribute [local go_sem] run_store_float

/-- how two keys compare -/
def cmpI (a b : ByteArray) : Int := if bl a b = true then -1 else if bl b a = true then 1 else 0
theorem bl_beq {a b : ByteArray} (h : bl a b = false) : (a.toList == b.toList) = !bl b a := by
  have h2 := bl_le a b
  have h3 : leB a b = (a.toList == b.toList) := by
    unfold leB
    rw [show Op.bytesLess a.toList b.toList = false from h]
    rfl
  rw [h2, h3, Bool.not_not]
theorem cmpI_neg (a b : ByteArray) : decide (cmpI a b < 0) = bl a b := by
  unfold cmpI
  cases h : bl a b
  · rw [if_neg Bool.false_ne_true]
    split <;> rfl
  · rw [if_pos rfl]; rfl
/-- a history as a sort moves it: its versions' header -/
structure Hh where
  key : ByteArray
  A : Option Addr
  n : Nat
  c : Nat
abbrev Hh.hd (a : Hh) : Value := .slice a.A a.n a.c
abbrev Hh.val (a : Hh) : Value := .agg #[.string a.key, a.hd]
def Hh.cells (a : Hh) : List Value := [.string a.key, a.hd]

theorem key_w (a : Wt) (w : World) : Calls Tryz.prog 57 #[a.val] w fun e w' => e = .returned (.string a.key) ∧ Below w.heap.size w w' := by
  go_enter Tryz.func57, Tryz.ntmps57
  go_wp2
  go_ret
  exact ⟨rfl, by go_grown⟩

theorem key_s (a : ByteArray) (w : World) : Calls Tryz.prog 55 #[.string a] w fun e w' => e = .returned (.string a) ∧ w = w' := by
  go_enter Tryz.func55, Tryz.ntmps55
  go_wp2
  go_ret
  exact ⟨rfl, rfl⟩

theorem key_h (a : Hh) (w : World) : Calls Tryz.prog 25 #[a.val] w fun e w' => e = .returned (.string a.key) ∧ Below w.heap.size w w' := by
  go_enter Tryz.func25, Tryz.ntmps25
  go_wp2
  go_ret
  exact ⟨rfl, by go_grown⟩

set_option maxHeartbeats 1000000 in
theorem cmp_w (a b : Wt) (bk : Nat) (w : World) (hk : w.cell? ⟨bk, 0, none⟩ = some (.func (.func 57) #[] #[])) (hbk : bk < w.heap.size) :
    Calls Tryz.prog 90 #[a.val, b.val, .pointer (some ⟨bk, 0, none⟩)] w fun e w' => e = .returned (.int .i64 (cmpI a.key b.key)) ∧ Below w.heap.size w w' := by
  have hX : Below w.heap.size w ((w.alloc (.cells #[.string a.key, .int .i64 a.v.k, .float .f64 a.v.n, .string a.v.t] 86)).alloc (.cells #[.string b.key, .int .i64 b.v.k, .float .f64 b.v.n, .string b.v.t] 86)) := by go_grown
  have bA : Blk ((w.alloc (.cells #[.string a.key, .int .i64 a.v.k, .float .f64 a.v.n, .string a.v.t] 86)).alloc (.cells #[.string b.key, .int .i64 b.v.k, .float .f64 b.v.n, .string b.v.t] 86)) w.heap.size 86 #[.string a.key, .int .i64 a.v.k, .float .f64 a.v.n, .string a.v.t] := (Blk.new _ _ _).alloc _
  have bB : Blk ((w.alloc (.cells #[.string a.key, .int .i64 a.v.k, .float .f64 a.v.n, .string a.v.t] 86)).alloc (.cells #[.string b.key, .int .i64 b.v.k, .float .f64 b.v.n, .string b.v.t] 86)) (w.heap.size + 1) 86 #[.string b.key, .int .i64 b.v.k, .float .f64 b.v.n, .string b.v.t] := Blk.new' _ _ (by simp)
  have k0 := (hX.cell (p := ⟨bk, 0, none⟩) hbk).trans hk
  have hkl : bk < (((w.alloc (.cells #[.string a.key, .int .i64 a.v.k, .float .f64 a.v.n, .string a.v.t] 86)).alloc (.cells #[.string b.key, .int .i64 b.v.k, .float .f64 b.v.n, .string b.v.t] 86))).heap.size := Nat.lt_of_lt_of_le hbk hX.size
  have hla := bA.lt
  have hlb := bB.lt
  have x0 : (((w.alloc (.cells #[.string a.key, .int .i64 a.v.k, .float .f64 a.v.n, .string a.v.t] 86)).alloc (.cells #[.string b.key, .int .i64 b.v.k, .float .f64 b.v.n, .string b.v.t] 86))).cell? ⟨w.heap.size, 0, none⟩ = some (.string a.key) := bA.cell 0
  have x1 : (((w.alloc (.cells #[.string a.key, .int .i64 a.v.k, .float .f64 a.v.n, .string a.v.t] 86)).alloc (.cells #[.string b.key, .int .i64 b.v.k, .float .f64 b.v.n, .string b.v.t] 86))).cell? ⟨w.heap.size, 1, none⟩ = some (.int .i64 a.v.k) := bA.cell 1
  have x2 : (((w.alloc (.cells #[.string a.key, .int .i64 a.v.k, .float .f64 a.v.n, .string a.v.t] 86)).alloc (.cells #[.string b.key, .int .i64 b.v.k, .float .f64 b.v.n, .string b.v.t] 86))).cell? ⟨w.heap.size, 2, none⟩ = some (.float .f64 a.v.n) := bA.cell 2
  have x3 : (((w.alloc (.cells #[.string a.key, .int .i64 a.v.k, .float .f64 a.v.n, .string a.v.t] 86)).alloc (.cells #[.string b.key, .int .i64 b.v.k, .float .f64 b.v.n, .string b.v.t] 86))).cell? ⟨w.heap.size, 3, none⟩ = some (.string a.v.t) := bA.cell 3
  have y0 : (((w.alloc (.cells #[.string a.key, .int .i64 a.v.k, .float .f64 a.v.n, .string a.v.t] 86)).alloc (.cells #[.string b.key, .int .i64 b.v.k, .float .f64 b.v.n, .string b.v.t] 86))).cell? ⟨w.heap.size + 1, 0, none⟩ = some (.string b.key) := bB.cell 0
  have y1 : (((w.alloc (.cells #[.string a.key, .int .i64 a.v.k, .float .f64 a.v.n, .string a.v.t] 86)).alloc (.cells #[.string b.key, .int .i64 b.v.k, .float .f64 b.v.n, .string b.v.t] 86))).cell? ⟨w.heap.size + 1, 1, none⟩ = some (.int .i64 b.v.k) := bB.cell 1
  have y2 : (((w.alloc (.cells #[.string a.key, .int .i64 a.v.k, .float .f64 a.v.n, .string a.v.t] 86)).alloc (.cells #[.string b.key, .int .i64 b.v.k, .float .f64 b.v.n, .string b.v.t] 86))).cell? ⟨w.heap.size + 1, 2, none⟩ = some (.float .f64 b.v.n) := bB.cell 2
  have y3 : (((w.alloc (.cells #[.string a.key, .int .i64 a.v.k, .float .f64 a.v.n, .string a.v.t] 86)).alloc (.cells #[.string b.key, .int .i64 b.v.k, .float .f64 b.v.n, .string b.v.t] 86))).cell? ⟨w.heap.size + 1, 3, none⟩ = some (.string b.v.t) := bB.cell 3
  have HC := Lib.hid (show cmpI a.key b.key = if bl a.key b.key = true then -1 else if bl b.key a.key = true then 1 else 0 from rfl)
  clear bA bB
  cases h1 : bl a.key b.key
  case' true =>
    have h1' : Op.bytesLess a.key.toList b.key.toList = true := h1
    rw [h1, if_pos rfl] at HC
    go_enter Tryz.func90, Tryz.ntmps90
    go_upto_region 1 with fail
    generalize ((w.alloc (.cells #[.string a.key, .int .i64 a.v.k, .float .f64 a.v.n, .string a.v.t] 86)).alloc (.cells #[.string b.key, .int .i64 b.v.k, .float .f64 b.v.n, .string b.v.t] 86)) = wz at *
    have s0 : Below wz.heap.size wz wz.drew := (Below.refl _ _).drew
    refine wp_region_held_drew (S := fun w' => w'.cell? ⟨bk, 0, none⟩ = some (.func (.func 57) #[] #[]) ∧ w'.cell? ⟨w.heap.size, 0, none⟩ = some (.string a.key) ∧ w'.cell? ⟨w.heap.size, 1, none⟩ = some (.int .i64 a.v.k) ∧ w'.cell? ⟨w.heap.size, 2, none⟩ = some (.float .f64 a.v.n) ∧ w'.cell? ⟨w.heap.size, 3, none⟩ = some (.string a.v.t) ∧ w'.cell? ⟨w.heap.size + 1, 0, none⟩ = some (.string b.key) ∧ w'.cell? ⟨w.heap.size + 1, 1, none⟩ = some (.int .i64 b.v.k) ∧ w'.cell? ⟨w.heap.size + 1, 2, none⟩ = some (.float .f64 b.v.n) ∧ w'.cell? ⟨w.heap.size + 1, 3, none⟩ = some (.string b.v.t)) (by kernel_rfl) ⟨k0, x0, x1, x2, x3, y0, y1, y2, y3⟩ (fun hHeld => ?_)
    refine t0 0 7 ?_
    go_frame
    refine t0 1 8 ?_
    go_frame
    refine t0 3 10 ?_
    go_frame
    refine t0 4 11 ?_
    go_frame
    refine wpAnyH_ready (rs := [2]) (by kernel_rfl) (by simp) ?_
    refine AllReadyH.cons (o := ⟨some 9, _, _, _, _, _⟩) rfl (fun K hK => ?_) AllReadyH.nil
    go_simp
    (with_reducible refine (key_w a _).mono ?_)
    rintro e w2 ⟨rfl, hb2⟩
    have s1 := s0.trans (hb2.mono s0.size)
    refine hK.out _ _ ⟨(s1.cell (by exact hkl)).trans k0, (s1.cell (by exact hla)).trans x0, (s1.cell (by exact hla)).trans x1, (s1.cell (by exact hla)).trans x2, (s1.cell (by exact hla)).trans x3, (s1.cell (by exact hlb)).trans y0, (s1.cell (by exact hlb)).trans y1, (s1.cell (by exact hlb)).trans y2, (s1.cell (by exact hlb)).trans y3⟩ (fun hHeld => ?_)
    clear hK K
    try go_frame
    refine wpAnyH_ready (rs := [5]) (by kernel_rfl) (by simp) ?_
    refine AllReadyH.cons (o := ⟨some 12, _, _, _, _, _⟩) rfl (fun K hK => ?_) AllReadyH.nil
    go_simp
    (with_reducible refine (key_w b _).mono ?_)
    rintro e w5 ⟨rfl, hb5⟩
    have s2 := s1.trans (hb5.mono s1.size)
    refine hK.out _ _ ⟨(s2.cell (by exact hkl)).trans k0, (s2.cell (by exact hla)).trans x0, (s2.cell (by exact hla)).trans x1, (s2.cell (by exact hla)).trans x2, (s2.cell (by exact hla)).trans x3, (s2.cell (by exact hlb)).trans y0, (s2.cell (by exact hlb)).trans y1, (s2.cell (by exact hlb)).trans y2, (s2.cell (by exact hlb)).trans y3⟩ (fun hHeld => ?_)
    clear hK K
    try go_frame
    refine t0 6 13 ?_
    go_frame
    refine t0 7 6 ?_
    go_frame
    refine wpAnyH_done (by kernel_rfl) ?_ _
    go_wp2
    go_ret
    rw [HC.out]
    exact ⟨rfl, hX.trans (s2.mono hX.size)⟩
  case' false =>
    have h1' : Op.bytesLess a.key.toList b.key.toList = false := h1
    rw [h1, if_neg Bool.false_ne_true] at HC
    cases h2 : bl b.key a.key
    all_goals
      have he := bl_beq h1
      rw [h2] at HC he
      simp only [Bool.not_true, Bool.not_false] at he
      go_enter Tryz.func90, Tryz.ntmps90
      go_upto_region 1 with fail
      generalize ((w.alloc (.cells #[.string a.key, .int .i64 a.v.k, .float .f64 a.v.n, .string a.v.t] 86)).alloc (.cells #[.string b.key, .int .i64 b.v.k, .float .f64 b.v.n, .string b.v.t] 86)) = wz at *
      have s0 : Below wz.heap.size wz wz.drew := (Below.refl _ _).drew
      refine wp_region_held_drew (S := fun w' => w'.cell? ⟨bk, 0, none⟩ = some (.func (.func 57) #[] #[]) ∧ w'.cell? ⟨w.heap.size, 0, none⟩ = some (.string a.key) ∧ w'.cell? ⟨w.heap.size, 1, none⟩ = some (.int .i64 a.v.k) ∧ w'.cell? ⟨w.heap.size, 2, none⟩ = some (.float .f64 a.v.n) ∧ w'.cell? ⟨w.heap.size, 3, none⟩ = some (.string a.v.t) ∧ w'.cell? ⟨w.heap.size + 1, 0, none⟩ = some (.string b.key) ∧ w'.cell? ⟨w.heap.size + 1, 1, none⟩ = some (.int .i64 b.v.k) ∧ w'.cell? ⟨w.heap.size + 1, 2, none⟩ = some (.float .f64 b.v.n) ∧ w'.cell? ⟨w.heap.size + 1, 3, none⟩ = some (.string b.v.t)) (by kernel_rfl) ⟨k0, x0, x1, x2, x3, y0, y1, y2, y3⟩ (fun hHeld => ?_)
      refine t0 0 7 ?_
      go_frame
      refine t0 1 8 ?_
      go_frame
      refine t0 3 10 ?_
      go_frame
      refine t0 4 11 ?_
      go_frame
      refine wpAnyH_ready (rs := [2]) (by kernel_rfl) (by simp) ?_
      refine AllReadyH.cons (o := ⟨some 9, _, _, _, _, _⟩) rfl (fun K hK => ?_) AllReadyH.nil
      go_simp
      (with_reducible refine (key_w a _).mono ?_)
      rintro e w2 ⟨rfl, hb2⟩
      have s1 := s0.trans (hb2.mono s0.size)
      refine hK.out _ _ ⟨(s1.cell (by exact hkl)).trans k0, (s1.cell (by exact hla)).trans x0, (s1.cell (by exact hla)).trans x1, (s1.cell (by exact hla)).trans x2, (s1.cell (by exact hla)).trans x3, (s1.cell (by exact hlb)).trans y0, (s1.cell (by exact hlb)).trans y1, (s1.cell (by exact hlb)).trans y2, (s1.cell (by exact hlb)).trans y3⟩ (fun hHeld => ?_)
      clear hK K
      try go_frame
      refine wpAnyH_ready (rs := [5]) (by kernel_rfl) (by simp) ?_
      refine AllReadyH.cons (o := ⟨some 12, _, _, _, _, _⟩) rfl (fun K hK => ?_) AllReadyH.nil
      go_simp
      (with_reducible refine (key_w b _).mono ?_)
      rintro e w5 ⟨rfl, hb5⟩
      have s2 := s1.trans (hb5.mono s1.size)
      refine hK.out _ _ ⟨(s2.cell (by exact hkl)).trans k0, (s2.cell (by exact hla)).trans x0, (s2.cell (by exact hla)).trans x1, (s2.cell (by exact hla)).trans x2, (s2.cell (by exact hla)).trans x3, (s2.cell (by exact hlb)).trans y0, (s2.cell (by exact hlb)).trans y1, (s2.cell (by exact hlb)).trans y2, (s2.cell (by exact hlb)).trans y3⟩ (fun hHeld => ?_)
      clear hK K
      try go_frame
      refine t0 6 13 ?_
      go_frame
      refine t0 7 6 ?_
      go_frame
      refine wpAnyH_done (by kernel_rfl) ?_ _
      go_upto_region 3 with fail
      have z2 := s2.size
      replace k0 := (s2.cell (p := ⟨bk, 0, none⟩) hkl).trans k0
      replace x0 := (s2.cell (p := ⟨w.heap.size, 0, none⟩) hla).trans x0
      replace x1 := (s2.cell (p := ⟨w.heap.size, 1, none⟩) hla).trans x1
      replace x2 := (s2.cell (p := ⟨w.heap.size, 2, none⟩) hla).trans x2
      replace x3 := (s2.cell (p := ⟨w.heap.size, 3, none⟩) hla).trans x3
      replace y0 := (s2.cell (p := ⟨w.heap.size + 1, 0, none⟩) hlb).trans y0
      replace y1 := (s2.cell (p := ⟨w.heap.size + 1, 1, none⟩) hlb).trans y1
      replace y2 := (s2.cell (p := ⟨w.heap.size + 1, 2, none⟩) hlb).trans y2
      replace y3 := (s2.cell (p := ⟨w.heap.size + 1, 3, none⟩) hlb).trans y3
      replace hX := hX.trans (s2.mono hX.size)
      replace hkl := Nat.lt_of_lt_of_le hkl z2
      replace hla := Nat.lt_of_lt_of_le hla z2
      replace hlb := Nat.lt_of_lt_of_le hlb z2
      clear s0 s1 s2 hb2 hb5 hHeld z2
      generalize w5 = wy at *
      have s0 : Below wy.heap.size wy wy.drew := (Below.refl _ _).drew
      refine wp_region_held_drew (S := fun w' => w'.cell? ⟨bk, 0, none⟩ = some (.func (.func 57) #[] #[]) ∧ w'.cell? ⟨w.heap.size, 0, none⟩ = some (.string a.key) ∧ w'.cell? ⟨w.heap.size, 1, none⟩ = some (.int .i64 a.v.k) ∧ w'.cell? ⟨w.heap.size, 2, none⟩ = some (.float .f64 a.v.n) ∧ w'.cell? ⟨w.heap.size, 3, none⟩ = some (.string a.v.t) ∧ w'.cell? ⟨w.heap.size + 1, 0, none⟩ = some (.string b.key) ∧ w'.cell? ⟨w.heap.size + 1, 1, none⟩ = some (.int .i64 b.v.k) ∧ w'.cell? ⟨w.heap.size + 1, 2, none⟩ = some (.float .f64 b.v.n) ∧ w'.cell? ⟨w.heap.size + 1, 3, none⟩ = some (.string b.v.t)) (by kernel_rfl) ⟨k0, x0, x1, x2, x3, y0, y1, y2, y3⟩ (fun hHeld => ?_)
      refine t0 0 15 ?_
      go_frame
      refine t0 1 16 ?_
      go_frame
      refine t0 3 18 ?_
      go_frame
      refine t0 4 19 ?_
      go_frame
      refine wpAnyH_ready (rs := [2]) (by kernel_rfl) (by simp) ?_
      refine AllReadyH.cons (o := ⟨some 17, _, _, _, _, _⟩) rfl (fun K hK => ?_) AllReadyH.nil
      go_simp
      (with_reducible refine (key_w a _).mono ?_)
      rintro e w2 ⟨rfl, hb2⟩
      have s1 := s0.trans (hb2.mono s0.size)
      refine hK.out _ _ ⟨(s1.cell (by exact hkl)).trans k0, (s1.cell (by exact hla)).trans x0, (s1.cell (by exact hla)).trans x1, (s1.cell (by exact hla)).trans x2, (s1.cell (by exact hla)).trans x3, (s1.cell (by exact hlb)).trans y0, (s1.cell (by exact hlb)).trans y1, (s1.cell (by exact hlb)).trans y2, (s1.cell (by exact hlb)).trans y3⟩ (fun hHeld => ?_)
      clear hK K
      try go_frame
      refine wpAnyH_ready (rs := [5]) (by kernel_rfl) (by simp) ?_
      refine AllReadyH.cons (o := ⟨some 20, _, _, _, _, _⟩) rfl (fun K hK => ?_) AllReadyH.nil
      go_simp
      (with_reducible refine (key_w b _).mono ?_)
      rintro e w5 ⟨rfl, hb5⟩
      have s2 := s1.trans (hb5.mono s1.size)
      refine hK.out _ _ ⟨(s2.cell (by exact hkl)).trans k0, (s2.cell (by exact hla)).trans x0, (s2.cell (by exact hla)).trans x1, (s2.cell (by exact hla)).trans x2, (s2.cell (by exact hla)).trans x3, (s2.cell (by exact hlb)).trans y0, (s2.cell (by exact hlb)).trans y1, (s2.cell (by exact hlb)).trans y2, (s2.cell (by exact hlb)).trans y3⟩ (fun hHeld => ?_)
      clear hK K
      try go_frame
      refine t0 6 21 ?_
      go_frame
      refine t0 7 14 ?_
      go_frame
      refine wpAnyH_done (by kernel_rfl) ?_ _
      go_wp2
      go_ret
      rw [HC.out]
      exact ⟨rfl, hX.trans (s2.mono hX.size)⟩

set_option maxHeartbeats 1000000 in
theorem cmp_h (a b : Hh) (bk : Nat) (w : World) (hk : w.cell? ⟨bk, 0, none⟩ = some (.func (.func 25) #[] #[])) (hbk : bk < w.heap.size) :
    Calls Tryz.prog 53 #[a.val, b.val, .pointer (some ⟨bk, 0, none⟩)] w fun e w' => e = .returned (.int .i64 (cmpI a.key b.key)) ∧ Below w.heap.size w w' := by
  have hX : Below w.heap.size w ((w.alloc (.cells #[.string a.key, a.hd] 59)).alloc (.cells #[.string b.key, b.hd] 59)) := by go_grown
  have bA : Blk ((w.alloc (.cells #[.string a.key, a.hd] 59)).alloc (.cells #[.string b.key, b.hd] 59)) w.heap.size 59 #[.string a.key, a.hd] := (Blk.new _ _ _).alloc _
  have bB : Blk ((w.alloc (.cells #[.string a.key, a.hd] 59)).alloc (.cells #[.string b.key, b.hd] 59)) (w.heap.size + 1) 59 #[.string b.key, b.hd] := Blk.new' _ _ (by simp)
  have k0 := (hX.cell (p := ⟨bk, 0, none⟩) hbk).trans hk
  have hkl : bk < (((w.alloc (.cells #[.string a.key, a.hd] 59)).alloc (.cells #[.string b.key, b.hd] 59))).heap.size := Nat.lt_of_lt_of_le hbk hX.size
  have hla := bA.lt
  have hlb := bB.lt
  have x0 : (((w.alloc (.cells #[.string a.key, a.hd] 59)).alloc (.cells #[.string b.key, b.hd] 59))).cell? ⟨w.heap.size, 0, none⟩ = some (.string a.key) := bA.cell 0
  have x1 : (((w.alloc (.cells #[.string a.key, a.hd] 59)).alloc (.cells #[.string b.key, b.hd] 59))).cell? ⟨w.heap.size, 1, none⟩ = some (a.hd) := bA.cell 1
  have y0 : (((w.alloc (.cells #[.string a.key, a.hd] 59)).alloc (.cells #[.string b.key, b.hd] 59))).cell? ⟨w.heap.size + 1, 0, none⟩ = some (.string b.key) := bB.cell 0
  have y1 : (((w.alloc (.cells #[.string a.key, a.hd] 59)).alloc (.cells #[.string b.key, b.hd] 59))).cell? ⟨w.heap.size + 1, 1, none⟩ = some (b.hd) := bB.cell 1
  have HC := Lib.hid (show cmpI a.key b.key = if bl a.key b.key = true then -1 else if bl b.key a.key = true then 1 else 0 from rfl)
  clear bA bB
  cases h1 : bl a.key b.key
  case' true =>
    have h1' : Op.bytesLess a.key.toList b.key.toList = true := h1
    rw [h1, if_pos rfl] at HC
    go_enter Tryz.func53, Tryz.ntmps53
    go_upto_region 1 with fail
    generalize ((w.alloc (.cells #[.string a.key, a.hd] 59)).alloc (.cells #[.string b.key, b.hd] 59)) = wz at *
    have s0 : Below wz.heap.size wz wz.drew := (Below.refl _ _).drew
    refine wp_region_held_drew (S := fun w' => w'.cell? ⟨bk, 0, none⟩ = some (.func (.func 25) #[] #[]) ∧ w'.cell? ⟨w.heap.size, 0, none⟩ = some (.string a.key) ∧ w'.cell? ⟨w.heap.size, 1, none⟩ = some (a.hd) ∧ w'.cell? ⟨w.heap.size + 1, 0, none⟩ = some (.string b.key) ∧ w'.cell? ⟨w.heap.size + 1, 1, none⟩ = some (b.hd)) (by kernel_rfl) ⟨k0, x0, x1, y0, y1⟩ (fun hHeld => ?_)
    refine t0 0 7 ?_
    go_frame
    refine t0 1 8 ?_
    go_frame
    refine t0 3 10 ?_
    go_frame
    refine t0 4 11 ?_
    go_frame
    refine wpAnyH_ready (rs := [2]) (by kernel_rfl) (by simp) ?_
    refine AllReadyH.cons (o := ⟨some 9, _, _, _, _, _⟩) rfl (fun K hK => ?_) AllReadyH.nil
    go_simp
    (with_reducible refine (key_h a _).mono ?_)
    rintro e w2 ⟨rfl, hb2⟩
    have s1 := s0.trans (hb2.mono s0.size)
    refine hK.out _ _ ⟨(s1.cell (by exact hkl)).trans k0, (s1.cell (by exact hla)).trans x0, (s1.cell (by exact hla)).trans x1, (s1.cell (by exact hlb)).trans y0, (s1.cell (by exact hlb)).trans y1⟩ (fun hHeld => ?_)
    clear hK K
    try go_frame
    refine wpAnyH_ready (rs := [5]) (by kernel_rfl) (by simp) ?_
    refine AllReadyH.cons (o := ⟨some 12, _, _, _, _, _⟩) rfl (fun K hK => ?_) AllReadyH.nil
    go_simp
    (with_reducible refine (key_h b _).mono ?_)
    rintro e w5 ⟨rfl, hb5⟩
    have s2 := s1.trans (hb5.mono s1.size)
    refine hK.out _ _ ⟨(s2.cell (by exact hkl)).trans k0, (s2.cell (by exact hla)).trans x0, (s2.cell (by exact hla)).trans x1, (s2.cell (by exact hlb)).trans y0, (s2.cell (by exact hlb)).trans y1⟩ (fun hHeld => ?_)
    clear hK K
    try go_frame
    refine t0 6 13 ?_
    go_frame
    refine t0 7 6 ?_
    go_frame
    refine wpAnyH_done (by kernel_rfl) ?_ _
    go_wp2
    go_ret
    rw [HC.out]
    exact ⟨rfl, hX.trans (s2.mono hX.size)⟩
  case' false =>
    have h1' : Op.bytesLess a.key.toList b.key.toList = false := h1
    rw [h1, if_neg Bool.false_ne_true] at HC
    cases h2 : bl b.key a.key
    all_goals
      have he := bl_beq h1
      rw [h2] at HC he
      simp only [Bool.not_true, Bool.not_false] at he
      go_enter Tryz.func53, Tryz.ntmps53
      go_upto_region 1 with fail
      generalize ((w.alloc (.cells #[.string a.key, a.hd] 59)).alloc (.cells #[.string b.key, b.hd] 59)) = wz at *
      have s0 : Below wz.heap.size wz wz.drew := (Below.refl _ _).drew
      refine wp_region_held_drew (S := fun w' => w'.cell? ⟨bk, 0, none⟩ = some (.func (.func 25) #[] #[]) ∧ w'.cell? ⟨w.heap.size, 0, none⟩ = some (.string a.key) ∧ w'.cell? ⟨w.heap.size, 1, none⟩ = some (a.hd) ∧ w'.cell? ⟨w.heap.size + 1, 0, none⟩ = some (.string b.key) ∧ w'.cell? ⟨w.heap.size + 1, 1, none⟩ = some (b.hd)) (by kernel_rfl) ⟨k0, x0, x1, y0, y1⟩ (fun hHeld => ?_)
      refine t0 0 7 ?_
      go_frame
      refine t0 1 8 ?_
      go_frame
      refine t0 3 10 ?_
      go_frame
      refine t0 4 11 ?_
      go_frame
      refine wpAnyH_ready (rs := [2]) (by kernel_rfl) (by simp) ?_
      refine AllReadyH.cons (o := ⟨some 9, _, _, _, _, _⟩) rfl (fun K hK => ?_) AllReadyH.nil
      go_simp
      (with_reducible refine (key_h a _).mono ?_)
      rintro e w2 ⟨rfl, hb2⟩
      have s1 := s0.trans (hb2.mono s0.size)
      refine hK.out _ _ ⟨(s1.cell (by exact hkl)).trans k0, (s1.cell (by exact hla)).trans x0, (s1.cell (by exact hla)).trans x1, (s1.cell (by exact hlb)).trans y0, (s1.cell (by exact hlb)).trans y1⟩ (fun hHeld => ?_)
      clear hK K
      try go_frame
      refine wpAnyH_ready (rs := [5]) (by kernel_rfl) (by simp) ?_
      refine AllReadyH.cons (o := ⟨some 12, _, _, _, _, _⟩) rfl (fun K hK => ?_) AllReadyH.nil
      go_simp
      (with_reducible refine (key_h b _).mono ?_)
      rintro e w5 ⟨rfl, hb5⟩
      have s2 := s1.trans (hb5.mono s1.size)
      refine hK.out _ _ ⟨(s2.cell (by exact hkl)).trans k0, (s2.cell (by exact hla)).trans x0, (s2.cell (by exact hla)).trans x1, (s2.cell (by exact hlb)).trans y0, (s2.cell (by exact hlb)).trans y1⟩ (fun hHeld => ?_)
      clear hK K
      try go_frame
      refine t0 6 13 ?_
      go_frame
      refine t0 7 6 ?_
      go_frame
      refine wpAnyH_done (by kernel_rfl) ?_ _
      go_upto_region 3 with fail
      have z2 := s2.size
      replace k0 := (s2.cell (p := ⟨bk, 0, none⟩) hkl).trans k0
      replace x0 := (s2.cell (p := ⟨w.heap.size, 0, none⟩) hla).trans x0
      replace x1 := (s2.cell (p := ⟨w.heap.size, 1, none⟩) hla).trans x1
      replace y0 := (s2.cell (p := ⟨w.heap.size + 1, 0, none⟩) hlb).trans y0
      replace y1 := (s2.cell (p := ⟨w.heap.size + 1, 1, none⟩) hlb).trans y1
      replace hX := hX.trans (s2.mono hX.size)
      replace hkl := Nat.lt_of_lt_of_le hkl z2
      replace hla := Nat.lt_of_lt_of_le hla z2
      replace hlb := Nat.lt_of_lt_of_le hlb z2
      clear s0 s1 s2 hb2 hb5 hHeld z2
      generalize w5 = wy at *
      have s0 : Below wy.heap.size wy wy.drew := (Below.refl _ _).drew
      refine wp_region_held_drew (S := fun w' => w'.cell? ⟨bk, 0, none⟩ = some (.func (.func 25) #[] #[]) ∧ w'.cell? ⟨w.heap.size, 0, none⟩ = some (.string a.key) ∧ w'.cell? ⟨w.heap.size, 1, none⟩ = some (a.hd) ∧ w'.cell? ⟨w.heap.size + 1, 0, none⟩ = some (.string b.key) ∧ w'.cell? ⟨w.heap.size + 1, 1, none⟩ = some (b.hd)) (by kernel_rfl) ⟨k0, x0, x1, y0, y1⟩ (fun hHeld => ?_)
      refine t0 0 15 ?_
      go_frame
      refine t0 1 16 ?_
      go_frame
      refine t0 3 18 ?_
      go_frame
      refine t0 4 19 ?_
      go_frame
      refine wpAnyH_ready (rs := [2]) (by kernel_rfl) (by simp) ?_
      refine AllReadyH.cons (o := ⟨some 17, _, _, _, _, _⟩) rfl (fun K hK => ?_) AllReadyH.nil
      go_simp
      (with_reducible refine (key_h a _).mono ?_)
      rintro e w2 ⟨rfl, hb2⟩
      have s1 := s0.trans (hb2.mono s0.size)
      refine hK.out _ _ ⟨(s1.cell (by exact hkl)).trans k0, (s1.cell (by exact hla)).trans x0, (s1.cell (by exact hla)).trans x1, (s1.cell (by exact hlb)).trans y0, (s1.cell (by exact hlb)).trans y1⟩ (fun hHeld => ?_)
      clear hK K
      try go_frame
      refine wpAnyH_ready (rs := [5]) (by kernel_rfl) (by simp) ?_
      refine AllReadyH.cons (o := ⟨some 20, _, _, _, _, _⟩) rfl (fun K hK => ?_) AllReadyH.nil
      go_simp
      (with_reducible refine (key_h b _).mono ?_)
      rintro e w5 ⟨rfl, hb5⟩
      have s2 := s1.trans (hb5.mono s1.size)
      refine hK.out _ _ ⟨(s2.cell (by exact hkl)).trans k0, (s2.cell (by exact hla)).trans x0, (s2.cell (by exact hla)).trans x1, (s2.cell (by exact hlb)).trans y0, (s2.cell (by exact hlb)).trans y1⟩ (fun hHeld => ?_)
      clear hK K
      try go_frame
      refine t0 6 21 ?_
      go_frame
      refine t0 7 14 ?_
      go_frame
      refine wpAnyH_done (by kernel_rfl) ?_ _
      go_wp2
      go_ret
      rw [HC.out]
      exact ⟨rfl, hX.trans (s2.mono hX.size)⟩

set_option maxHeartbeats 1000000 in
theorem cmp_s (a b : ByteArray) (bk : Nat) (w : World) (hk : w.cell? ⟨bk, 0, none⟩ = some (.func (.func 55) #[] #[])) (hbk : bk < w.heap.size) :
    Calls Tryz.prog 87 #[.string a, .string b, .pointer (some ⟨bk, 0, none⟩)] w fun e w' => e = .returned (.int .i64 (cmpI a b)) ∧ Below w.heap.size w w' := by
  have k0 := hk
  have HC := Lib.hid (show cmpI a b = if bl a b = true then -1 else if bl b a = true then 1 else 0 from rfl)
  cases h1 : bl a b
  case' true =>
    have h1' : Op.bytesLess a.toList b.toList = true := h1
    rw [h1, if_pos rfl] at HC
    go_enter Tryz.func87, Tryz.ntmps87
    go_upto_region 1 with fail
    refine wp_region_held_drew (S := fun w' => w'.cell? ⟨bk, 0, none⟩ = some (.func (.func 55) #[] #[])) (by kernel_rfl) k0 (fun hHeld => ?_)
    refine t0 0 7 ?_
    go_frame
    refine t0 1 8 ?_
    go_frame
    refine t0 3 10 ?_
    go_frame
    refine t0 4 11 ?_
    go_frame
    refine wpAnyH_ready (rs := [2]) (by kernel_rfl) (by simp) ?_
    refine AllReadyH.cons (o := ⟨some 9, _, _, _, _, _⟩) rfl (fun K hK => ?_) AllReadyH.nil
    go_simp
    (with_reducible refine (key_s a _).mono ?_)
    rintro e w2 ⟨rfl, rfl⟩
    refine hK.out _ _ k0 (fun hHeld => ?_)
    clear hK K
    try go_frame
    refine wpAnyH_ready (rs := [5]) (by kernel_rfl) (by simp) ?_
    refine AllReadyH.cons (o := ⟨some 12, _, _, _, _, _⟩) rfl (fun K hK => ?_) AllReadyH.nil
    go_simp
    (with_reducible refine (key_s b _).mono ?_)
    rintro e w5 ⟨rfl, rfl⟩
    refine hK.out _ _ k0 (fun hHeld => ?_)
    clear hK K
    try go_frame
    refine t0 6 13 ?_
    go_frame
    refine t0 7 6 ?_
    go_frame
    refine wpAnyH_done (by kernel_rfl) ?_ _
    go_wp2
    go_ret
    rw [HC.out]
    exact ⟨rfl, (Below.refl _ _).drew⟩
  case' false =>
    have h1' : Op.bytesLess a.toList b.toList = false := h1
    rw [h1, if_neg Bool.false_ne_true] at HC
    cases h2 : bl b a
    all_goals
      have he := bl_beq h1
      rw [h2] at HC he
      simp only [Bool.not_true, Bool.not_false] at he
      go_enter Tryz.func87, Tryz.ntmps87
      go_upto_region 1 with fail
      refine wp_region_held_drew (S := fun w' => w'.cell? ⟨bk, 0, none⟩ = some (.func (.func 55) #[] #[])) (by kernel_rfl) k0 (fun hHeld => ?_)
      refine t0 0 7 ?_
      go_frame
      refine t0 1 8 ?_
      go_frame
      refine t0 3 10 ?_
      go_frame
      refine t0 4 11 ?_
      go_frame
      refine wpAnyH_ready (rs := [2]) (by kernel_rfl) (by simp) ?_
      refine AllReadyH.cons (o := ⟨some 9, _, _, _, _, _⟩) rfl (fun K hK => ?_) AllReadyH.nil
      go_simp
      (with_reducible refine (key_s a _).mono ?_)
      rintro e w2 ⟨rfl, rfl⟩
      refine hK.out _ _ k0 (fun hHeld => ?_)
      clear hK K
      try go_frame
      refine wpAnyH_ready (rs := [5]) (by kernel_rfl) (by simp) ?_
      refine AllReadyH.cons (o := ⟨some 12, _, _, _, _, _⟩) rfl (fun K hK => ?_) AllReadyH.nil
      go_simp
      (with_reducible refine (key_s b _).mono ?_)
      rintro e w5 ⟨rfl, rfl⟩
      refine hK.out _ _ k0 (fun hHeld => ?_)
      clear hK K
      try go_frame
      refine t0 6 13 ?_
      go_frame
      refine t0 7 6 ?_
      go_frame
      refine wpAnyH_done (by kernel_rfl) ?_ _
      go_upto_region 3 with fail
      refine wp_region_held_drew (S := fun w' => w'.cell? ⟨bk, 0, none⟩ = some (.func (.func 55) #[] #[])) (by kernel_rfl) k0 (fun hHeld => ?_)
      refine t0 0 15 ?_
      go_frame
      refine t0 1 16 ?_
      go_frame
      refine t0 3 18 ?_
      go_frame
      refine t0 4 19 ?_
      go_frame
      refine wpAnyH_ready (rs := [2]) (by kernel_rfl) (by simp) ?_
      refine AllReadyH.cons (o := ⟨some 17, _, _, _, _, _⟩) rfl (fun K hK => ?_) AllReadyH.nil
      go_simp
      (with_reducible refine (key_s a _).mono ?_)
      rintro e w2 ⟨rfl, rfl⟩
      refine hK.out _ _ k0 (fun hHeld => ?_)
      clear hK K
      try go_frame
      refine wpAnyH_ready (rs := [5]) (by kernel_rfl) (by simp) ?_
      refine AllReadyH.cons (o := ⟨some 20, _, _, _, _, _⟩) rfl (fun K hK => ?_) AllReadyH.nil
      go_simp
      (with_reducible refine (key_s b _).mono ?_)
      rintro e w5 ⟨rfl, rfl⟩
      refine hK.out _ _ k0 (fun hHeld => ?_)
      clear hK K
      try go_frame
      refine t0 6 21 ?_
      go_frame
      refine t0 7 14 ?_
      go_frame
      refine wpAnyH_done (by kernel_rfl) ?_ _
      go_wp2
      go_ret
      rw [HC.out]
      exact ⟨rfl, (Below.refl _ _).drew.drew⟩

end Go.Proofs.YtipacjbegfingaaGreat
