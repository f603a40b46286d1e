/- The walk of WireSizes. -/
import Derived.Test.YtglddefjmnjgdaaWd
namespace Go.Proofs.Ytglddefjmnjgdaa
open Go.RowKit Fl

def gl (y : Nat) : Nat := if y = 0 then 0 else (encU y).length
theorem gl_step {y : Nat} (h : 0 < y) : gl y = 1 + gl (y / 128) := by
  unfold gl
  rw [if_neg (by omega)]
  by_cases h2 : y < 128
  · rw [encU_small h2, if_pos (by omega)]; rfl
  · rw [encU_big h2, if_neg (by omega), List.length_cons, Nat.add_comm]
theorem encU_gl (z : Nat) : (encU z).length = 1 + gl (z / 128) := by
  unfold gl
  by_cases h2 : z < 128
  · rw [encU_small h2, if_pos (by omega)]; rfl
  · rw [encU_big h2, if_neg (by omega), List.length_cons, Nat.add_comm]
/-- a number's amount -/
def amt (n : Int) : Nat := if 0 ≤ n then n.toNat else (-n - 1).toNat
theorem zig_amt (n : Int) : zig n / 128 = amt n / 64 := by
  unfold zig amt
  split <;> omega
theorem encI_gl (n : Int) : (encI n).length = 1 + gl (amt n / 64) := by
  unfold encI
  rw [encU_gl, zig_amt]
theorem amt_lt {n : Int} (h1 : -9223372036854775808 ≤ n) (h2 : n ≤ 9223372036854775807) : amt n < 9223372036854775808 := by
  unfold amt; split <;> omega
theorem gl_le {y : Nat} (h : y < 9223372036854775808) : gl y ≤ 9 := by
  unfold gl
  split
  · omega
  · exact encU_len _ (by simpa using h) (by omega)

def LoopS (m : Nat) (w : World) (u k : Value) (wr : World) : Prop := ∃ y j : Nat, w = wr ∧ u = .int .u64 (y : Int) ∧ k = .int .i64 (j : Int) ∧ y < 9223372036854775808 ∧ j ≤ 20 ∧ j + gl y = m
def LoopT (m : Nat) (w : World) (k u : Value) (wr : World) : Prop := ∃ y j : Nat, w = wr ∧ u = .int .i64 (y : Int) ∧ k = .int .i64 (j : Int) ∧ y < 9223372036854775808 ∧ j ≤ 20 ∧ j + gl y = m

set_option maxRecDepth 100000 in
set_option maxHeartbeats 8000000 in
theorem sizes_walk (n : Int) (s : ByteArray) (x : Nat) (w : World) (hi64 : i64ok n) (hs : s.size ≤ maxLen) (hx : x < 18446744073709551616) :
    Calls Try.prog 4 #[.int .i64 n, .string s, .float .f64 x] w fun e w' => e = .returned (.bool true) ∧ Below w.heap.size w w' := by
  obtain ⟨hn1, hn2⟩ := hi64
  unfold maxLen at hs
  by_cases h2 : 20000 < s.size
  · have hd1 : decide ((20000 : Int) < (s.size : Int)) = true := by simp; omega
    go_enter Try.func4, Try.ntmps4
    go_wp2_with fail
    refine (first_any _).mono ?_
    rintro e w1 ⟨rfl, hb1⟩
    go_wp2_with fail
    refine (first_any _).mono ?_
    rintro e w2 ⟨rfl, hb2⟩
    go_wp2
    go_ret
    exact ⟨rfl, hb1.trans (hb2.mono hb1.size)⟩
  · have hd1 : decide ((20000 : Int) < (s.size : Int)) = false := by simp; omega
    have hss : s.size ≤ 20000 := by omega
    clear h2
    have hal := amt_lt hn1 hn2
    have hgl := gl_le (y := amt n / 64) (by omega)
    have HI := Lib.hid (encI_gl n)
    have hgt := gl_le (y := s.size / 64) (by omega)
    have HT : RowKit.Hid ((encT s.data.toList).length = 1 + gl (s.size / 64) + s.size) := by
      show _ = _
      unfold encT
      have e : s.data.toList.length = s.size := Array.length_toList (xs := s.data)
      rw [List.length_append, e, encI_gl]
      congr 1
    have hcase : n < 0 ∨ 0 ≤ n := by omega
    rcases hcase with hneg | hneg
    all_goals (
      first
        | (have hd2 : decide (n < 0) = true := by simp; omega
           have hu : bits .xor .u64 IntKind.u64.max (IntKind.u64.wrap n) = ((amt n : Nat) : Int) := by
             have e : IntKind.u64.wrap n = ((18446744073709551616 + n).toNat : Int) := by rw [IntKind.wrap_u64]; omega
             rw [e, xor_max _ (by omega)]
             unfold amt
             rw [if_neg (by omega)]
             omega)
        | (have hd2 : decide (n < 0) = false := by simp; omega
           have hu : IntKind.u64.wrap n = ((amt n : Nat) : Int) := by
             rw [IntKind.wrap_u64]
             unfold amt
             rw [if_pos (by omega)]
             omega)
      generalize amt n = a at *
      have hwa : IntKind.u64.wrap ((a : Int) / 64) = (a : Int) / 64 := by rw [IntKind.wrap_u64]; omega
      go_enter Try.func4, Try.ntmps4
      go_wp2_with fail
      refine (first_any _).mono ?_
      rintro e w1 ⟨rfl, hb1⟩
      go_wp2_with fail
      refine (wnew _).mono ?_
      rintro e w2 ⟨rfl, hw2⟩
      have hW2 := Wr.new w1
      rw [hw2] at hW2
      have hb2 : Below w.heap.size w w2 := by rw [← hw2]; exact hb1.alloc hb1.size _
      have hg := hb1.size
      generalize w1.heap.size = g at *
      have hlt2 := hW2.lt
      clear hw2 hb1
      go_wp2_with fail
      refine (wint _ _ _ _ _ _ hW2 (by omega) hn1 hn2 (by simp)).mono ?_
      rintro e w3 ⟨rfl, v3, hW3, hf3⟩
      have hb3 := hb2.trans ((hf3.below hW2).mono hg)
      have hz3 := hf3.size
      rw [List.nil_append] at hW3
      clear hW2 hf3
      go_wp2_with fail
      clear hu hwa
      go_loopw [8, 9] (fun u k wr => LoopS (1 + gl (a / 64)) w3 u k wr) (fun u _ _ => (intOf u).toNat)
      case atStart => exact ⟨a / 64, 1, rfl, by go_num, rfl, by omega, by omega, rfl⟩
      case round =>
        obtain ⟨y, j, rfl, rfl, rfl, hy, hj, hm⟩ := hrel
        have hyl := gl_le hy
        by_cases hpos : 0 < y
        · have hst := gl_step hpos
          have hd3 : decide ((0 : Int) < (y : Int)) = true := by simp; omega
          go_wp2
          go_roundw
          case rel => exact ⟨y / 128, j + 1, rfl, by go_num, by go_num, by omega, by omega, by omega⟩
          case measure => simp [intOf]; omega
        · obtain rfl : y = 0 := by omega
          have hg0 : gl 0 = 0 := rfl
          rw [hg0, Nat.add_zero] at hm
          have hj1 : (encI n).length = j := by rw [HI.out, ← hm]
          have HJ := Lib.hid hj1
          have hle10 : (encI n).length ≤ 20 := by omega
          clear hj1 hm hg0 hyl hgl
          generalize encI n = E at *
          go_wp2_with fail
          refine (wbytes _ _ _ _ _ hW3 (by omega)).mono ?_
          rintro e w4 ⟨A4, c4, rfl, _, _, _, hb4⟩
          rw [HJ.out]
          have hW4 := hW3.below hb4
          have hb5 := hb3.trans (hb4.mono (by omega))
          have hz4 := hb4.size
          clear hW3 hb4 hb3
          have hq1 : ((j : Int) != (j : Int)) = false := by simp
          go_wp2_with fail
          refine (wfloat _ _ _ _ _ _ hW4 (by omega) hx (by omega)).mono ?_
          rintro e w5 ⟨rfl, v5, hW5, hf5⟩
          have hb6 := hb5.trans ((hf5.below hW4).mono hg)
          have hz5 := hf5.size
          clear hW4 hf5 hb5
          have hl8 := leB_len 8 (canonB x)
          generalize leB 8 (canonB x) = F at *
          have HL8 := Lib.hid hl8
          have hl8a : F.length ≤ 8 := by omega
          clear hl8
          go_wp2_with fail
          refine (wflag _ _ _ _ _ _ hW5 (by omega) (by rw [List.length_append]; omega)).mono ?_
          rintro e w6 ⟨rfl, v6, hW6, hf6⟩
          have hb7 := hb6.trans ((hf6.below hW5).mono hg)
          have hz6 := hf6.size
          clear hW5 hf6 hb6
          have hl9 : ((E ++ F) ++ encB true).length = j + 9 := by rw [List.length_append, List.length_append, HJ.out, HL8.out]; rfl
          generalize (E ++ F) ++ encB true = G at *
          have HG := Lib.hid hl9
          have hl9a : G.length ≤ 29 := by omega
          clear hl9
          go_wp2_with fail
          refine (wbytes _ _ _ _ _ hW6 (by omega)).mono ?_
          rintro e w7 ⟨A7, c7, rfl, _, _, _, hb8⟩
          rw [HG.out]
          have hW7 := hW6.below hb8
          have hb9 := hb7.trans (hb8.mono (by omega))
          have hz7 := hb8.size
          clear hW6 hb8 hb7
          have hq2 : (((j + 9 : Nat) : Int) != (j : Int) + 9) = false := by simp
          go_wp2_with fail
          refine (wtext _ _ _ _ _ _ hW7 (by omega) (by omega)).mono ?_
          rintro e w8 ⟨rfl, v8, hW8, hf8⟩
          have hb10 := hb9.trans ((hf8.below hW7).mono hg)
          have hz8 := hf8.size
          clear hW7 hf8 hb9
          go_wp2_with fail
          go_loopw [10, 11] (fun k u wr => LoopT (1 + gl (s.size / 64)) w8 k u wr) (fun _ u _ => (intOf u).toNat)
          case atStart => exact ⟨s.size / 64, 1, rfl, by go_num, rfl, by omega, by omega, rfl⟩
          case round =>
            obtain ⟨y, i, rfl, rfl, rfl, hy, hi, hm⟩ := hrel
            have hyl := gl_le hy
            by_cases hpos : 0 < y
            · have hst := gl_step hpos
              have hd3 : decide ((0 : Int) < (y : Int)) = true := by simp; omega
              go_wp2
              go_roundw
              case rel => exact ⟨y / 128, i + 1, rfl, by go_num, by go_num, by omega, by omega, by omega⟩
              case measure => simp [intOf]; omega
            · obtain rfl : y = 0 := by omega
              have hg0 : gl 0 = 0 := rfl
              rw [hg0, Nat.add_zero] at hm
              have hi1 : (encT s.data.toList).length = i + s.size := by rw [HT.out, ← hm]
              have hl10 : (G ++ encT s.data.toList).length = j + 9 + i + s.size := by rw [List.length_append, HG.out, hi1]; omega
              generalize G ++ encT s.data.toList = H at *
              have HH := Lib.hid hl10
              have hl10a : H.length ≤ 30000 := by omega
              clear hl10 hi1 hm hg0 hyl hgt HT
              go_wp2_with (first
                | ((with_reducible refine (first_any _).mono ?_)
                   rintro e w9 ⟨rfl, hb11⟩
                   have hW9 := hW8.below hb11
                   have hb12 := hb10.trans (hb11.mono hb10.size)
                   have hz9 := hb11.size)
                | ((with_reducible refine (wbytes _ _ _ _ _ hW9 (by omega)).mono ?_)
                   rintro e w10 ⟨A10, c10, rfl, _, _, _, hb13⟩
                   rw [HH.out]
                   have hb14 := hb12.trans (hb13.mono hb12.size)))
              go_ret
              exact ⟨ret_bool (by simp), hb14⟩)
end Go.Proofs.Ytglddefjmnjgdaa
