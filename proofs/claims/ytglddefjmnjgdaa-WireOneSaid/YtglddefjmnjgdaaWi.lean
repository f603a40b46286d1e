/- The walk of (*wire.Writer).Int. -/
import Derived.Test.YtglddefjmnjgdaaWr
import Derived.WalkKit
import Derived.WalkSpells
import Derived.WalkLawsBesides
import Derived.Deep.QuietTactic
import Derived.BigQuiet
import Derived.Lib.Hide
import Derived.Laws.BitsAllLaws
import Derived.Laws.Wrap64
namespace Go.Proofs.Ytglddefjmnjgdaa
open Go.RowKit

/-- what a function of a writer leaves -/
def WrPost (w : World) (B g : Nat) (v : Value) (bs : List UInt8) (more : List UInt8) : Ending → World → Prop :=
  fun e w' => e = .returned (.tuple #[]) ∧ ∃ v', Wr w' B g v' (bs ++ more) ∧ Foot w w' g v v'

theorem or_byte (k : Nat) : bits .or .u8 (IntKind.u8.wrap (k : Int)) 128 = (((k % 128 + 128).toUInt8.toNat : Nat) : Int) := by
  have h : ∀ x : Fin 256, (x.val ||| 128) = x.val % 128 + 128 := by decide +kernel
  have h1 := h ⟨k % 256, Nat.mod_lt _ (by omega)⟩
  simp only at h1
  have e : IntKind.u8.wrap (k : Int) = ((k % 256 : Nat) : Int) := by rw [IntKind.wrap_u8']; omega
  rw [e, show (128 : Int) = ((128 : Nat) : Int) from rfl, Go.u8_or_nat _ _ (Nat.mod_lt _ (by omega)) (by omega), h1]
  congr 1
  show _ = (k % 128 + 128) % 256
  omega
theorem or_byte' (k : Nat) : bytesV [(k % 128 + 128).toUInt8] = [.int .u8 (bits .or .u8 ((k : Int) % 256) 128)] := by
  rw [← IntKind.wrap_u8', or_byte]; rfl
theorem low_byte (k : Nat) (h : k < 128) : bytesV [k.toUInt8] = [.int .u8 (k : Int)] := by
  show [Value.int .u8 ((k % 256 : Nat) : Int)] = _
  rw [Nat.mod_eq_of_lt (by omega)]
theorem xor_max (b : Nat) (h : b < 18446744073709551616) : bits .xor .u64 IntKind.u64.max (b : Int) = ((18446744073709551615 - b : Nat) : Int) := by
  have e : IntKind.u64.max = ((18446744073709551615 : Nat) : Int) := rfl
  rw [e, Go.u64_xor_nat _ _ (by omega) h]
  congr 1
  have h1 : (BitVec.allOnes 64 ^^^ BitVec.ofNat 64 b).toNat = 18446744073709551615 ^^^ b := by
    rw [BitVec.toNat_xor, BitVec.toNat_allOnes, BitVec.toNat_ofNat, Nat.mod_eq_of_lt h]
  rw [← h1, BitVec.allOnes_xor, BitVec.toNat_not, BitVec.toNat_ofNat, Nat.mod_eq_of_lt h]
theorem zig_pos {n : Int} (h : 0 ≤ n) (h2 : n ≤ 9223372036854775807) : IntKind.u64.wrap (IntKind.u64.wrap n * 2) = ((zig n : Nat) : Int) := by
  unfold zig
  rw [if_pos h, IntKind.wrap_u64, IntKind.wrap_u64]
  omega
theorem zig_neg {n : Int} (h : n < 0) (h1 : -9223372036854775808 ≤ n) : bits .xor .u64 IntKind.u64.max (IntKind.u64.wrap (IntKind.u64.wrap n * 2)) = ((zig n : Nat) : Int) := by
  have e : IntKind.u64.wrap (IntKind.u64.wrap n * 2) = ((18446744073709551616 + 2 * n).toNat : Int) := by
    rw [IntKind.wrap_u64, IntKind.wrap_u64]
    omega
  rw [e, xor_max _ (by omega)]
  unfold zig
  rw [if_neg (by omega)]
  omega

/-- the loop of Int -/
def IntRel (w : World) (B g : Nat) (v : Value) (bs : List UInt8) (n : Int) (u : Value) (wr : World) : Prop :=
  ∃ (k : Nat) (pre : List UInt8) (v1 : Value), u = .int .u64 k ∧ k < 18446744073709551616 ∧ pre ++ encU k = encI n ∧ Wr wr B g v1 (bs ++ pre) ∧ Foot w wr g v v1

set_option maxRecDepth 100000 in
set_option maxHeartbeats 4000000 in
theorem wint (g : Nat) (n : Int) (v : Value) (bs : List UInt8) (B : Nat) (w : World) (hw : Wr w B g v bs) (hB : B ≤ w.heap.size) (hn1 : -9223372036854775808 ≤ n) (hn2 : n ≤ 9223372036854775807) (hlen : bs.length + 10 ≤ 1000000000000) :
    Calls Try.prog 18 #[.pointer (some ⟨g, 0, none⟩), .int .i64 n] w (WrPost w B g v bs (encI n)) := by
  obtain ⟨i0, hi0, hz0, hz1, hz2⟩ := info_parts u8_info
  have hzl := zig_lt hn1 hn2
  have hel := encI_len hn1 hn2
  have hcase : n < 0 ∨ 0 ≤ n := by omega
  rcases hcase with hneg | hneg
  all_goals (
    go_enter Try.func18, Try.ntmps18
    go_wp2
    go_loopw [4] (fun u wr => IntRel w B g v bs n u wr) (fun u _ => (intOf u).toNat)
    case atStart =>
      refine ⟨zig n, [], v, ?_, hzl, rfl, by simpa using hw, Foot.refl _ _ _⟩
      first
        | rw [zig_neg hneg hn1]
        | (have e := zig_pos hneg hn2
           rw [show IntKind.u64.wrap n = n from by rw [IntKind.wrap_u64]; omega, show IntKind.u64.wrap (n * 2) = n * 2 from by rw [IntKind.wrap_u64]; omega] at e
           rw [e])
    case round =>
      obtain ⟨k, pre, v1, rfl, hk, henc, hwr, hf⟩ := hrel
      have hzz := hf.size
      have hbl := hwr.blk
      have hgl := hbl.lt
      have hc0 : wr.cell? ⟨g, 0, none⟩ = some v1 := hbl.cell 0
      have hfz : wr.frozen? ⟨g, 0, none⟩ = false := hbl.frozen 0
      have hpre : pre.length + (encU k).length = (encI n).length := by rw [← henc, List.length_append]
      by_cases hbig : k < 128
      · have h1 : encU k = [k.toUInt8] := encU_small hbig
        go_wp2_with (first
          | (at_builtin
             refine wpList_append_any _ rfl (.tmp 32) (.tmp 35) _ rfl B 5 i0 _ 1 1 Try.underlying31 hi0 hz0 hz1 hz2 rfl (by omega) v1 _ (bytesV (bs ++ pre)) (by rfl) (hwr.row.alloc _) (wr.heap.size + 1) (some ⟨wr.heap.size, 0, none⟩) 1 1 (bytesV [k.toUInt8]) (by rfl)
               (by rw [low_byte k hbig]; exact reads_new wr 5 _ 1 rfl) (bytesV_one _) (by unfold maxLen; simp; omega) (by simp; omega) (by simp; omega) ?_
             intro v2 w1 hown1 hg1 hat1
             obtain ⟨A2, c2, rfl, hA1, hA2⟩ := own_form hown1
             obtain ⟨hm1, hm2⟩ := hwr.mid ((Below.refl _ _).alloc (Nat.le_refl _) _) hg1))
        have hap := hwr.app (more := [k.toUInt8]) ((Below.refl _ _).alloc (Nat.le_refl _) _) hown1 hg1 hat1
        rw [List.length_append] at hap
        rw [← henc, h1]
        go_end0
        rw [List.append_assoc] at hap
        exact ⟨rfl, _, hap.1, hf.trans hap.2⟩
      · have h1 := encU_big hbig
        go_wp2_with (first
          | (at_builtin
             refine wpList_append_any _ rfl (.tmp 18) (.tmp 22) _ rfl B 5 i0 _ 1 1 Try.underlying31 hi0 hz0 hz1 hz2 rfl (by omega) v1 _ (bytesV (bs ++ pre)) (by rfl) (hwr.row.alloc _) (wr.heap.size + 1) (some ⟨wr.heap.size, 0, none⟩) 1 1 (bytesV [(k % 128 + 128).toUInt8]) (by rfl)
               (by rw [or_byte' k]; exact reads_new wr 5 _ 1 rfl) (bytesV_one _) (by unfold maxLen; simp; omega) (by simp; omega) (by simp; omega) ?_
             intro v2 w1 hown1 hg1 hat1
             obtain ⟨A2, c2, rfl, hA1, hA2⟩ := own_form hown1
             obtain ⟨hm1, hm2⟩ := hwr.mid ((Below.refl _ _).alloc (Nat.le_refl _) _) hg1))
        have hap := hwr.app (more := [(k % 128 + 128).toUInt8]) ((Below.refl _ _).alloc (Nat.le_refl _) _) hown1 hg1 hat1
        go_roundw
        rw [List.length_append] at hap
        case rel =>
          refine ⟨k / 128, pre ++ [(k % 128 + 128).toUInt8], _, ?_, by omega, ?_, ?_, hf.trans hap.2⟩
          · go_num
          · rw [List.append_assoc, ← henc, h1]; rfl
          · rw [← List.append_assoc]; exact hap.1
        case measure => simp [intOf]; omega)
end Go.Proofs.Ytglddefjmnjgdaa
