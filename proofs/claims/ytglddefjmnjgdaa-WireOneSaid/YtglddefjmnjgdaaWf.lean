/- The walks of the other functions of a writer: NewWriter, Flag, Float, Text, Bytes. -/
import Derived.Test.YtglddefjmnjgdaaWi
import Derived.Test.YtglddefjmnjgdaaPn
namespace Go.Proofs.Ytglddefjmnjgdaa
open Go.RowKit Fl

set_option maxHeartbeats 4000000 in
theorem wnew (w : World) :
    Calls Try.prog 13 #[] w fun e w' => e = .returned (.pointer (some ⟨w.heap.size, 0, none⟩)) ∧ w.alloc (.cells #[.slice none 0 0] 65) = w' := by
  go_enter Try.func13, Try.ntmps13
  go_wp2
  go_ret
  exact ⟨rfl, rfl⟩

set_option maxRecDepth 100000 in
set_option maxHeartbeats 4000000 in
theorem wflag (g : Nat) (b : Bool) (v : Value) (bs : List UInt8) (B : Nat) (w : World) (hw : Wr w B g v bs) (hB : B ≤ w.heap.size) (hlen : bs.length + 1 ≤ 1000000000000) :
    Calls Try.prog 20 #[.pointer (some ⟨g, 0, none⟩), .bool b] w (WrPost w B g v bs (encB b)) := by
  obtain ⟨i0, hi0, hz0, hz1, hz2⟩ := info_parts u8_info
  have hbl := hw.blk
  have hgl := hbl.lt
  have hc0 : w.cell? ⟨g, 0, none⟩ = some v := hbl.cell 0
  have hfz : w.frozen? ⟨g, 0, none⟩ = false := hbl.frozen 0
  cases b
  · go_enter Try.func20, Try.ntmps20
    go_wp2_with (first
          | (at_builtin
             refine wpList_append_any _ rfl (.tmp 18) (.tmp 19) _ rfl B 5 i0 _ 1 1 Try.underlying31 hi0 hz0 hz1 hz2 rfl (by omega) v _ (bytesV bs) (by rfl) (hw.row.alloc _) (w.heap.size + 1) (some ⟨w.heap.size, 0, none⟩) 1 1 (bytesV [0]) (by rfl)
               (reads_new w 5 _ 1 rfl) (bytesV_one _) (by unfold maxLen; simp; omega) (by simp; omega) (by simp; omega) ?_
             intro v2 w1 hown1 hg1 hat1
             obtain ⟨A2, c2, rfl, hA1, hA2⟩ := own_form hown1
             obtain ⟨hm1, hm2⟩ := hw.mid ((Below.refl _ _).alloc (Nat.le_refl _) _) hg1))
    have hap := hw.app (more := [0]) ((Below.refl _ _).alloc (Nat.le_refl _) _) hown1 hg1 hat1
    go_end0
    exact ⟨rfl, _, hap.1, hap.2⟩
  · go_enter Try.func20, Try.ntmps20
    go_wp2_with (first
          | (at_builtin
             refine wpList_append_any _ rfl (.tmp 9) (.tmp 10) _ rfl B 5 i0 _ 1 1 Try.underlying31 hi0 hz0 hz1 hz2 rfl (by omega) v _ (bytesV bs) (by rfl) (hw.row.alloc _) (w.heap.size + 1) (some ⟨w.heap.size, 0, none⟩) 1 1 (bytesV [1]) (by rfl)
               (reads_new w 5 _ 1 rfl) (bytesV_one _) (by unfold maxLen; simp; omega) (by simp; omega) (by simp; omega) ?_
             intro v2 w1 hown1 hg1 hat1
             obtain ⟨A2, c2, rfl, hA1, hA2⟩ := own_form hown1
             obtain ⟨hm1, hm2⟩ := hw.mid ((Below.refl _ _).alloc (Nat.le_refl _) _) hg1))
    have hap := hw.app (more := [1]) ((Below.refl _ _).alloc (Nat.le_refl _) _) hown1 hg1 hat1
    refine bodyPost_ret (results_none rfl _ _ _) rfl ?_
    exact ⟨rfl, _, hap.1, hap.2⟩

theorem mod_byte (k : Nat) : bytesV [(k % 256).toUInt8] = [.int .u8 ((k : Int) % 256)] := by
  show [Value.int .u8 ((k % 256 % 256 : Nat) : Int)] = _
  rw [Nat.mod_mod, Int.natCast_emod]; rfl

/-- the loop of Float -/
def FloatRel (w : World) (B g : Nat) (v : Value) (bs : List UInt8) (x : Nat) (u i : Value) (wr : World) : Prop :=
  ∃ (j k : Nat) (pre : List UInt8) (v1 : Value), j ≤ 8 ∧ i = .int .i64 j ∧ u = .int .u64 k ∧ k < 18446744073709551616 ∧ pre.length = j ∧ pre ++ leB (8 - j) k = leB 8 x ∧ Wr wr B g v1 (bs ++ pre) ∧ Foot w wr g v v1

set_option maxRecDepth 100000 in
set_option maxHeartbeats 4000000 in
theorem wfloat (g : Nat) (a : Nat) (v : Value) (bs : List UInt8) (B : Nat) (w : World) (hw : Wr w B g v bs) (hB : B ≤ w.heap.size) (ha : a < 18446744073709551616) (hlen : bs.length + 8 ≤ 1000000000000) :
    Calls Try.prog 19 #[.pointer (some ⟨g, 0, none⟩), .float .f64 a] w (WrPost w B g v bs (leB 8 (canonB a))) := by
  obtain ⟨i0, hi0, hz0, hz1, hz2⟩ := info_parts u8_info
  have hcan : canonB a < 18446744073709551616 := by unfold canonB; split <;> omega
  go_enter Try.func19, Try.ntmps19
  go_wp2_with ((with_reducible refine (nbits _ _).mono ?_); rintro e w' ⟨rfl, rfl⟩)
  go_loopw [4, 7] (fun u i wr => FloatRel w B g v bs (canonB a) u i wr) (fun _ i _ => 8 - (intOf i).toNat)
  case atStart => exact ⟨0, _, [], v, by omega, rfl, rfl, hcan, rfl, rfl, by simpa using hw, Foot.refl _ _ _⟩
  case round =>
    obtain ⟨j, k, pre, v1, hj, rfl, rfl, hk, hpl, henc, hwr, hf⟩ := hrel
    have hzz := hf.size
    have hbl := hwr.blk
    have hgl := hbl.lt
    have hc0 : wr.cell? ⟨g, 0, none⟩ = some v1 := hbl.cell 0
    have hfz : wr.frozen? ⟨g, 0, none⟩ = false := hbl.frozen 0
    by_cases hlt : j < 8
    · go_wp2_with (first
          | (at_builtin
             refine wpList_append_any _ rfl (.tmp 13) (.tmp 16) _ rfl B 5 i0 _ 1 1 Try.underlying31 hi0 hz0 hz1 hz2 rfl (by omega) v1 _ (bytesV (bs ++ pre)) (by rfl) (hwr.row.alloc _) (wr.heap.size + 1) (some ⟨wr.heap.size, 0, none⟩) 1 1 (bytesV [(k % 256).toUInt8]) (by rfl)
               (by rw [mod_byte k]; exact reads_new wr 5 _ 1 rfl) (bytesV_one _) (by unfold maxLen; simp; omega) (by simp; omega) (by simp; omega) ?_
             intro v2 w1 hown1 hg1 hat1
             obtain ⟨A2, c2, rfl, hA1, hA2⟩ := own_form hown1
             obtain ⟨hm1, hm2⟩ := hwr.mid ((Below.refl _ _).alloc (Nat.le_refl _) _) hg1))
      have hap := hwr.app (more := [(k % 256).toUInt8]) ((Below.refl _ _).alloc (Nat.le_refl _) _) hown1 hg1 hat1
      rw [List.length_append, hpl] at hap
      go_roundw
      case rel =>
        refine ⟨j + 1, k / 256, pre ++ [(k % 256).toUInt8], _, by omega, by go_num, ?_, by omega, by simp [hpl], ?_, ?_, hf.trans hap.2⟩
        · go_num
        · rw [List.append_assoc, ← henc, show 8 - j = (8 - (j + 1)) + 1 from by omega]; rfl
        · rw [← List.append_assoc]; exact hap.1
      case measure => simp [intOf]; omega
    · obtain rfl : j = 8 := by omega
      have hen : pre = leB 8 (canonB a) := by simpa [leB] using henc
      subst hen
      go_wp2
      go_end0
      exact ⟨rfl, _, hwr, hf⟩

set_option maxRecDepth 100000 in
set_option maxHeartbeats 4000000 in
theorem wtext (g : Nat) (s : ByteArray) (v : Value) (bs : List UInt8) (B : Nat) (w : World) (hw : Wr w B g v bs) (hB : B ≤ w.heap.size) (hlen : bs.length + 10 + s.size ≤ 1000000000000) :
    Calls Try.prog 21 #[.pointer (some ⟨g, 0, none⟩), .string s] w (WrPost w B g v bs (encT s.data.toList)) := by
  obtain ⟨i0, hi0, hz0, hz1, hz2⟩ := info_parts u8_info
  have hel : (encI (s.size : Int)).length ≤ 10 := encI_len (by omega) (by omega)
  go_enter Try.func21, Try.ntmps21
  go_wp2_with fail
  refine (wint g _ v bs B w hw hB (by omega) (by omega) (by omega)).mono ?_
  rintro e w1 ⟨rfl, v1, hw1, hf1⟩
  have hzz := hf1.size
  have hbl := hw1.blk
  have hgl := hbl.lt
  have hc0 : w1.cell? ⟨g, 0, none⟩ = some v1 := hbl.cell 0
  have hfz : w1.frozen? ⟨g, 0, none⟩ = false := hbl.frozen 0
  go_wp2_with (first
          | (at_builtin
             refine wpList_append_str _ rfl (.tmp 12) (.tmp 13) _ _ rfl B 5 i0 Try.underlying31 Try.underlying9 hi0 hz0 hz1 hz2 v1 _ (bytesV (bs ++ encI (s.size : Int))) (by rfl) hw1.row s (by rfl)
               (by unfold maxLen; simp; omega) (by simp; omega) (by omega) ?_
             intro v2 w2 hown1 hg1 hat1
             obtain ⟨A2, c2, rfl, hA1, hA2⟩ := own_form hown1
             obtain ⟨hm1, hm2⟩ := hw1.mid (Below.refl _ _) hg1))
  have hsz : s.size = s.data.toList.length := (Array.length_toList (xs := s.data)).symm
  have hap := hw1.app (more := s.data.toList) (Below.refl _ _) (by rw [← hsz]; exact hown1) hg1 hat1
  rw [List.append_assoc, List.length_append] at hap
  go_end0
  exact ⟨rfl, _, by unfold encT; rw [← hsz]; exact hap.1, hf1.trans hap.2⟩

/-- the bytes that a function tells: a row of the call's own -/
def RowPost (w : World) (bs : List UInt8) : Ending → World → Prop := fun e w' =>
  ∃ A c, e = .returned (.slice A bs.length c) ∧ bs.length ≤ c ∧ c ≤ maxLen ∧ w'.ownsRow w.heap.size 5 1 (.slice A bs.length c) bs.length (bytesV bs) ∧ Below w.heap.size w w'

set_option maxRecDepth 100000 in
set_option maxHeartbeats 4000000 in
theorem wbytes (g : Nat) (v : Value) (bs : List UInt8) (B : Nat) (w : World) (hw : Wr w B g v bs) (hlen : bs.length ≤ 1000000000000) :
    Calls Try.prog 16 #[.pointer (some ⟨g, 0, none⟩)] w (RowPost w bs) := by
  obtain ⟨i0, hi0, hz0, hz1, hz2⟩ := info_parts u8_info
  have hbl := hw.blk
  have hgl := hbl.lt
  obtain ⟨A, c, rfl, hA1, hA2⟩ := own_form hw.row
  have hc0 : w.cell? ⟨g, 0, none⟩ = some (.slice A bs.length c) := hbl.cell 0
  go_enter Try.func16, Try.ntmps16
  go_wp2_with (first
          | (at_builtin
             refine wpList_append_any _ rfl (.tmp 3) (.tmp 7) _ rfl w.heap.size 5 i0 _ 1 1 Try.underlying31 hi0 hz0 hz1 hz2 rfl (by omega) (.slice (some ⟨w.heap.size, 0, none⟩) 0 0) 0 [] (by rfl)
               (World.ownsRow_made w #[] 0 (Nat.le_refl _) (by unfold maxLen; omega) rfl) w.heap.size A bs.length c (bytesV bs) (by rfl) ((Reads.of_own hw.row).alloc (Nat.le_refl _) _) (bytesV_one _) (by unfold maxLen; omega) (by omega) (by simp) ?_
             intro v1 w1 hown1 hg1 hat1))
  simp only [Nat.zero_add, List.nil_append] at hown1
  obtain ⟨A1, c1, hv, hn1, hc1⟩ := own_form hown1
  subst hv
  have hb1 : Below w.heap.size w w1 := ((Below.refl _ _).alloc (Nat.le_refl _) _).grown hg1 (by simp) (by intro k hk; simp [Value.ownBlock] at hk; omega)
  go_ret
  exact ⟨A1, c1, rfl, hn1, hc1, hown1, hb1⟩
end Go.Proofs.Ytglddefjmnjgdaa
