/- The walks of the reference's writing functions, of Bytes and CopyBytes. -/
import Derived.Test.YtglddefjmnjgdaaRf
import Derived.Laws.OwnMore
namespace Go.Proofs.Ytglddefjmnjgdaa
open Go.RowKit Fl

set_option maxHeartbeats 400000 in
theorem sbytes (w : World) {B B' : Nat} {A A' : Option Addr} {n n' c c' : Nat} {a b : List UInt8} (ha : Reads w B 1 A n (bytesV a)) (hb : Reads w B' 1 A' n' (bytesV b)) :
    Calls Try.prog 17 #[.slice A n c, .slice A' n' c'] w fun e w' => e = .returned (.bool (a == b)) ∧ w = w' := by
  have h1 := run_conv_reads (P := Try.prog) w 31 9 5 Try.underlying31 Try.underlying5 Try.underlying9 (c := c) ha
  have h2 := run_conv_reads (P := Try.prog) w 31 9 5 Try.underlying31 Try.underlying5 Try.underlying9 (c := c') hb
  go_enter Try.func17, Try.ntmps17
  go_wp2
  go_ret
  exact ⟨rfl, rfl⟩

set_option maxHeartbeats 400000 in
theorem xbits (a : Nat) (w : World) :
    Calls Try.prog 59 #[.float .f64 a] w fun e w' => e = .returned (.int .u64 (canonB a)) ∧ w = w' := by
  by_cases h : dnan a = true
  · have e : canonB a = 9221120237041090560 := by simp [canonB, h]
    have h' : (FloatKind.f64.format.order a a != some Ordering.eq) = true := h
    rw [e]
    clear e h
    go_enter Try.func59, Try.ntmps59
    go_wp2
    go_ret
    exact ⟨rfl, rfl⟩
  · have e : canonB a = a := by simp [canonB, h]
    have h' : (FloatKind.f64.format.order a a != some Ordering.eq) = false := by simpa [dnan] using h
    rw [e]
    clear e h
    go_enter Try.func59, Try.ntmps59
    go_wp2
    go_ret
    exact ⟨rfl, rfl⟩
set_option maxHeartbeats 400000 in
theorem xcanon (a : Nat) (w : World) :
    Calls Try.prog 48 #[.float .f64 a] w fun e w' => e = .returned (.float .f64 (canonB a)) ∧ w = w' := by
  go_enter Try.func48, Try.ntmps48
  go_wp2_with ((with_reducible refine (xbits _ _).mono ?_); rintro e w' ⟨rfl, rfl⟩)
  go_ret
  exact ⟨rfl, rfl⟩
set_option maxHeartbeats 400000 in
theorem xof (a : Nat) (w : World) :
    Calls Try.prog 63 #[.int .u64 (a : Int)] w fun e w' => e = .returned (.float .f64 (canonB a)) ∧ w = w' := by
  go_enter Try.func63, Try.ntmps63
  go_wp2_with ((with_reducible refine (xcanon _ _).mono ?_); rintro e w' ⟨rfl, rfl⟩)
  go_ret
  exact ⟨rfl, rfl⟩

/-- a row of bytes of the call's own, so far -/
def RowRel (w : World) (bs : List UInt8) (v : Value) (wr : World) : Prop := wr.ownsRow w.heap.size 5 1 v bs.length (bytesV bs) ∧ Below w.heap.size w wr
theorem RowRel.start (w : World) : RowRel w [] (.slice none 0 0) w := ⟨World.ownsRow_nil _ _ _ _, Below.refl _ _⟩
theorem RowRel.post {w wr : World} {bs : List UInt8} {v : Value} (h : RowRel w bs v wr) : RowPost w bs (.returned v) wr := by
  obtain ⟨A, c, rfl, h1, h2⟩ := own_form h.1
  exact ⟨A, c, rfl, h1, h2, h.1, h.2⟩
theorem RowRel.push {w wr X w1 : World} {bs more : List UInt8} {v v1 : Value} (h : RowRel w bs v wr) (hX : Below wr.heap.size wr X)
    (hown : w1.ownsRow w.heap.size 5 1 v1 (bs.length + more.length) (bytesV bs ++ bytesV more)) (hg : X.grownBy w1 v.ownBlock) : RowRel w (bs ++ more) v1 w1 := by
  refine ⟨by rw [List.length_append, bytesV, List.map_append]; exact hown, ?_⟩
  refine Below.grown (h.2.trans (hX.mono h.2.size)) hg (Nat.le_trans h.2.size hX.size) fun k hk => (h.1.lt k hk).1

theorem big_byte (k : Nat) : bytesV [(k % 128 + 128).toUInt8] = [.int .u8 ((k : Int) % 128 + 128)] := by
  show [Value.int .u8 (((k % 128 + 128) % 256 : Nat) : Int)] = _
  congr 2
  omega

/-- the loop of Int -/
def XIntRel (w : World) (n : Int) (u out : Value) (wr : World) : Prop :=
  ∃ (k : Nat) (pre : List UInt8), u = .int .u64 (k : Int) ∧ k < 18446744073709551616 ∧ pre ++ encU k = encI n ∧ RowRel w pre out wr

set_option maxRecDepth 100000 in
set_option maxHeartbeats 4000000 in
theorem xint (n : Int) (w : World) (hn1 : -9223372036854775808 ≤ n) (hn2 : n ≤ 9223372036854775807) :
    Calls Try.prog 39 #[.int .i64 n] w (RowPost w (encI n)) := by
  obtain ⟨i0, hi0, hz0, hz1, hz2⟩ := info_parts u8_info
  have hzl := zig_lt hn1 hn2
  have hel := encI_len hn1 hn2
  have hcase : n < 0 ∨ 0 ≤ n := by omega
  rcases hcase with hneg | hneg
  all_goals (
    go_enter Try.func39, Try.ntmps39
    go_wp2
    go_loopw [3, 4] (fun u out wr => XIntRel w n u out wr) (fun u _ _ => (intOf u).toNat)
    case atStart =>
      refine ⟨zig n, [], ?_, hzl, rfl, RowRel.start w⟩
      first
        | rw [zig_neg hneg hn1]
        | (have e := zig_pos hneg hn2
           rw [show IntKind.u64.wrap n = n from by rw [IntKind.wrap_u64]; omega, show IntKind.u64.wrap (n * 2) = n * 2 from by rw [IntKind.wrap_u64]; omega] at e
           rw [e])
    case round =>
      obtain ⟨k, pre, rfl, hk, henc, hrow⟩ := hrel
      obtain ⟨A1, c1, rfl, hA1, hA2⟩ := own_form hrow.1
      have hzz := hrow.2.size
      have hpre : pre.length + (encU k).length = (encI n).length := by rw [← henc, List.length_append]
      by_cases hbig : k < 128
      · have h1 : encU k = [k.toUInt8] := encU_small hbig
        go_wp2_with (first
          | (at_builtin
             refine wpList_append_any _ rfl (.tmp 23) (.tmp 26) _ rfl w.heap.size 5 i0 _ 1 1 Try.underlying31 hi0 hz0 hz1 hz2 rfl (by omega) (.slice A1 pre.length c1) _ (bytesV pre) (by rfl) (hrow.1.alloc _) (wr.heap.size + 1) (some ⟨wr.heap.size, 0, none⟩) 1 1 (bytesV [k.toUInt8]) (by rfl)
               (by rw [low_byte k hbig]; exact reads_new wr 5 _ 1 rfl) (bytesV_one _) (by unfold maxLen; omega) (by omega) (by simp; omega) ?_
             intro v2 w1 hown1 hg1 hat1))
        go_ret
        rw [← henc, h1]
        exact (hrow.push ((Below.refl _ _).alloc (Nat.le_refl _) _) hown1 hg1).post
      · have h1 := encU_big hbig
        go_wp2_with (first
          | (at_builtin
             refine wpList_append_any _ rfl (.tmp 14) (.tmp 19) _ rfl w.heap.size 5 i0 _ 1 1 Try.underlying31 hi0 hz0 hz1 hz2 rfl (by omega) (.slice A1 pre.length c1) _ (bytesV pre) (by rfl) (hrow.1.alloc _) (wr.heap.size + 1) (some ⟨wr.heap.size, 0, none⟩) 1 1 (bytesV [(k % 128 + 128).toUInt8]) (by rfl)
               (by rw [big_byte k]; exact reads_new wr 5 _ 1 rfl) (bytesV_one _) (by unfold maxLen; omega) (by omega) (by simp; omega) ?_
             intro v2 w1 hown1 hg1 hat1))
        go_roundw
        case rel =>
          refine ⟨k / 128, pre ++ [(k % 128 + 128).toUInt8], by go_num, by omega, ?_, hrow.push ((Below.refl _ _).alloc (Nat.le_refl _) _) hown1 hg1⟩
          rw [List.append_assoc, ← henc, h1]; rfl
        case measure => simp [intOf]; omega)

set_option maxHeartbeats 4000000 in
theorem xflag (b : Bool) (w : World) : Calls Try.prog 40 #[.bool b] w (RowPost w (encB b)) := by
  cases b
  all_goals (
    go_enter Try.func40, Try.ntmps40
    go_wp2
    go_ret)
  · exact ⟨some ⟨w.heap.size, 0, none⟩, 1, rfl, Nat.le_refl _, by unfold maxLen; omega, World.ownsRow_lit w #[.int .u8 0] 1 (Nat.le_refl _) (by unfold maxLen; omega) rfl, (Below.refl _ _).alloc (Nat.le_refl _) _⟩
  · exact ⟨some ⟨w.heap.size, 0, none⟩, 1, rfl, Nat.le_refl _, by unfold maxLen; omega, World.ownsRow_lit w #[.int .u8 1] 1 (Nat.le_refl _) (by unfold maxLen; omega) rfl, (Below.refl _ _).alloc (Nat.le_refl _) _⟩

/-- the loop of Float -/
def XFloatRel (w : World) (x : Nat) (u out i : Value) (wr : World) : Prop :=
  ∃ (j k : Nat) (pre : List UInt8), j ≤ 8 ∧ i = .int .i64 (j : Int) ∧ u = .int .u64 (k : Int) ∧ k < 18446744073709551616 ∧ pre.length = j ∧ pre ++ leB (8 - j) k = leB 8 x ∧ RowRel w pre out wr

set_option maxRecDepth 100000 in
set_option maxHeartbeats 4000000 in
theorem xfloat (a : Nat) (w : World) (ha : a < 18446744073709551616) : Calls Try.prog 41 #[.float .f64 a] w (RowPost w (leB 8 (canonB a))) := by
  obtain ⟨i0, hi0, hz0, hz1, hz2⟩ := info_parts u8_info
  have hcan : canonB a < 18446744073709551616 := canonB_lt ha
  go_enter Try.func41, Try.ntmps41
  go_wp2_with ((with_reducible refine (xbits _ _).mono ?_); rintro e w' ⟨rfl, rfl⟩)
  go_loopw [3, 4, 5] (fun u out i wr => XFloatRel w (canonB a) u out i wr) (fun _ _ i _ => 8 - (intOf i).toNat)
  case atStart => exact ⟨0, _, [], by omega, rfl, rfl, hcan, rfl, rfl, RowRel.start w⟩
  case round =>
    obtain ⟨j, k, pre, hj, rfl, rfl, hk, hpl, henc, hrow⟩ := hrel
    have hl8 : pre.length ≤ 8 := by omega
    have hzz := hrow.2.size
    have HP := Lib.hid hpl
    clear hpl
    obtain ⟨A1, c1, rfl, hA1, hA2⟩ := own_form hrow.1
    by_cases hlt : j < 8
    · go_wp2_with (first
          | (at_builtin
             refine wpList_append_any _ rfl (.tmp 12) (.tmp 16) _ rfl w.heap.size 5 i0 _ 1 1 Try.underlying31 hi0 hz0 hz1 hz2 rfl (by omega) (.slice A1 pre.length c1) _ (bytesV pre) (by rfl) (hrow.1.alloc _) (wr.heap.size + 1) (some ⟨wr.heap.size, 0, none⟩) 1 1 (bytesV [(k % 256).toUInt8]) (by rfl)
               (by rw [mod_byte k]; exact reads_new wr 5 _ 1 rfl) (bytesV_one _) (by unfold maxLen; omega) (by omega) (by simp; omega) ?_
             intro v2 w1 hown1 hg1 hat1))
      go_roundw
      case rel =>
        refine ⟨j + 1, k / 256, pre ++ [(k % 256).toUInt8], by omega, by go_num, by go_num, by omega, by simp [HP.out], ?_, hrow.push ((Below.refl _ _).alloc (Nat.le_refl _) _) hown1 hg1⟩
        rw [List.append_assoc, ← henc, show 8 - j = (8 - (j + 1)) + 1 from by omega]; rfl
      case measure => simp [intOf]; omega
    · obtain rfl : j = 8 := by omega
      have hen : pre = leB 8 (canonB a) := by simpa [leB] using henc
      have HE := Lib.hid hen
      clear hen henc
      go_wp2
      go_ret
      rw [← HE.out]
      exact hrow.post

set_option maxRecDepth 100000 in
set_option maxHeartbeats 4000000 in
theorem xtext (s : ByteArray) (w : World) (hs : s.size ≤ 1000000000000) : Calls Try.prog 42 #[.string s] w (RowPost w (encT s.data.toList)) := by
  obtain ⟨i0, hi0, hz0, hz1, hz2⟩ := info_parts u8_info
  have hel : (encI (s.size : Int)).length ≤ 10 := encI_len (by omega) (by omega)
  go_enter Try.func42, Try.ntmps42
  go_wp2_with (first
          | ((with_reducible refine (xint _ _ (by omega) (by omega)).mono ?_); rintro e w1 ⟨A1, c1, rfl, hA1, hA2, hown, hb⟩)
          | (at_builtin
             refine wpList_append_str _ rfl (.tmp 5) (.tmp 6) _ _ rfl w.heap.size 5 i0 Try.underlying31 Try.underlying9 hi0 hz0 hz1 hz2 (.slice A1 (encI (s.size : Int)).length c1) _ (bytesV (encI (s.size : Int))) (by rfl) hown s (by rfl)
               (by unfold maxLen; omega) (by omega) hb.size ?_
             intro v2 w2 hown1 hg1 hat1))
  have hsz : s.size = s.data.toList.length := (Array.length_toList (xs := s.data)).symm
  have hr := RowRel.push (w := w) (more := s.data.toList) ⟨hown, hb⟩ (Below.refl _ _) (by rw [← hsz]; exact hown1) hg1
  go_ret
  unfold encT
  rw [← hsz]
  exact hr.post

/-- the loop of CopyBytes -/
def CopyRel (w : World) (bs : List UInt8) (out i : Value) (wr : World) : Prop := ∃ k : Nat, k ≤ bs.length ∧ i = .int .i64 (k : Int) ∧ RowRel w (bs.take k) out wr

set_option maxRecDepth 100000 in
set_option maxHeartbeats 4000000 in
theorem xcopy (A : Option Addr) (n c : Nat) (bs : List UInt8) (w : World) (h : Reads w w.heap.size 1 A n (bytesV bs)) (hn : n ≤ 1000000000000) : Calls Try.prog 33 #[.slice A n c] w (RowPost w bs) := by
  obtain ⟨i0, hi0, hz0, hz1, hz2⟩ := info_parts u8_info
  have hlen : bs.length = n := by have := h.1; simpa using this
  have HL := Lib.hid hlen
  have hle : bs.length ≤ n := by omega
  have hge : n ≤ bs.length := by omega
  clear hlen
  go_enter Try.func33, Try.ntmps33
  go_wp2
  go_loopw [3, 4] (fun out i wr => CopyRel w bs out i wr) (fun _ i _ => n - (intOf i).toNat)
  case atStart => exact ⟨0, Nat.zero_le _, rfl, RowRel.start w⟩
  case round =>
    obtain ⟨k, hk, rfl, hrow⟩ := hrel
    obtain ⟨A1, c1, rfl, hA1, hA2⟩ := own_form hrow.1
    have hzz := hrow.2.size
    have htl : (bs.take k).length ≤ k := List.length_take_le _ _
    by_cases hlt : k < n
    · obtain ⟨ad, x, rfl, hb, hx, hc⟩ := h.at_ hlt
      have hxl : ∃ y, bs[k]? = some y ∧ x = .int .u8 (y.toNat : Int) := by
        have hk2 : bs[k]? = some bs[k] := List.getElem?_eq_getElem (by omega)
        rw [List.getElem?_map, hk2] at hx
        exact ⟨_, hk2, (Option.some.inj hx).symm⟩
      obtain ⟨y, hy, rfl⟩ := hxl
      have hcw : wr.cell? (ad.add k) = some (.int .u8 (y.toNat : Int)) := by rw [hrow.2.cell (by rw [block_of_add]; exact hb)]; exact hc
      have HT : RowKit.Hid (bs.take (k + 1) = bs.take k ++ [y]) := Lib.hid (by rw [List.take_add_one, hy]; rfl)
      clear hx hy hc
      go_wp2_with (first
          | (at_builtin
             refine wpList_append_any _ rfl (.tmp 11) (.tmp 16) _ rfl w.heap.size 5 i0 _ 1 1 Try.underlying31 hi0 hz0 hz1 hz2 rfl (by omega) (.slice A1 (bs.take k).length c1) _ (bytesV (bs.take k)) (by rfl) (hrow.1.alloc _) (wr.heap.size + 1) (some ⟨wr.heap.size, 0, none⟩) 1 1 (bytesV [y]) (by rfl)
               (reads_new wr 5 _ 1 rfl) (bytesV_one _) (by unfold maxLen; omega) (by omega) (by simp; omega) ?_
             intro v2 w1 hown1 hg1 hat1))
      go_roundw
      case rel =>
        refine ⟨k + 1, by omega, by go_num, ?_⟩
        rw [HT.out]
        exact hrow.push ((Below.refl _ _).alloc (Nat.le_refl _) _) hown1 hg1
      case measure => simp [intOf]; omega
    · have he : bs.take k = bs := List.take_of_length_le (by omega)
      have HE := Lib.hid he
      clear he
      go_wp2
      go_ret
      have := hrow.post
      rw [HE.out] at this
      rw [HE.out]
      exact this
end Go.Proofs.Ytglddefjmnjgdaa
