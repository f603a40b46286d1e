/- The walks of Hash and Of, of the program and of the document's answer. -/
import Derived.Test.YtipacjbegfingaaPa
import Derived.Test.YtipacjbegfingaaFlm
namespace Go.Proofs.Ytipacjbegfingaa
open Go.RowKit Fl

theorem take_snoc (s : ByteArray) (k : Nat) (h : k < s.size) : s.data.toList.take (k + 1) = s.data.toList.take k ++ [s[k]] := by
  rw [List.take_succ_eq_append_getElem (by simpa using h)]; rfl
/-- one byte's step -/
def hstep (h : Int) (c : UInt8) : Int := IntKind.u64.wrap (bits BinOp.xor IntKind.u64 h (IntKind.u64.wrap (c.toNat : Int)) * 1099511628211)
def hfold (l : List UInt8) : Int := l.foldl hstep 14695981039346656037
def mix (h k : Int) : Int := IntKind.u64.wrap (bits BinOp.xor IntKind.u64 h (h / 8589934592) * k)
def hfin (h : Int) : Int := bits BinOp.xor IntKind.u64 (mix (mix h 18397679294719823053) 14181476777654086739) (mix (mix h 18397679294719823053) 14181476777654086739 / 8589934592)
def hashI (s : ByteArray) : Int := hfin (hfold s.data.toList)
theorem hfold_snoc (l : List UInt8) (c : UInt8) : hfold (l ++ [c]) = hstep (hfold l) c := by unfold hfold; rw [List.foldl_append]; rfl
theorem hfold_take (s : ByteArray) (k : Nat) (h : k < s.size) : hfold (s.data.toList.take (k + 1)) = hstep (hfold (s.data.toList.take k)) s[k] := by rw [take_snoc s k h, hfold_snoc]
theorem hfold_all (s : ByteArray) (k : Nat) (h : ¬ k < s.size) : hfold (s.data.toList.take k) = hfold s.data.toList := by rw [List.take_of_length_le (by simp; omega)]
theorem wrap_u64_b (n : Int) : 0 ≤ IntKind.u64.wrap n ∧ IntKind.u64.wrap n < 18446744073709551616 := by rw [IntKind.wrap_u64]; omega
theorem hstep_b (h : Int) (c : UInt8) : 0 ≤ hstep h c ∧ hstep h c < 18446744073709551616 := wrap_u64_b _
theorem mix_b (h c : Int) : 0 ≤ mix h c ∧ mix h c < 18446744073709551616 := wrap_u64_b _
theorem hfold_b (l : List UInt8) : 0 ≤ hfold l ∧ hfold l < 18446744073709551616 := by
  rcases List.eq_nil_or_concat l with rfl | ⟨l', c, rfl⟩
  · decide
  · rw [List.concat_eq_append, hfold_snoc]; exact hstep_b _ _
theorem bits_b (op : BinOp) (a b : Int) : 0 ≤ bits op IntKind.u64 a b ∧ bits op IntKind.u64 a b < 18446744073709551616 := wrap_u64_b _
theorem hash_b (s : ByteArray) : 0 ≤ hashI s ∧ hashI s < 18446744073709551616 := by
  unfold hashI hfin
  generalize mix (mix (hfold s.data.toList) 18397679294719823053) 14181476777654086739 = a
  exact bits_b _ _ _

set_option maxHeartbeats 400000 in
theorem hash (s : ByteArray) (w : World) (hs : s.size ≤ maxLen) :
    Calls Try.prog 64 #[.string s] w fun e w' => e = .returned (.int .u64 (hashI s)) ∧ w = w' := by
  unfold maxLen at hs
  have i0 : ∀ w, (Instr.index 135 (.agg #[.int .u64 18397679294719823053, .int .u64 14181476777654086739]) (.int .i64 0)).run Try.prog w = .ok (.int .u64 18397679294719823053) w := fun _ => by kernel_rfl
  have i1 : ∀ w, (Instr.index 135 (.agg #[.int .u64 18397679294719823053, .int .u64 14181476777654086739]) (.int .i64 1)).run Try.prog w = .ok (.int .u64 14181476777654086739) w := fun _ => by kernel_rfl
  have hb := hash_b s
  go_enter Try.func64, Try.ntmps64
  go_wp2
  go_loop [3, 9] (fun h i => ∃ k : Nat, k ≤ s.size ∧ i = .int .i64 k ∧ h = .int .u64 (hfold (s.data.toList.take k))) (fun _ i => s.size - (intOf i).toNat)
  case atStart => exact ⟨0, Nat.zero_le _, rfl, rfl⟩
  case round =>
    obtain ⟨k, hk, rfl, rfl⟩ := hrel
    by_cases hlt : k < s.size
    · have HT := Lib.hid (hfold_take s k hlt)
      go_wp2
      go_round
      case rel => exact ⟨k + 1, by omega, by go_num, by rw [HT.out]; rfl⟩
      case measure => simp [intOf]; omega
    · have HA := Lib.hid (hfold_all s k hlt)
      have hb2 := hfold_b (s.data.toList.take k)
      generalize hn : hfold (s.data.toList.take k) = n at HA hb2
      clear hn
      have m1 := mix_b n 18397679294719823053
      have m2 := mix_b (mix n 18397679294719823053) 14181476777654086739
      go_wp2
      go_loop [3, 22] (fun h i => (i = .int .i64 0 ∧ h = .int .u64 n) ∨ (i = .int .i64 1 ∧ h = .int .u64 (mix n 18397679294719823053)) ∨ (i = .int .i64 2 ∧ h = .int .u64 (mix (mix n 18397679294719823053) 14181476777654086739))) (fun _ i => 2 - (intOf i).toNat)
      case atStart => exact .inl ⟨rfl, rfl⟩
      case round =>
        rcases hrel with ⟨rfl, rfl⟩ | ⟨rfl, rfl⟩ | ⟨rfl, rfl⟩
        · go_wp2
          go_round
          case rel => exact .inr (.inl ⟨rfl, rfl⟩)
          case measure => simp [intOf]
        · go_wp2
          go_round
          case rel => exact .inr (.inr ⟨rfl, rfl⟩)
          case measure => simp [intOf]
        · go_wp2
          go_ret
          refine ⟨ret_int ?_, rfl⟩
          show bits BinOp.xor IntKind.u64 (mix (mix n 18397679294719823053) 14181476777654086739) (mix (mix n 18397679294719823053) 14181476777654086739 / 8589934592) = hfin (hfold s.data.toList)
          rw [← HA.out]; rfl

set_option maxHeartbeats 400000 in
theorem rhash (s : ByteArray) (w : World) (hs : s.size ≤ maxLen) :
    Calls Try.prog 52 #[.string s] w fun e w' => e = .returned (.int .u64 (hashI s)) ∧ w = w' := by
  unfold maxLen at hs
  go_enter Try.func52, Try.ntmps52
  go_wp2
  go_loop [3, 4] (fun h i => ∃ k : Nat, k ≤ s.size ∧ i = .int .i64 k ∧ h = .int .u64 (hfold (s.data.toList.take k))) (fun _ i => s.size - (intOf i).toNat)
  case atStart => exact ⟨0, Nat.zero_le _, rfl, rfl⟩
  case round =>
    obtain ⟨k, hk, rfl, rfl⟩ := hrel
    by_cases hlt : k < s.size
    · have HT := Lib.hid (hfold_take s k hlt)
      go_wp2
      go_round
      case rel => exact ⟨k + 1, by omega, by go_num, by rw [HT.out]; rfl⟩
      case measure => simp [intOf]; omega
    · have HA := Lib.hid (hfold_all s k hlt)
      have hb2 := hfold_b (s.data.toList.take k)
      generalize hn : hfold (s.data.toList.take k) = n at HA hb2
      clear hn
      go_wp2
      go_ret
      refine ⟨ret_int ?_, rfl⟩
      unfold hashI
      rw [← HA.out]; rfl

/-- the place of a hash -/
def ofI (h : Int) : Nat := (floatBits .quo .f64 (floatOfInt .f64 (h / 2048)) 4845873199050653696).getD 0
def ofB (s : ByteArray) : Nat := ofI (hashI s)
theorem of_some (h : Int) (_h0 : 0 ≤ h) (_h1 : h < 18446744073709551616) : floatBits .quo .f64 (floatOfInt .f64 (h / 2048)) 4845873199050653696 = some (ofI h) := by
  have e : floatBits .quo .f64 (floatOfInt .f64 (h / 2048)) 4845873199050653696 = ((Ieee.double.read (floatOfInt .f64 (h / 2048))).quotient 54 (Ieee.double.read 4845873199050653696)).map Ieee.double.write := rfl
  have two : Ieee.double.read 4845873199050653696 = .number false 4503599627370496 1 := by decide
  have hn : notnan (floatOfInt .f64 (h / 2048)) := nearest_ok _ _ _
  have ho := read_ok hn
  unfold ofI
  rw [e, two]
  cases hd : Ieee.double.read (floatOfInt .f64 (h / 2048)) with
  | number s m p => rfl
  | infinity s => rfl
  | nan => rw [hd] at ho; cases ho

set_option maxHeartbeats 400000 in
theorem of_any (s : ByteArray) (w : World) (hs : s.size ≤ maxLen) :
    Calls Try.prog 33 #[.string s] w fun e w' => e = .returned (.float .f64 (ofB s)) ∧ w = w' := by
  obtain ⟨h0, h1⟩ := hash_b s
  have r1 := fun w => run_float_arith (P := Try.prog) w .quo 22 .f64 _ _ _ (of_some (hashI s) h0 h1)
  go_enter Try.func33, Try.ntmps33
  go_wp2_with ((with_reducible refine (hash _ _ hs).mono ?_); rintro e w' ⟨rfl, rfl⟩)
  go_ret
  exact ⟨rfl, rfl⟩
set_option maxHeartbeats 400000 in
theorem rof_any (s : ByteArray) (w : World) (hs : s.size ≤ maxLen) :
    Calls Try.prog 16 #[.string s] w fun e w' => e = .returned (.float .f64 (ofB s)) ∧ w = w' := by
  obtain ⟨h0, h1⟩ := hash_b s
  have r1 := fun w => run_float_arith (P := Try.prog) w .quo 22 .f64 _ _ _ (of_some (hashI s) h0 h1)
  go_enter Try.func16, Try.ntmps16
  go_wp2_with ((with_reducible refine (rhash _ _ hs).mono ?_); rintro e w' ⟨rfl, rfl⟩)
  go_ret
  exact ⟨rfl, rfl⟩
end Go.Proofs.Ytipacjbegfingaa
