/- The walks of Even, of the program and of the document's answer, and of PlaceEven. -/
import Derived.Test.YtbclfcfcpmlaaaaPz
namespace Go.Proofs.Ytbclfcfcpmlaaaa
open Go.RowKit Fl
attribute [local go_sem] run_store_float
attribute [local go_sem] Rg.val
attribute [local go_sem ↓] Go.wp_at_zero Go.wp_at_succ

/-- i / n, rounded -/
def evQ (i n : Nat) : Nat := (floatBits .quo .f64 (floatOfInt .f64 (i : Int)) (floatOfInt .f64 (n : Int))).getD 0
def evR (n i : Nat) : Rg := ⟨(i : Int) + 1, 0, evQ i n, evQ (i + 1) n⟩
def evens (n k : Nat) : List Rg := (List.range k).map (evR n)
theorem evens_succ (n k : Nat) : evens n (k + 1) = evens n k ++ [evR n k] := by unfold evens; rw [List.range_succ, List.map_append]; rfl
theorem evens_len (n k : Nat) : (evens n k).length = k := by unfold evens; simp
theorem ev_all : ∀ n : Fin 13, ∀ i : Fin 13, n.val ≠ 0 → (floatBits .quo .f64 (floatOfInt .f64 (i.val : Int)) (floatOfInt .f64 (n.val : Int))).isSome = true := by decide +kernel
theorem ev_some {n i : Nat} (h1 : 1 ≤ n) (h2 : n ≤ 12) (h3 : i ≤ 12) : floatBits .quo .f64 (floatOfInt .f64 (i : Int)) (floatOfInt .f64 (n : Int)) = some (evQ i n) := by
  have h := ev_all ⟨n, by omega⟩ ⟨i, by omega⟩ (by simp; omega)
  unfold evQ
  simp only at h
  obtain ⟨x, hx⟩ := Option.isSome_iff_exists.1 h
  rw [hx]; rfl
theorem ev_lt {n i : Nat} (h1 : 1 ≤ n) (h2 : n ≤ 12) (h3 : i ≤ 12) : evQ i n < 18446744073709551616 := by
  have := floatBits_wf (ev_some h1 h2 h3)
  simpa [Lit.wf] using this
theorem evR_ok {n i : Nat} (h1 : 1 ≤ n) (h2 : n ≤ 12) (h3 : i < 12) : (evR n i).ok :=
  ⟨by unfold i64ok evR; simp only; omega, by unfold i64ok evR; simp only; omega, ev_lt h1 h2 (by omega), ev_lt h1 h2 (by omega)⟩
theorem evens_ok {n k : Nat} (h1 : 1 ≤ n) (h2 : n ≤ 12) (h3 : k ≤ 12) : ∀ r ∈ evens n k, r.ok := by
  intro r hr
  unfold evens at hr
  obtain ⟨i, hi, rfl⟩ := List.mem_map.1 hr
  rw [List.mem_range] at hi
  exact evR_ok h1 h2 (by omega)
theorem ev_ck : ∀ n : Fin 13, n.val ≠ 0 → ck (evens n.val n.val) = 0 := by decide +kernel

/-- an element laid in a block of its own -/
theorem reads_new (w : World) (t : TypeId) (cs : List Value) (k : Nat) (h : cs.length = k) : Reads (w.alloc (.cells cs.toArray t)) (w.heap.size + 1) k (some ⟨w.heap.size, 0, none⟩) 1 cs := by
  refine ⟨by rw [h, Nat.one_mul], fun _ => ⟨_, rfl, by simp, fun j u hj => ?_⟩⟩
  have e : (⟨w.heap.size, 0, none⟩ : Addr).add j = ⟨w.heap.size, j, none⟩ := by unfold Addr.add; split <;> simp_all
  rw [e, (Blk.new w t cs.toArray).cell]
  simpa using hj

def EvenPost (n : Nat) (w : World) (e : Ending) (w' : World) : Prop := ∃ A c, e = .returned (.tuple #[.slice A n c, .int .i64 0]) ∧ n ≤ c ∧ c ≤ maxLen ∧ Sl RgRel 4 w' w'.heap.size A n (evens n n) ∧ Below w.heap.size w w'
theorem even_end {n : Nat} {w w' : World} {v : Value} (h1 : 1 ≤ n) (h2 : n ≤ 12) (hown : w'.ownsRow w.heap.size 39 4 v n ((evens n n).flatMap Rg.cells)) (hb : Below w.heap.size w w') : EvenPost n w (.returned (.tuple #[v, .int .i64 0])) w' := by
  obtain ⟨A, c, rfl, hc, hm⟩ := own_form hown
  exact ⟨A, c, rfl, hc, hm, (Reads.of_own hown).sl (by omega) rg_len (evens_ok h1 h2 h2) (evens_len n n), hb⟩
theorem own_block_ge {w : World} {base : Nat} {e : TypeId} {size n : Nat} {v : Value} {xs : List Value} (h : w.ownsRow base e size v n xs) : ∀ k, v.ownBlock = some k → base ≤ k := fun k hk => (h.lt k hk).1

set_option maxHeartbeats 2000000 in
theorem even_any (n : Nat) (w : World) (h1 : 1 ≤ n) (h2 : n ≤ 12) :
    Calls Try.prog 27 #[.int .i64 n] w (EvenPost n w) := by
  obtain ⟨i0, hi0, hz0, hz1, hz2⟩ := info_parts rg_info
  go_enter Try.func27, Try.ntmps27
  go_wp2
  go_loopw [4, 13] (fun v i wr => ∃ k : Nat, k ≤ n ∧ i = .int .i64 k ∧ Below w.heap.size w wr ∧ wr.ownsRow w.heap.size 39 4 v k ((evens n k).flatMap Rg.cells)) (fun _ i _ => n - (intOf i).toNat)
  case atStart => exact ⟨0, by omega, rfl, Below.refl _ _, World.ownsRow_nil _ _ _ _⟩
  case round =>
    obtain ⟨k, hk, rfl, hb, hown⟩ := hrel
    by_cases hlt : k < n
    · have r1 := fun w => run_float_arith (P := Try.prog) w .quo 23 .f64 _ _ _ (ev_some (n := n) (i := k) h1 h2 (by omega))
      have r2 := fun w => run_float_arith (P := Try.prog) w .quo 23 .f64 _ _ _ (ev_some (n := n) (i := k + 1) h1 h2 (by omega))
      rw [show (((k + 1 : Nat)) : Int) = (k : Int) + 1 from by omega] at r2
      have hzz := hb.size
      go_wp2_with (first
      | (at_builtin
         refine wpList_append_any _ rfl (.tmp 16) (.tmp 31) _ rfl w.heap.size 39 i0 _ 4 32 Try.underlying35 hi0 hz0 hz1 hz2 rfl (by omega) _ k ((evens n k).flatMap Rg.cells) (by rfl) (hown.alloc _) (wr.heap.size + 1) (some ⟨wr.heap.size, 0, none⟩) 1 1 (evR n k).cells (by rfl)
           (reads_new wr 39 (evR n k).cells 4 rfl) (by intro u hu; exact rg_one [evR n k] u (by simpa using hu)) (by unfold maxLen; omega) (by omega) (by simp; omega) ?_
         intro v1 w1 hown1 hg1 hat1))
      have hown2 : w1.ownsRow w.heap.size 39 4 v1 (k + 1) ((evens n (k + 1)).flatMap Rg.cells) := by
        rw [evens_succ, List.flatMap_append]; simpa using hown1
      have hb1 : Below w.heap.size w w1 := (hb.alloc hzz _).grown hg1 (by simp; omega) (fun q hq => own_block_ge hown q hq)
      clear hown1 hg1 hat1
      go_wp2
      go_roundw
      case rel => exact ⟨k + 1, by omega, by go_num, hb1, hown2⟩
      case measure => simp [intOf]; omega
    · have ek : k = n := by omega
      rw [ek] at hown
      go_wp2
      go_ret2
      exact even_end h1 h2 hown hb

set_option maxHeartbeats 2000000 in
theorem reven_any (n : Nat) (w : World) (h1 : 1 ≤ n) (h2 : n ≤ 12) :
    Calls Try.prog 28 #[.int .i64 n] w (EvenPost n w) := by
  obtain ⟨i0, hi0, hz0, hz1, hz2⟩ := info_parts rg_info
  go_enter Try.func28, Try.ntmps28
  go_wp2
  go_loopw [4, 5] (fun v i wr => ∃ k : Nat, k ≤ n ∧ i = .int .i64 ((k : Int) + 1) ∧ Below w.heap.size w wr ∧ wr.ownsRow w.heap.size 39 4 v k ((evens n k).flatMap Rg.cells)) (fun _ i _ => n + 1 - (intOf i).toNat)
  case atStart => exact ⟨0, by omega, rfl, Below.refl _ _, World.ownsRow_nil _ _ _ _⟩
  case round =>
    obtain ⟨k, hk, rfl, hb, hown⟩ := hrel
    by_cases hlt : k < n
    · have r1 := fun w => run_float_arith (P := Try.prog) w .quo 23 .f64 _ _ _ (ev_some (n := n) (i := k) h1 h2 (by omega))
      have r2 := fun w => run_float_arith (P := Try.prog) w .quo 23 .f64 _ _ _ (ev_some (n := n) (i := k + 1) h1 h2 (by omega))
      rw [show (((k + 1 : Nat)) : Int) = (k : Int) + 1 from by omega] at r2
      have hzz := hb.size
      go_wp2_with (first
      | (at_builtin
         refine wpList_append_any _ rfl (.tmp 17) (.tmp 31) _ rfl w.heap.size 39 i0 _ 4 32 Try.underlying35 hi0 hz0 hz1 hz2 rfl (by omega) _ k ((evens n k).flatMap Rg.cells) (by rfl) (hown.alloc _) (wr.heap.size + 1) (some ⟨wr.heap.size, 0, none⟩) 1 1 (evR n k).cells (by rfl)
           (reads_new wr 39 (evR n k).cells 4 rfl) (by intro u hu; exact rg_one [evR n k] u (by simpa using hu)) (by unfold maxLen; omega) (by omega) (by simp; omega) ?_
         intro v1 w1 hown1 hg1 hat1))
      have hown2 : w1.ownsRow w.heap.size 39 4 v1 (k + 1) ((evens n (k + 1)).flatMap Rg.cells) := by
        rw [evens_succ, List.flatMap_append]; simpa using hown1
      have hb1 : Below w.heap.size w w1 := (hb.alloc hzz _).grown hg1 (by simp; omega) (fun q hq => own_block_ge hown q hq)
      clear hown1 hg1 hat1
      go_wp2
      go_roundw
      case rel => exact ⟨k + 1, by omega, by simp, hb1, hown2⟩
      case measure => simp [intOf]; omega
    · have ek : k = n := by omega
      rw [ek] at hown
      go_wp2
      go_ret2
      exact even_end h1 h2 hown hb

theorem even_bad (n : Int) (w : World) (h : n < 1 ∨ 12 < n) :
    Calls Try.prog 27 #[.int .i64 n] w fun e w' => e = .returned (.tuple #[.slice none 0 0, .int .i64 1]) ∧ w = w' := by
  rcases h with h | h
  · go_enter Try.func27, Try.ntmps27
    go_wp2
    go_ret2
    exact ⟨rfl, rfl⟩
  · have h' : ¬ n < 1 := by omega
    go_enter Try.func27, Try.ntmps27
    go_wp2
    go_ret2
    exact ⟨rfl, rfl⟩
theorem reven_bad (n : Int) (w : World) (h : n < 1 ∨ 12 < n) :
    Calls Try.prog 28 #[.int .i64 n] w fun e w' => e = .returned (.tuple #[.slice none 0 0, .int .i64 1]) ∧ w = w' := by
  rcases h with h | h
  · go_enter Try.func28, Try.ntmps28
    go_wp2
    go_ret2
    exact ⟨rfl, rfl⟩
  · have h' : ¬ n < 1 := by omega
    go_enter Try.func28, Try.ntmps28
    go_wp2
    go_ret2
    exact ⟨rfl, rfl⟩

set_option maxHeartbeats 2000000 in
theorem even_walk (n : Int) (w : World) :
    Calls Try.prog 8 #[.int .i64 n] w fun e w' => e = .returned (.bool true) ∧ Below w.heap.size w w' := by
  by_cases hg : 1 ≤ n ∧ n ≤ 12
  · obtain ⟨k, rfl⟩ := Int.eq_ofNat_of_zero_le (show 0 ≤ n by omega)
    have h1 : 1 ≤ k := by omega
    have h2 : k ≤ 12 := by omega
    have hck := ev_ck ⟨k, by omega⟩ (by simp; omega)
    simp only at hck
    have HC := Lib.hid hck
    clear hck hg
    go_enter Try.func8, Try.ntmps8
    go_wp2_with ((with_reducible refine (first_any _).mono ?_); rintro e w1 ⟨rfl, rfl⟩)
    refine (even_any k _ h1 h2).mono ?_
    rintro e w1 ⟨A1, c1, rfl, hc1, hm1, hl1, hb1⟩
    have hz1 := hb1.size
    go_wp2_with fail
    refine (reven_any k _ h1 h2).mono ?_
    rintro e w2 ⟨A2, c2, rfl, hc2, hm2, hl2, hb2⟩
    have hz2 := hb2.size
    have hl1' := hl1.below RgRel.kept hb2
    have hb2' : Below w.heap.size w w2 := hb1.trans (hb2.mono hz1)
    go_wp2_with fail
    refine (first_any _).mono ?_
    rintro e _ ⟨rfl, rfl⟩
    go_wp2_with fail
    refine (ranges_same A1 A2 k c1 c2 _ _ (hl1'.more RgRel.kept hz2) hl2 (Nat.le_trans hc1 hm1)).mono ?_
    rintro e w3 ⟨rfl, hb3⟩
    have hz3 := hb3.size
    go_wp2_with fail
    refine (check_any A1 k c1 _ _ ((hl1'.below RgRel.kept (hb3.mono hz2)).more RgRel.kept (by omega)) hc1 hm1).mono ?_
    rintro e w4 ⟨rfl, hb4⟩
    rw [HC.out]
    go_wp2
    go_ret
    exact ⟨rfl, (hb2'.trans (hb3.mono (by omega))).trans (hb4.mono (by omega))⟩
  · have hbad : n < 1 ∨ 12 < n := by omega
    clear hg
    have HB := Lib.hid hbad
    clear hbad
    go_enter Try.func8, Try.ntmps8
    go_wp2_with (first
      | ((with_reducible refine (first_any _).mono ?_); rintro e w1 ⟨rfl, rfl⟩)
      | ((with_reducible refine (even_bad n _ HB.out).mono ?_); rintro e w1 ⟨rfl, rfl⟩)
      | ((with_reducible refine (reven_bad n _ HB.out).mono ?_); rintro e w1 ⟨rfl, rfl⟩)
      | ((with_reducible refine (ranges_same none none 0 0 0 [] _ Sl.nil Sl.nil (by unfold maxLen; omega)).mono ?_); rintro e w1 ⟨rfl, hb⟩))
    go_ret
    exact ⟨rfl, hb⟩
end Go.Proofs.Ytbclfcfcpmlaaaa
