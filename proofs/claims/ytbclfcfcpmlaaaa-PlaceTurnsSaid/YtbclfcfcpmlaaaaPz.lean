/- The walks of raceref.Ranges at two lists that are one, and of PlaceCovers. -/
import Derived.Test.YtbclfcfcpmlaaaaPy
import Derived.Test.YtbclfcfcpmlaaaaPu
import Derived.Test.YtbclfcfcpmlaaaaAp
namespace Go.Proofs.Ytbclfcfcpmlaaaa
open Go.RowKit Fl
attribute [local go_sem] run_store_float
attribute [local go_sem] Rg.val
attribute [local go_sem ↓] Go.wp_at_zero Go.wp_at_succ

theorem range_self (a : Rg) (w : World) : Calls Try.prog 25 #[a.val, a.val] w fun e w' => e = .returned (.bool true) ∧ Below w.heap.size w w' :=
  (range_any a a w).mono fun e w' h => ⟨by rw [h.1, Rg.same_self], h.2⟩

set_option maxHeartbeats 1000000 in
theorem ranges_same (A A' : Option Addr) (n c c' : Nat) (l : List Rg) (w : World) (h : Sl RgRel 4 w w.heap.size A n l) (h' : Sl RgRel 4 w w.heap.size A' n l) (hn : n ≤ maxLen) :
    Calls Try.prog 26 #[.slice A n c, .slice A' n c'] w fun e w' => e = .returned (.bool true) ∧ Below w.heap.size w w' := by
  unfold maxLen at hn
  go_enter Try.func26, Try.ntmps26
  go_wp2
  go_loopw [5] (fun i wr => ∃ k : Nat, k ≤ n ∧ i = .int .i64 k ∧ Below w.heap.size w wr) (fun i _ => n - (intOf i).toNat)
  case atStart => exact ⟨0, by omega, rfl, Below.refl _ _⟩
  case round =>
    obtain ⟨k, hk, rfl, hb⟩ := hrel
    have hzz := hb.size
    by_cases hlt : k < n
    · obtain ⟨ad, r, rfl, hl, hbk, hok, c0, c1, c2, c3⟩ := (h.below RgRel.kept hb).rg hlt
      obtain ⟨ad', r', rfl, hl', hbk', _, d0, d1, d2, d3⟩ := (h'.below RgRel.kept hb).rg hlt
      obtain rfl : r = r' := Option.some.inj (hl.symm.trans hl')
      have hbk2 : (ad.add (k * 4)).block < wr.heap.size := by omega
      have hbk2' : (ad'.add (k * 4)).block < wr.heap.size := by omega
      clear hl hl'
      go_wp2
      go_region_held3 (fun w' => (w'.cell? (ad.add (k * 4)) = some (.int .i64 r.id) ∧ w'.cell? ⟨(ad.add (k * 4)).block, (ad.add (k * 4)).off + 1, none⟩ = some (.int .i64 r.ep) ∧ w'.cell? ⟨(ad.add (k * 4)).block, (ad.add (k * 4)).off + 2, none⟩ = some (.float .f64 r.lo) ∧ w'.cell? ⟨(ad.add (k * 4)).block, (ad.add (k * 4)).off + 3, none⟩ = some (.float .f64 r.hi) ∧
          w'.cell? (ad'.add (k * 4)) = some (.int .i64 r.id) ∧ w'.cell? ⟨(ad'.add (k * 4)).block, (ad'.add (k * 4)).off + 1, none⟩ = some (.int .i64 r.ep) ∧ w'.cell? ⟨(ad'.add (k * 4)).block, (ad'.add (k * 4)).off + 2, none⟩ = some (.float .f64 r.lo) ∧ w'.cell? ⟨(ad'.add (k * 4)).block, (ad'.add (k * 4)).off + 3, none⟩ = some (.float .f64 r.hi)))
        (first | exact ⟨c0, c1, c2, c3, d0, d1, d2, d3⟩ | exact ⟨(hb1.cell hbk2).trans c0, (hb1.cell (p := ⟨_, _, none⟩) hbk2).trans c1, (hb1.cell (p := ⟨_, _, none⟩) hbk2).trans c2, (hb1.cell (p := ⟨_, _, none⟩) hbk2).trans c3, (hb1.cell hbk2').trans d0, (hb1.cell (p := ⟨_, _, none⟩) hbk2').trans d1, (hb1.cell (p := ⟨_, _, none⟩) hbk2').trans d2, (hb1.cell (p := ⟨_, _, none⟩) hbk2').trans d3⟩)
        (first
          | ((with_reducible refine (range_self r _).mono ?_); rintro e w1 ⟨rfl, hb1⟩))
      go_wp2
      go_roundw
      case rel => exact ⟨k + 1, by omega, by go_num, hb.drew.trans (Below.mono ‹Below wr.drew.heap.size wr.drew _› hzz)⟩
      case measure => simp [intOf]; omega
    · go_wp2
      go_ret
      exact ⟨rfl, hb⟩

theorem rg_info : (Try.prog.info? 39).map (fun i => (i.zero, i.size, i.bytes)) = some (some (.agg #[.int .i64 0, .int .i64 0, .float .f64 0, .float .f64 0]), 4, 32) := by kernel_rfl

set_option maxRecDepth 100000 in
set_option maxHeartbeats 4000000 in
theorem covers_walk (A : Option Addr) (n c : Nat) (l : List Rg) (x : Nat) (w : World) (h : Sl RgRel 4 w w.heap.size A n l) (hn : n ≤ c) (hc : c ≤ maxLen) :
    Calls Try.prog 7 #[.slice A n c, .float .f64 x] w fun e w' => e = .returned (.bool true) ∧ Below w.heap.size w w' := by
  obtain ⟨i0, hi0, hz0, hz1, hz2⟩ := info_parts rg_info
  have hcm := hc
  unfold maxLen at hc
  by_cases h200 : n ≤ 200
  · have g1 : decide ((200 : Int) < (n : Int)) = false := by simp; omega
    go_enter Try.func7, Try.ntmps7
    go_wp2_with (first
      | ((with_reducible refine (first_any _).mono ?_); rintro e w1 ⟨rfl, rfl⟩)
      | (at_builtin
         refine wpList_append_any _ rfl (.tmp 16) (.tmp 17) _ rfl w.heap.size 39 i0 _ 4 32 Try.underlying35 hi0 hz0 hz1 hz2 rfl (by omega) (.slice (some ⟨w.heap.size, 0, none⟩) 0 0) 0 [] (by rfl)
           (World.ownsRow_made w #[] 0 (Nat.le_refl _) (by unfold maxLen; omega) rfl) w.heap.size A n c (l.flatMap Rg.cells) (by rfl) ((h.alloc RgRel.kept (Nat.le_refl _) _).reads (by omega) rg_len) (rg_one l) (by unfold maxLen; omega) (by omega) (by simp) ?_
         intro v1 w1 hown1 hg1 hat1))
    simp only [Nat.zero_add, List.nil_append] at hown1
    obtain ⟨A1, c1, hv, hn1, hc1⟩ := own_form hown1
    subst hv
    have hb1 : Below w.heap.size w w1 := ((Below.refl _ _).alloc (Nat.le_refl _) _).grown hg1 (by simp) (by intro k hk; simp [Value.ownBlock] at hk; omega)
    have hl1 : Sl RgRel 4 w1 w1.heap.size A1 n l := (Reads.of_own hown1).sl (by omega) rg_len h.all_ok h.1
    clear hat1 hg1 hown1
    have hz1' := hb1.size
    refine (find_any A1 n c1 l x w1 hl1 (Nat.le_trans hn1 hc1)).mono ?_
    rintro e w2 ⟨rfl, hb2⟩
    obtain ⟨hc2, hf2, hz2'⟩ := bcell hb2
    generalize hr : (findR l x).getD zR = r
    generalize hs : (findR l x).isSome = b
    have HR := Lib.hid hr; have HS := Lib.hid hs; clear hr hs
    have hl2 : Sl RgRel 4 w2 w1.heap.size A1 n l := hl1.below RgRel.kept hb2
    have hb2' : Below w.heap.size w w2 := hb1.trans (hb2.mono hz1')
    go_wp2_with fail
    refine (rfind_any A n c l x _ ((h.below RgRel.kept (hb2'.alloc (by omega) _)).more RgRel.kept (by simp; omega)) (Nat.le_trans hn hcm)).mono ?_
    rintro e w3 ⟨rfl, hb3⟩
    rw [HR.out, HS.out]
    obtain ⟨hc3, hf3, hz3⟩ := bcell hb3
    simp at hz3
    have hb3' : Below w.heap.size w w3 := (hb2'.alloc (by omega) _).trans (hb3.mono (by simp; omega))
    have hl3 : Sl RgRel 4 w3 w1.heap.size A1 n l := (hl2.alloc RgRel.kept hz2' _).below RgRel.kept (hb3.mono (by simp; omega))
    go_wp2_with fail
    refine (first_any _).mono ?_
    rintro e _ ⟨rfl, rfl⟩
    go_wp2_with fail
    have y1 : w1.heap.size ≤ (w3.alloc (.cells #[.int .i64 r.id, .int .i64 r.ep, .float .f64 r.lo, .float .f64 r.hi] 39)).heap.size := by simp; omega
    have y2 : w.heap.size ≤ (w3.alloc (.cells #[.int .i64 r.id, .int .i64 r.ep, .float .f64 r.lo, .float .f64 r.hi] 39)).heap.size := by simp; omega
    refine (check_any A1 n c1 l _ ((hl3.alloc RgRel.kept (by omega) _).more RgRel.kept y1) hn1 hc1).mono ?_
    rintro e w4 ⟨rfl, hb4⟩
    have hb4' : Below w.heap.size w w4 := (hb3'.alloc (by omega) _).trans (hb4.mono y2)
    have hl4 : Sl RgRel 4 w4 w1.heap.size A1 n l := (hl3.alloc RgRel.kept (by omega) _).below RgRel.kept (hb4.mono y1)
    obtain ⟨hc4, hf4, hz4⟩ := bcell hb4
    simp at hz4
    go_wp2_with fail
    refine (rcheck_any A n c l _ ((h.below RgRel.kept hb4').more RgRel.kept (by omega)) hn hcm).mono ?_
    rintro e w5 ⟨rfl, hb5⟩
    have hb5' : Below w.heap.size w w5 := hb4'.trans (hb5.mono (by omega))
    have hl5 : Sl RgRel 4 w5 w1.heap.size A1 n l := hl4.below RgRel.kept (hb5.mono (by omega))
    obtain ⟨hc5, hf5, hz5⟩ := bcell hb5
    have u1 : w2.heap.size < w3.heap.size := by omega
    have u2 : w2.heap.size < w3.heap.size + 1 := by omega
    have u3 : w2.heap.size < w4.heap.size := by omega
    have u4 : w3.heap.size < w4.heap.size := by omega
    go_wp2_with fail
    refine (range_self r _).mono ?_
    rintro e w6 ⟨rfl, hb6⟩
    have hz6 := hb6.size
    have hb6' : Below w.heap.size w w6 := hb5'.trans (hb6.mono (by omega))
    have hl6 : Sl RgRel 4 w6 w1.heap.size A1 n l := hl5.below RgRel.kept (hb6.mono (by omega))
    go_wp2_with fail
    refine (ranges_same A1 A n c1 c l _ (hl6.more RgRel.kept (by omega)) ((h.below RgRel.kept hb6').more RgRel.kept (by omega)) (Nat.le_trans hn hcm)).mono ?_
    rintro e w7 ⟨rfl, hb7⟩
    have hb7' : Below w.heap.size w w7 := hb6'.trans (hb7.mono (by omega))
    go_wp2
    go_ret
    exact ⟨rfl, hb7'⟩
  · have g1 : decide ((200 : Int) < (n : Int)) = true := by simp; omega
    go_enter Try.func7, Try.ntmps7
    go_wp2_with ((with_reducible refine (first_any _).mono ?_); rintro e w1 ⟨rfl, rfl⟩)
    go_ret
    exact ⟨rfl, Below.refl _ _⟩
end Go.Proofs.Ytbclfcfcpmlaaaa
