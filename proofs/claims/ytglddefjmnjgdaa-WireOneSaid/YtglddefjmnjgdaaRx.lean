/- The walks of a reader's functions: Count, Choice, Text, Left, Fail, Place, Fault, End. -/
import Derived.Test.YtglddefjmnjgdaaRw
namespace Go.Proofs.Ytglddefjmnjgdaa
open Go.RowKit Fl

section
variable {w : World} {g a : Nat} {A : Option Addr} {n c : Nat} {l : List UInt8} {s : RS} {most e : Int}
theorem cnt_none (h : Rd 73 w g A n c l s) {s' : RS} (hd : cnt l s most e = (none, s')) :
    Calls Try.prog 47 #[.pointer (some ⟨g, 0, none⟩), .int .i64 most, .int .i64 e] w (RdPost 73 w g A n c l (.tuple #[.int .i64 0, .int .i64 (s.at_ : Int), .bool false]) s') :=
  (wRcount g A n c l s most e w h).mono fun e w' h => by rw [hd] at h; exact h
theorem cnt_some (h : Rd 73 w g A n c l s) {k : Int} {next : Nat} {s' : RS} (hd : cnt l s most e = (some (k, next), s')) :
    Calls Try.prog 47 #[.pointer (some ⟨g, 0, none⟩), .int .i64 most, .int .i64 e] w (RdPost 73 w g A n c l (.tuple #[.int .i64 k, .int .i64 (next : Int), .bool true]) s) :=
  (wRcount g A n c l s most e w h).mono fun e w' h => by obtain ⟨rfl, _⟩ := cnt_ok hd; rw [hd] at h; exact h
end

set_option maxRecDepth 100000 in
set_option maxHeartbeats 4000000 in
theorem wRCount (g : Nat) (A : Option Addr) (n c : Nat) (l : List UInt8) (s : RS) (most : Int) (w : World) (h : Rd 73 w g A n c l s) :
    Calls Try.prog 29 #[.pointer (some ⟨g, 0, none⟩), .int .i64 most] w (RdPost 73 w g A n c l (.int .i64 (rCount l s most 3).1) (rCount l s most 3).2) := by
  obtain ⟨hgl, c0, c1, c2, c3, f0, f1, f2, f3⟩ := h.blk.four
  by_cases h1 : s.e = 0
  · have hb1 : (s.e != 0) = false := by simp [h1]
    have hs := rCount_cnt l s most 3 h1
    rcases hd : cnt l s most 3 with ⟨_ | ⟨k, next⟩, s'⟩
    · rw [hs, hd]
      have hc := cnt_none h hd
      clear hd hs h1
      go_enter Try.func29, Try.ntmps29
      go_wp2_with ((with_reducible refine hc.mono ?_); rintro e w1 ⟨rfl, hr1, hg1⟩)
      go_ret
      exact ⟨rfl, hr1, hg1⟩
    · rw [hs, hd]
      have hc := cnt_some h hd
      have hle := (dec_ok (cnt_ok hd).2.2.2).2.2.2.1
      have hlen := h.len
      clear hd hs h1
      go_enter Try.func29, Try.ntmps29
      go_wp2_with ((with_reducible refine hc.mono ?_); rintro e w1 ⟨rfl, hr1, hg1⟩; obtain ⟨hgl', c0', c1', c2', c3', f0', f1', f2', f3'⟩ := hr1.blk.four)
      go_ret
      exact ⟨rfl, hr1.moved (by omega), hg1.trans (grown_set _ _ _ _)⟩
  · have hb1 : (s.e != 0) = true := by simp [h1]
    have hs : rCount l s most 3 = (0, s) := by unfold rCount; rw [if_pos h1]
    rw [hs]
    clear hs
    go_enter Try.func29, Try.ntmps29
    go_wp2
    go_ret
    exact ⟨rfl, h, World.grownBy.refl _ _⟩

set_option maxRecDepth 100000 in
set_option maxHeartbeats 4000000 in
theorem wRChoice (g : Nat) (A : Option Addr) (n c : Nat) (l : List UInt8) (s : RS) (most : Int) (w : World) (h : Rd 73 w g A n c l s) :
    Calls Try.prog 37 #[.pointer (some ⟨g, 0, none⟩), .int .i64 most] w (RdPost 73 w g A n c l (.int .i64 (rCount l s most 4).1) (rCount l s most 4).2) := by
  obtain ⟨hgl, c0, c1, c2, c3, f0, f1, f2, f3⟩ := h.blk.four
  by_cases h1 : s.e = 0
  · have hb1 : (s.e != 0) = false := by simp [h1]
    have hs := rCount_cnt l s most 4 h1
    rcases hd : cnt l s most 4 with ⟨_ | ⟨k, next⟩, s'⟩
    · rw [hs, hd]
      have hc := cnt_none h hd
      clear hd hs h1
      go_enter Try.func37, Try.ntmps37
      go_wp2_with ((with_reducible refine hc.mono ?_); rintro e w1 ⟨rfl, hr1, hg1⟩)
      go_ret
      exact ⟨rfl, hr1, hg1⟩
    · rw [hs, hd]
      have hc := cnt_some h hd
      have hle := (dec_ok (cnt_ok hd).2.2.2).2.2.2.1
      have hlen := h.len
      clear hd hs h1
      go_enter Try.func37, Try.ntmps37
      go_wp2_with ((with_reducible refine hc.mono ?_); rintro e w1 ⟨rfl, hr1, hg1⟩; obtain ⟨hgl', c0', c1', c2', c3', f0', f1', f2', f3'⟩ := hr1.blk.four)
      go_ret
      exact ⟨rfl, hr1.moved (by omega), hg1.trans (grown_set _ _ _ _)⟩
  · have hb1 : (s.e != 0) = true := by simp [h1]
    have hs : rCount l s most 4 = (0, s) := by unfold rCount; rw [if_pos h1]
    rw [hs]
    clear hs
    go_enter Try.func37, Try.ntmps37
    go_wp2
    go_ret
    exact ⟨rfl, h, World.grownBy.refl _ _⟩

set_option maxRecDepth 100000 in
set_option maxHeartbeats 4000000 in
theorem wRText (g : Nat) (A : Option Addr) (n c : Nat) (l : List UInt8) (s : RS) (most : Int) (w : World) (h : Rd 73 w g A n c l s) :
    Calls Try.prog 30 #[.pointer (some ⟨g, 0, none⟩), .int .i64 most] w (RdPost 73 w g A n c l (.string ⟨(rText l s most).1.toArray⟩) (rText l s most).2) := by
  obtain ⟨hgl, c0, c1, c2, c3, f0, f1, f2, f3⟩ := h.blk.four
  have hnc := h.nc
  have hlen := h.len
  have hsm := h.small
  by_cases h1 : s.e = 0
  · have hb1 : (s.e != 0) = false := by simp [h1]
    have hs := rText_cnt l s most h1
    rcases hd : cnt l s most 2 with ⟨_ | ⟨k, next⟩, s'⟩
    · rw [hs, hd]
      have hc := cnt_none h hd
      clear hd hs h1
      go_enter Try.func30, Try.ntmps30
      go_wp2_with ((with_reducible refine hc.mono ?_); rintro e w1 ⟨rfl, hr1, hg1⟩)
      go_ret
      exact ⟨rfl, hr1, hg1⟩
    · rw [hs, hd]
      have hc := cnt_some h hd
      have hck := cnt_ok hd
      have hdk := dec_ok hck.2.2.2
      have hle := hdk.2.2.2.1
      have hk0 := hck.2.1
      have hkm : k ≤ 9223372036854775807 := hdk.2.2.2.2.2
      clear hd hs h1 hck hdk
      by_cases h2 : (l.length : Int) - next < k
      · simp only [if_pos h2]
        have hb2 : decide ((n : Int) - (next : Int) < k) = true := by rw [hlen] at h2; simp [h2]
        have hln : (l.length : Int) = (n : Int) := by rw [hlen]
        go_enter Try.func30, Try.ntmps30
        clear hln
        go_wp2_with (first
          | ((with_reducible refine hc.mono ?_); rintro e w1 ⟨rfl, hr1, hg1⟩; obtain ⟨hgl', c0', c1', c2', c3', f0', f1', f2', f3'⟩ := hr1.blk.four)
          | ((with_reducible refine (wfail g _ _ _ _ _ _ _ _ hr1).mono ?_); rintro e w2 ⟨rfl, hr2, hg2⟩))
        go_ret
        rw [hlen]
        exact ⟨rfl, hr2, hg1.trans hg2⟩
      · simp only [if_neg h2]
        have hb2 : decide ((n : Int) - (next : Int) < k) = false := by rw [hlen] at h2; simp; omega
        obtain ⟨m, rfl⟩ := Int.eq_ofNat_of_zero_le hk0
        rw [Int.toNat_natCast]
        have hnm : next + m ≤ n := by omega
        go_enter Try.func30, Try.ntmps30
        go_wp2_with (first
          | ((with_reducible refine hc.mono ?_); rintro e w1 ⟨rfl, hr1, hg1⟩; obtain ⟨hgl', c0', c1', c2', c3', f0', f1', f2', f3'⟩ := hr1.blk.four))
        have hmv := hr1.moved (k := next + m) hnm
        rw [Int.natCast_add] at hmv
        obtain ⟨A', hsl, hA'⟩ := run_cut (P := Try.prog) _ 31 5 Try.underlying31 size_u8 hmv.reads hnc next (next + m) (by omega) hnm
        rw [Int.natCast_add] at hsl
        have hcv : ∀ q, (convert 31 9 (.slice A' (next + m - next) (c - next))).run Try.prog (((w1.setCell ⟨g, 1, none⟩ (.int .i64 ((next : Int) + (m : Int))))).drewN q) = .ok (.string ⟨((l.drop next).take (next + m - next)).toArray⟩) (((w1.setCell ⟨g, 1, none⟩ (.int .i64 ((next : Int) + (m : Int))))).drewN q) :=
          fun q => run_conv_reads _ _ _ _ Try.underlying31 Try.underlying5 Try.underlying9 (by rw [bytesV_drop] at hA'; exact hA'.drewN q)
        have hg2 := hg1.trans (grown_set w1 g 1 (.int .i64 ((next : Int) + (m : Int))))
        clear hA'
        rw [show next + m - next = m from by omega] at hcv hsl
        generalize w1.setCell ⟨g, 1, none⟩ (.int .i64 ((next : Int) + (m : Int))) = w2 at *
        obtain ⟨hgl2, d0, d1, d2, d3, e0, e1, e2, e3⟩ := hmv.blk.four
        clear c0' c1' c2' c3' f0' f1' f2' f3' c0 c1 c2 c3 f0 f1 f2 f3
        rw [Int.natCast_add] at d1
        go_quiet (fail)
        go_wp2
        go_ret
        exact ⟨rfl, hmv.drewN _, grown_drewN hg2 _⟩
  · have hb1 : (s.e != 0) = true := by simp [h1]
    have hs : rText l s most = ([], s) := by unfold rText; rw [if_pos h1]
    rw [hs]
    clear hs
    go_enter Try.func30, Try.ntmps30
    go_wp2
    go_ret
    exact ⟨rfl, h, World.grownBy.refl _ _⟩
end Go.Proofs.Ytglddefjmnjgdaa
