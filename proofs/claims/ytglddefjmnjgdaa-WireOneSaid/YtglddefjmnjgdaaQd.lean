/- The walks of the reference's reader: size, Count, Choice, Text. -/
import Derived.Test.YtglddefjmnjgdaaQc
namespace Go.Proofs.Ytglddefjmnjgdaa
open Go.RowKit Fl

section
variable {w : World} {g a : Nat} {A : Option Addr} {n c : Nat} {l : List UInt8} {s : RS}
theorem xint_bad (h : Rd 58 w g A n c l s) {s' : RS} (hd : rInt l s = (0, s')) :
    Calls Try.prog 49 #[.pointer (some ⟨g, 0, none⟩)] w (RdPost 58 w g A n c l (.int .i64 0) s') :=
  (xRInt g A n c l s w h).mono fun e w' h => by rw [hd] at h; exact h
theorem xint_ok (h : Rd 58 w g A n c l s) {k : Int} {next : Nat} (hs : s.e = 0) (hd : dec l s.at_ = .ok k next) :
    Calls Try.prog 49 #[.pointer (some ⟨g, 0, none⟩)] w (RdPost 58 w g A n c l (.int .i64 k) ⟨next, s.e, s.p⟩) :=
  (xRInt g A n c l s w h).mono fun e w' h => by
    have : rInt l s = (k, ⟨next, s.e, s.p⟩) := by unfold rInt; rw [if_neg (by simp [hs]), hd]
    rw [this] at h; exact h
end

/-- the fault is laid, or there was one -/
theorem fail_e {s : RS} {e : Int} {q : Nat} (he : e ≠ 0) : (rFail s e q).e ≠ 0 := by
  unfold rFail
  by_cases h : s.e = 0
  · rw [if_pos ⟨h, he⟩]; exact he
  · rw [if_neg (fun h2 => h h2.1)]; exact h

set_option maxRecDepth 100000 in
set_option maxHeartbeats 4000000 in
theorem xsize (g : Nat) (A : Option Addr) (n c : Nat) (l : List UInt8) (s : RS) (most ee : Int) (w : World) (h : Rd 58 w g A n c l s) (he : ee ≠ 0) :
    Calls Try.prog 64 #[.pointer (some ⟨g, 0, none⟩), .int .i64 most, .int .i64 ee] w (RdPost 58 w g A n c l (.int .i64 (rCount l s most ee).1) (rCount l s most ee).2) := by
  obtain ⟨hgl, c0, c1, c2, c3, f0, f1, f2, f3⟩ := h.blk.four
  have hal := h.at_le
  by_cases hbad : ∃ s', rInt l s = (0, s') ∧ rCount l s most ee = (0, s') ∧ s'.e ≠ 0
  · obtain ⟨s', h1, h2, h3⟩ := hbad
    have hb : (s'.e != 0) = true := by simp [h3]
    have hc := xint_bad h h1
    rw [h2]
    clear h1 h2 h3
    go_enter Try.func64, Try.ntmps64
    go_wp2_with ((with_reducible refine hc.mono ?_); rintro e w1 ⟨rfl, hr1, hg1⟩; obtain ⟨hgl', c0', c1', c2', c3', f0', f1', f2', f3'⟩ := hr1.blk.four)
    go_ret
    exact ⟨rfl, hr1, hg1⟩
  · have hs0 : s.e = 0 := by
      by_cases h1 : s.e = 0
      · exact h1
      · exact absurd ⟨s, by unfold rInt; rw [if_pos h1], by unfold rCount; rw [if_pos h1], h1⟩ hbad
    cases hd : dec l s.at_ with
    | short => exact absurd ⟨rFail s 5 l.length, by unfold rInt; rw [if_neg (by simp [hs0]), hd], by unfold rCount; rw [if_neg (by simp [hs0]), hd], fail_e (by omega)⟩ hbad
    | form => exact absurd ⟨rFail s 4 s.at_, by unfold rInt; rw [if_neg (by simp [hs0]), hd], by unfold rCount; rw [if_neg (by simp [hs0]), hd], fail_e (by omega)⟩ hbad
    | ok k next =>
      clear hbad
      have hc := xint_ok h hs0 hd
      have hb1 : (s.e != 0) = false := by simp [hs0]
      by_cases h2 : k < 0
      · have hs : rCount l s most ee = (0, xFail s 4 s.at_) := by unfold rCount; rw [if_neg (by simp [hs0]), hd]; simp only; rw [if_pos h2, xFail_eq (by omega)]
        rw [hs]
        have hb2 : decide (k < 0) = true := by simp [h2]
        clear hs hd hs0
        go_enter Try.func64, Try.ntmps64
        go_wp2_with (first
          | ((with_reducible refine hc.mono ?_); rintro e w1 ⟨rfl, hr1, hg1⟩; obtain ⟨hgl', c0', c1', c2', c3', f0', f1', f2', f3'⟩ := hr1.blk.four; have hmv := hr1.moved (k := s.at_) hal)
          | ((with_reducible refine (xstop g _ _ _ _ _ _ _ _ hmv).mono ?_); rintro e w2 ⟨rfl, hr2, hg2⟩))
        go_ret
        exact ⟨rfl, hr2, (hg1.trans (grown_set _ _ _ _)).trans hg2⟩
      · have hb2 : decide (k < 0) = false := by simp; omega
        by_cases h3 : most < k
        · have hs : rCount l s most ee = (0, xFail s ee s.at_) := by unfold rCount; rw [if_neg (by simp [hs0]), hd]; simp only; rw [if_neg h2, if_pos h3, xFail_eq he]
          rw [hs]
          have hb3 : decide (most < k) = true := by simp [h3]
          clear hs hd hs0
          go_enter Try.func64, Try.ntmps64
          go_wp2_with (first
            | ((with_reducible refine hc.mono ?_); rintro e w1 ⟨rfl, hr1, hg1⟩; obtain ⟨hgl', c0', c1', c2', c3', f0', f1', f2', f3'⟩ := hr1.blk.four; have hmv := hr1.moved (k := s.at_) hal)
            | ((with_reducible refine (xstop g _ _ _ _ _ _ _ _ hmv).mono ?_); rintro e w2 ⟨rfl, hr2, hg2⟩))
          go_ret
          exact ⟨rfl, hr2, (hg1.trans (grown_set _ _ _ _)).trans hg2⟩
        · have hs : rCount l s most ee = (k, ⟨next, s.e, s.p⟩) := by unfold rCount; rw [if_neg (by simp [hs0]), hd]; simp only; rw [if_neg h2, if_neg h3]
          rw [hs]
          have hb3 : decide (most < k) = false := by simp; omega
          clear hs hd hs0
          go_enter Try.func64, Try.ntmps64
          go_wp2_with ((with_reducible refine hc.mono ?_); rintro e w1 ⟨rfl, hr1, hg1⟩; obtain ⟨hgl', c0', c1', c2', c3', f0', f1', f2', f3'⟩ := hr1.blk.four)
          go_ret
          exact ⟨rfl, hr1, hg1⟩

set_option maxHeartbeats 4000000 in
theorem xRCount (g : Nat) (A : Option Addr) (n c : Nat) (l : List UInt8) (s : RS) (most : Int) (w : World) (h : Rd 58 w g A n c l s) :
    Calls Try.prog 53 #[.pointer (some ⟨g, 0, none⟩), .int .i64 most] w (RdPost 58 w g A n c l (.int .i64 (rCount l s most 3).1) (rCount l s most 3).2) := by
  go_enter Try.func53, Try.ntmps53
  go_wp2_with ((with_reducible refine (xsize g _ _ _ _ _ _ _ _ h (by omega)).mono ?_); rintro e w1 ⟨rfl, hr1, hg1⟩)
  go_ret
  exact ⟨rfl, hr1, hg1⟩
set_option maxHeartbeats 4000000 in
theorem xRChoice (g : Nat) (A : Option Addr) (n c : Nat) (l : List UInt8) (s : RS) (most : Int) (w : World) (h : Rd 58 w g A n c l s) :
    Calls Try.prog 54 #[.pointer (some ⟨g, 0, none⟩), .int .i64 most] w (RdPost 58 w g A n c l (.int .i64 (rCount l s most 4).1) (rCount l s most 4).2) := by
  go_enter Try.func54, Try.ntmps54
  go_wp2_with ((with_reducible refine (xsize g _ _ _ _ _ _ _ _ h (by omega)).mono ?_); rintro e w1 ⟨rfl, hr1, hg1⟩)
  go_ret
  exact ⟨rfl, hr1, hg1⟩

theorem xsize_bad {w : World} {g : Nat} {A : Option Addr} {n c : Nat} {l : List UInt8} {s s' : RS} {most : Int} (h : Rd 58 w g A n c l s) {k : Int} (hd : rCount l s most 2 = (k, s')) :
    Calls Try.prog 64 #[.pointer (some ⟨g, 0, none⟩), .int .i64 most, .int .i64 2] w (RdPost 58 w g A n c l (.int .i64 k) s') :=
  (xsize g A n c l s most 2 w h (by omega)).mono fun e w' h => by rw [hd] at h; exact h

set_option maxRecDepth 100000 in
set_option maxHeartbeats 4000000 in
theorem xRText (g : Nat) (A : Option Addr) (n c : Nat) (l : List UInt8) (s : RS) (most : Int) (w : World) (h : Rd 58 w g A n c l s) :
    Calls Try.prog 52 #[.pointer (some ⟨g, 0, none⟩), .int .i64 most] w (RdPost 58 w g A n c l (.string ⟨(rText l s most).1.toArray⟩) (rText l s most).2) := by
  obtain ⟨hgl, c0, c1, c2, c3, f0, f1, f2, f3⟩ := h.blk.four
  have hnc := h.nc
  have hlen := h.len
  have hsm := h.small
  have hal := h.at_le
  by_cases hbad : ∃ s', rCount l s most 2 = (0, s') ∧ rText l s most = ([], s') ∧ s'.e ≠ 0
  · obtain ⟨s', h1, h2, h3⟩ := hbad
    have hb : (s'.e != 0) = true := by simp [h3]
    have hc := xsize_bad h h1
    rw [h2]
    clear h1 h2 h3
    go_enter Try.func52, Try.ntmps52
    go_wp2_with ((with_reducible refine hc.mono ?_); rintro e w1 ⟨rfl, hr1, hg1⟩; obtain ⟨hgl', c0', c1', c2', c3', f0', f1', f2', f3'⟩ := hr1.blk.four)
    go_ret
    exact ⟨rfl, hr1, hg1⟩
  · have hs0 : s.e = 0 := by
      by_cases h1 : s.e = 0
      · exact h1
      · exact absurd ⟨s, by unfold rCount; rw [if_pos h1], by unfold rText; rw [if_pos h1], h1⟩ hbad
    have hC := rCount_cnt l s most 2 hs0
    have hT := rText_cnt l s most hs0
    rcases hd : cnt l s most 2 with ⟨_ | ⟨k, next⟩, s'⟩
    · exfalso
      refine hbad ⟨s', by rw [hC, hd], by rw [hT, hd], ?_⟩
      unfold cnt at hd
      cases hdd : dec l s.at_ with
      | short => rw [hdd] at hd; injection hd with _ e; rw [← e]; exact fail_e (by omega)
      | form => rw [hdd] at hd; injection hd with _ e; rw [← e]; exact fail_e (by omega)
      | ok k next =>
        rw [hdd] at hd
        simp only at hd
        by_cases h1 : k < 0
        · rw [if_pos h1] at hd; injection hd with _ e; rw [← e]; exact fail_e (by omega)
        · rw [if_neg h1] at hd
          by_cases h2 : most < k
          · rw [if_pos h2] at hd; injection hd with _ e; rw [← e]; exact fail_e (by omega)
          · rw [if_neg h2] at hd; injection hd with e _; cases e
    · clear hbad
      have hck := cnt_ok hd
      have hdk := dec_ok hck.2.2.2
      have hle := hdk.2.2.2.1
      have hk0 := hck.2.1
      have hkm : k ≤ 9223372036854775807 := hdk.2.2.2.2.2
      rw [hd] at hC hT
      simp only at hC hT
      have hc := xsize_bad h hC
      obtain ⟨m, rfl⟩ := Int.eq_ofNat_of_zero_le hk0
      have HT := Lib.hid hT
      have hb1 : (s.e != 0) = false := by simp [hs0]
      have hwr1 : IntKind.i64.wrap ((n : Int) - (next : Int)) = (n : Int) - (next : Int) := by rw [IntKind.wrap_i64]; omega
      clear hd hck hdk hC hT hs0
      by_cases h2 : (l.length : Int) - next < m
      · have hb2 : decide ((n : Int) - (next : Int) < (m : Int)) = true := by rw [hlen] at h2; simp [h2]
        have HT2 : RowKit.Hid (rText l s most = ([], xFail s 5 n)) := by have := HT.out; rw [if_pos h2] at this; rw [this, xFail_eq (by omega), hlen]; exact rfl
        clear h2 HT hlen
        go_enter Try.func52, Try.ntmps52
        go_wp2_with ((with_reducible refine hc.mono ?_); rintro e w1 ⟨rfl, hr1, hg1⟩; obtain ⟨hgl', c0', c1', c2', c3', f0', f1', f2', f3'⟩ := hr1.blk.four; have hmv := hr1.moved (k := s.at_) hal)
        go_quiet (fail)
        have hmv2 : Rd 58 ((w1.drewN nq).setCell ⟨g, 1, none⟩ (.int .i64 (s.at_ : Int))) g A n c l ⟨s.at_, s.e, s.p⟩ := hmv.drewN nq
        go_wp2_with ((with_reducible refine (xstop g _ _ _ _ _ _ _ _ hmv2).mono ?_); rintro e w2 ⟨rfl, hr2, hg2⟩)
        go_ret
        rw [HT2.out]
        exact ⟨rfl, hr2, (grown_drewN (hg1.trans (grown_set _ _ _ _)) _).trans hg2⟩
      · have hb2 : decide ((n : Int) - (next : Int) < (m : Int)) = false := by rw [hlen] at h2; simp; omega
        have hnm : next + m ≤ n := by omega
        have HT2 : RowKit.Hid (rText l s most = ((l.drop next).take m, ⟨next + m, s.e, s.p⟩)) := by have := HT.out; rw [if_neg h2, Int.toNat_natCast] at this; rw [this]; exact rfl
        have hwr2 : IntKind.i64.wrap ((next : Int) + (m : Int)) = (next : Int) + (m : Int) := by rw [IntKind.wrap_i64]; omega
        have hnc2 : (next : Int) + (m : Int) ≤ (c : Int) := by omega
        have hn0 : (0 : Int) ≤ (next : Int) + (m : Int) := by omega
        clear h2 HT hlen
        go_enter Try.func52, Try.ntmps52
        go_wp2_with ((with_reducible refine hc.mono ?_); rintro e w1 ⟨rfl, hr1, hg1⟩; obtain ⟨hgl', c0', c1', c2', c3', f0', f1', f2', f3'⟩ := hr1.blk.four)
        go_quiet (fail)
        go_wp2
        obtain ⟨A', hsl, hA'⟩ := run_cut (P := Try.prog) _ 31 5 Try.underlying31 size_u8 hr1.reads hnc next (next + m) (by omega) hnm
        rw [Int.natCast_add] at hsl
        have hcv : ∀ q, (convert 31 9 (.slice A' (next + m - next) (c - next))).run Try.prog (w1.drewN q) = .ok (.string ⟨((l.drop next).take (next + m - next)).toArray⟩) (w1.drewN q) :=
          fun q => run_conv_reads _ _ _ _ Try.underlying31 Try.underlying5 Try.underlying9 (by rw [bytesV_drop] at hA'; exact hA'.drewN q)
        clear hA'
        rw [show next + m - next = m from by omega] at hcv hsl
        have hmv := hr1.moved (k := next + m) hnm
        rw [Int.natCast_add] at hmv
        go_quiet (fail)
        go_wp2
        go_ret
        rw [HT2.out]
        exact ⟨rfl, hmv.drewN _, grown_drewN (hg1.trans (grown_set _ _ _ _)) _⟩
end Go.Proofs.Ytglddefjmnjgdaa
