/- The walks of a reader's functions: Int, Flag, Float, count, Text, Count, Choice, Left, Fail, Place, Fault, End, NewReader. -/
import Derived.Test.YtglddefjmnjgdaaRs
import Derived.Test.YtglddefjmnjgdaaPn
namespace Go.Proofs.Ytglddefjmnjgdaa
open Go.RowKit Fl

section
variable {w : World} {g a : Nat} {A : Option Addr} {n c : Nat} {l : List UInt8} {s : RS}
theorem num_short (hR : Rd 73 w g A n c l s) (hd : dec l s.at_ = .short) :
    Calls Try.prog 44 #[.pointer (some ⟨g, 0, none⟩), .int .i64 (s.at_ : Int)] w (RdPost 73 w g A n c l (.tuple #[.int .i64 0, .int .i64 (s.at_ : Int), .bool false]) (rFail s 5 l.length)) :=
  (wnumber g A n c l s s.at_ w hR hR.at_le).mono fun e w' h => by unfold NumPost at h; rw [hd] at h; exact h
theorem num_form (hR : Rd 73 w g A n c l s) (hd : dec l s.at_ = .form) :
    Calls Try.prog 44 #[.pointer (some ⟨g, 0, none⟩), .int .i64 (s.at_ : Int)] w (RdPost 73 w g A n c l (.tuple #[.int .i64 0, .int .i64 (s.at_ : Int), .bool false]) (rFail s 4 s.at_)) :=
  (wnumber g A n c l s s.at_ w hR hR.at_le).mono fun e w' h => by unfold NumPost at h; rw [hd] at h; exact h
theorem num_ok (hR : Rd 73 w g A n c l s) {k : Int} {next : Nat} (hd : dec l s.at_ = .ok k next) :
    Calls Try.prog 44 #[.pointer (some ⟨g, 0, none⟩), .int .i64 (s.at_ : Int)] w (RdPost 73 w g A n c l (.tuple #[.int .i64 k, .int .i64 (next : Int), .bool true]) s) :=
  (wnumber g A n c l s s.at_ w hR hR.at_le).mono fun e w' h => by unfold NumPost at h; rw [hd] at h; exact h
end

set_option maxRecDepth 100000 in
set_option maxHeartbeats 4000000 in
theorem wRInt (g : Nat) (A : Option Addr) (n c : Nat) (l : List UInt8) (s : RS) (w : World) (h : Rd 73 w g A n c l s) :
    Calls Try.prog 26 #[.pointer (some ⟨g, 0, none⟩)] w (RdPost 73 w g A n c l (.int .i64 (rInt l s).1) (rInt l s).2) := by
  obtain ⟨hgl, c0, c1, c2, c3, f0, f1, f2, f3⟩ := h.blk.four
  by_cases h1 : s.e = 0
  · have hb1 : (s.e != 0) = false := by simp [h1]
    cases hd : dec l s.at_ with
    | short =>
      have hs : rInt l s = (0, rFail s 5 l.length) := by unfold rInt; rw [if_neg (by simp [h1]), hd]
      rw [hs]
      have hc := num_short h hd
      clear hd hs h1
      go_enter Try.func26, Try.ntmps26
      go_wp2_with ((with_reducible refine hc.mono ?_); rintro e w1 ⟨rfl, hr1, hg1⟩)
      go_ret
      exact ⟨rfl, hr1, hg1⟩
    | form =>
      have hs : rInt l s = (0, rFail s 4 s.at_) := by unfold rInt; rw [if_neg (by simp [h1]), hd]
      rw [hs]
      have hc := num_form h hd
      clear hd hs h1
      go_enter Try.func26, Try.ntmps26
      go_wp2_with ((with_reducible refine hc.mono ?_); rintro e w1 ⟨rfl, hr1, hg1⟩)
      go_ret
      exact ⟨rfl, hr1, hg1⟩
    | ok k next =>
      have hs : rInt l s = (k, ⟨next, s.e, s.p⟩) := by unfold rInt; rw [if_neg (by simp [h1]), hd]
      rw [hs]
      have hc := num_ok h hd
      have hle := (dec_ok hd).2.2.2.1
      have hlen := h.len
      clear hd hs h1
      go_enter Try.func26, Try.ntmps26
      go_wp2_with ((with_reducible refine hc.mono ?_); rintro e w1 ⟨rfl, hr1, hg1⟩; obtain ⟨hgl', c0', c1', c2', c3', f0', f1', f2', f3'⟩ := hr1.blk.four)
      go_ret
      exact ⟨rfl, hr1.moved (by omega), hg1.trans (grown_set _ _ _ _)⟩
  · have hb1 : (s.e != 0) = true := by simp [h1]
    have hs : rInt l s = (0, s) := by unfold rInt; rw [if_pos h1]
    rw [hs]
    clear hs
    go_enter Try.func26, Try.ntmps26
    go_wp2
    go_ret
    exact ⟨rfl, h, World.grownBy.refl _ _⟩

set_option maxRecDepth 100000 in
set_option maxHeartbeats 4000000 in
theorem wRcount (g : Nat) (A : Option Addr) (n c : Nat) (l : List UInt8) (s : RS) (most ee : Int) (w : World) (h : Rd 73 w g A n c l s) :
    Calls Try.prog 47 #[.pointer (some ⟨g, 0, none⟩), .int .i64 most, .int .i64 ee] w
      (RdPost 73 w g A n c l (match (cnt l s most ee).1 with | none => .tuple #[.int .i64 0, .int .i64 (s.at_ : Int), .bool false] | some (k, next) => .tuple #[.int .i64 k, .int .i64 (next : Int), .bool true]) (cnt l s most ee).2) := by
  obtain ⟨hgl, c0, c1, c2, c3, f0, f1, f2, f3⟩ := h.blk.four
  cases hd : dec l s.at_ with
  | short =>
    have hs : cnt l s most ee = (none, rFail s 5 l.length) := by unfold cnt; rw [hd]
    rw [hs]
    have hc := num_short h hd
    clear hd hs
    go_enter Try.func47, Try.ntmps47
    go_wp2_with ((with_reducible refine hc.mono ?_); rintro e w1 ⟨rfl, hr1, hg1⟩; obtain ⟨hgl', c0', c1', c2', c3', f0', f1', f2', f3'⟩ := hr1.blk.four; simp only [rFail_at] at c1')
    go_quiet (fail)
    go_wp2
    go_ret3
    exact ⟨rfl, hr1.drewN _, grown_drewN hg1 _⟩
  | form =>
    have hs : cnt l s most ee = (none, rFail s 4 s.at_) := by unfold cnt; rw [hd]
    rw [hs]
    have hc := num_form h hd
    clear hd hs
    go_enter Try.func47, Try.ntmps47
    go_wp2_with ((with_reducible refine hc.mono ?_); rintro e w1 ⟨rfl, hr1, hg1⟩; obtain ⟨hgl', c0', c1', c2', c3', f0', f1', f2', f3'⟩ := hr1.blk.four; simp only [rFail_at] at c1')
    go_quiet (fail)
    go_wp2
    go_ret3
    exact ⟨rfl, hr1.drewN _, grown_drewN hg1 _⟩
  | ok k next =>
    have hc := num_ok h hd
    by_cases h2 : k < 0
    · have hs : cnt l s most ee = (none, rFail s 4 s.at_) := by unfold cnt; rw [hd]; simp only; rw [if_pos h2]
      rw [hs]
      have hb2 : decide (k < 0) = true := by simp [h2]
      clear hd hs
      go_enter Try.func47, Try.ntmps47
      go_wp2_with (first
        | ((with_reducible refine hc.mono ?_); rintro e w1 ⟨rfl, hr1, hg1⟩; obtain ⟨hgl', c0', c1', c2', c3', f0', f1', f2', f3'⟩ := hr1.blk.four)
        | ((with_reducible refine (wfail g _ _ _ _ _ _ _ _ hr1).mono ?_); rintro e w2 ⟨rfl, hr2, hg2⟩; obtain ⟨hgl2, d0', d1', d2', d3', e0', e1', e2', e3'⟩ := hr2.blk.four; simp only [rFail_at] at d1'))
      go_quiet (fail)
      go_wp2
      go_ret3
      exact ⟨rfl, hr2.drewN _, grown_drewN (hg1.trans hg2) _⟩
    · have hb2 : decide (k < 0) = false := by simp; omega
      by_cases h3 : most < k
      · have hs : cnt l s most ee = (none, rFail s ee s.at_) := by unfold cnt; rw [hd]; simp only; rw [if_neg h2, if_pos h3]
        rw [hs]
        have hb3 : decide (most < k) = true := by simp [h3]
        clear hd hs
        go_enter Try.func47, Try.ntmps47
        go_wp2_with (first
          | ((with_reducible refine hc.mono ?_); rintro e w1 ⟨rfl, hr1, hg1⟩; obtain ⟨hgl', c0', c1', c2', c3', f0', f1', f2', f3'⟩ := hr1.blk.four)
          | ((with_reducible refine (wfail g _ _ _ _ _ _ _ _ hr1).mono ?_); rintro e w2 ⟨rfl, hr2, hg2⟩; obtain ⟨hgl2, d0', d1', d2', d3', e0', e1', e2', e3'⟩ := hr2.blk.four; simp only [rFail_at] at d1'))
        go_quiet (fail)
        go_wp2
        go_ret3
        exact ⟨rfl, hr2.drewN _, grown_drewN (hg1.trans hg2) _⟩
      · have hs : cnt l s most ee = (some (k, next), s) := by unfold cnt; rw [hd]; simp only; rw [if_neg h2, if_neg h3]
        rw [hs]
        have hb3 : decide (most < k) = false := by simp; omega
        clear hd hs
        go_enter Try.func47, Try.ntmps47
        go_wp2_with ((with_reducible refine hc.mono ?_); rintro e w1 ⟨rfl, hr1, hg1⟩)
        go_ret3
        exact ⟨rfl, hr1, hg1⟩
end Go.Proofs.Ytglddefjmnjgdaa
