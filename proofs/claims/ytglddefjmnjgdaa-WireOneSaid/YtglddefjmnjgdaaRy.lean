/- The walks of a reader's functions: NewReader, Flag, Float, Left, Fail, Place, Fault, End. -/
import Derived.Test.YtglddefjmnjgdaaRx
namespace Go.Proofs.Ytglddefjmnjgdaa
open Go.RowKit Fl

set_option maxHeartbeats 4000000 in
theorem wRFail (g : Nat) (A : Option Addr) (n c : Nat) (l : List UInt8) (s : RS) (ee : Int) (w : World) (h : Rd 73 w g A n c l s) :
    Calls Try.prog 36 #[.pointer (some ⟨g, 0, none⟩), .int .i64 ee] w (RdPost 73 w g A n c l (.tuple #[]) (rFail s ee s.at_)) := by
  obtain ⟨hgl, c0, c1, c2, c3, f0, f1, f2, f3⟩ := h.blk.four
  go_enter Try.func36, Try.ntmps36
  go_wp2_with ((with_reducible refine (wfail g _ _ _ _ _ _ _ _ h).mono ?_); rintro e w2 ⟨rfl, hr2, hg2⟩)
  go_end0
  exact ⟨rfl, hr2, hg2⟩

set_option maxHeartbeats 4000000 in
theorem wRPlace (g : Nat) (A : Option Addr) (n c : Nat) (l : List UInt8) (s : RS) (w : World) (h : Rd 73 w g A n c l s) :
    Calls Try.prog 25 #[.pointer (some ⟨g, 0, none⟩)] w fun e w' => e = .returned (.int .i64 (s.at_ : Int)) ∧ w = w' := by
  obtain ⟨hgl, c0, c1, c2, c3, f0, f1, f2, f3⟩ := h.blk.four
  go_enter Try.func25, Try.ntmps25
  go_wp2
  go_ret
  exact ⟨rfl, rfl⟩

set_option maxHeartbeats 4000000 in
theorem wRFault (g : Nat) (A : Option Addr) (n c : Nat) (l : List UInt8) (s : RS) (w : World) (h : Rd 73 w g A n c l s) :
    Calls Try.prog 23 #[.pointer (some ⟨g, 0, none⟩)] w fun e w' => e = .returned (.tuple #[.int .i64 s.e, .int .i64 (s.p : Int)]) ∧ ∃ q, w.drewN q = w' := by
  obtain ⟨hgl, c0, c1, c2, c3, f0, f1, f2, f3⟩ := h.blk.four
  go_enter Try.func23, Try.ntmps23
  go_wp2
  go_quiet (fail)
  go_wp2
  go_ret2
  exact ⟨rfl, _, rfl⟩

set_option maxHeartbeats 4000000 in
theorem wRLeft (g : Nat) (A : Option Addr) (n c : Nat) (l : List UInt8) (s : RS) (w : World) (h : Rd 73 w g A n c l s) :
    Calls Try.prog 24 #[.pointer (some ⟨g, 0, none⟩)] w fun e w' => e = .returned (.int .i64 (rLeft l s : Int)) ∧ ∃ q, w.drewN q = w' := by
  obtain ⟨hgl, c0, c1, c2, c3, f0, f1, f2, f3⟩ := h.blk.four
  have hlen := h.len
  have hsm := h.small
  have hal := h.at_le
  by_cases h1 : s.e = 0
  · have hb1 : (s.e != 0) = false := by simp [h1]
    have hs : ((rLeft l s : Nat) : Int) = (n : Int) - (s.at_ : Int) := by unfold rLeft; rw [if_neg (by simp [h1])]; omega
    rw [hs]
    have hw : IntKind.i64.wrap ((n : Int) - (s.at_ : Int)) = (n : Int) - (s.at_ : Int) := by rw [IntKind.wrap_i64]; omega
    clear hs h1 hlen
    go_enter Try.func24, Try.ntmps24
    go_wp2
    go_quiet (fail)
    go_wp2
    go_ret
    exact ⟨rfl, _, rfl⟩
  · have hb1 : (s.e != 0) = true := by simp [h1]
    have hs : rLeft l s = 0 := by unfold rLeft; rw [if_pos h1]
    rw [hs]
    clear hs
    go_enter Try.func24, Try.ntmps24
    go_wp2
    go_ret
    exact ⟨rfl, 0, rfl⟩

set_option maxHeartbeats 4000000 in
theorem wREnd (g : Nat) (A : Option Addr) (n c : Nat) (l : List UInt8) (s : RS) (w : World) (h : Rd 73 w g A n c l s) :
    Calls Try.prog 32 #[.pointer (some ⟨g, 0, none⟩)] w fun e w' => e = .returned (.tuple #[.int .i64 (rEnd l s).1, .int .i64 ((rEnd l s).2 : Int)]) ∧ ∃ q, w.drewN q = w' := by
  obtain ⟨hgl, c0, c1, c2, c3, f0, f1, f2, f3⟩ := h.blk.four
  have hlen := h.len
  have hsm := h.small
  have hal := h.at_le
  by_cases h1 : s.e = 0
  · have hb1 : (s.e == 0) = true := by simp [h1]
    by_cases h2 : s.at_ < n
    · have hs : rEnd l s = (6, s.at_) := by unfold rEnd; rw [if_pos ⟨h1, by omega⟩]
      rw [hs]
      have hb2 : decide (s.at_ < n) = true := by simp [h2]
      clear hs h1 hlen
      go_enter Try.func32, Try.ntmps32
      go_wp2
      go_quiet (fail)
      go_wp2
      go_quiet (fail)
      go_wp2
      go_ret2
      exact ⟨rfl, _, (World.drewN_drewN ..).symm⟩
    · have hs : rEnd l s = (s.e, s.p) := by unfold rEnd; rw [if_neg (by rintro ⟨_, h3⟩; omega)]
      rw [hs]
      have hb2 : decide (s.at_ < n) = false := by simp; omega
      clear hs h1 hlen
      go_enter Try.func32, Try.ntmps32
      go_wp2
      go_quiet (fail)
      go_wp2_with ((with_reducible refine (wRFault g _ _ _ _ _ _ (h.drewN _)).mono ?_); rintro e w2 ⟨rfl, q, rfl⟩)
      go_ret2
      exact ⟨rfl, _, rfl⟩
  · have hb1 : (s.e == 0) = false := by simp [h1]
    have hs : rEnd l s = (s.e, s.p) := by unfold rEnd; rw [if_neg (by rintro ⟨h3, _⟩; exact h1 h3)]
    rw [hs]
    clear hs
    go_enter Try.func32, Try.ntmps32
    go_wp2
    go_quiet (fail)
    go_wp2_with ((with_reducible refine (wRFault g _ _ _ _ _ _ (h.drewN _)).mono ?_); rintro e w2 ⟨rfl, q, rfl⟩)
    go_ret2
    exact ⟨rfl, _, rfl⟩
end Go.Proofs.Ytglddefjmnjgdaa
