/- The walks of the reference's reader: Flag, Float, size, Count, Choice, Text, Fail, End, Left. -/
import Derived.Test.YtglddefjmnjgdaaQb
namespace Go.Proofs.Ytglddefjmnjgdaa
open Go.RowKit Fl

set_option maxHeartbeats 4000000 in
theorem xRFail (g : Nat) (A : Option Addr) (n c : Nat) (l : List UInt8) (s : RS) (ee : Int) (w : World) (h : Rd 58 w g A n c l s) :
    Calls Try.prog 55 #[.pointer (some ⟨g, 0, none⟩), .int .i64 ee] w (RdPost 58 w g A n c l (.tuple #[]) (xFail s ee s.at_)) := by
  obtain ⟨hgl, c0, c1, c2, c3, f0, f1, f2, f3⟩ := h.blk.four
  go_enter Try.func55, Try.ntmps55
  go_wp2_with ((with_reducible refine (xstop g _ _ _ _ _ _ _ _ h).mono ?_); rintro e w2 ⟨rfl, hr2, hg2⟩)
  go_end0
  exact ⟨rfl, hr2, hg2⟩

set_option maxHeartbeats 4000000 in
theorem xRLeft (g : Nat) (A : Option Addr) (n c : Nat) (l : List UInt8) (s : RS) (w : World) (h : Rd 58 w g A n c l s) :
    Calls Try.prog 57 #[.pointer (some ⟨g, 0, none⟩)] w fun e w' => e = .returned (.int .i64 (rLeft l s : Int)) ∧ ∃ q, w.drewN q = w' := by
  obtain ⟨hgl, c0, c1, c2, c3, f0, f1, f2, f3⟩ := h.blk.four
  have hlen := h.len
  have hsm := h.small
  have hal := h.at_le
  by_cases h1 : s.e = 0
  · have hb1 : (s.e != 0) = false := by simp [h1]
    have hs : ((rLeft l s : Nat) : Int) = (n : Int) - (s.at_ : Int) := by unfold rLeft; rw [if_neg (by simp [h1])]; omega
    rw [hs]
    have hw : IntKind.i64.wrap ((n : Int) - (s.at_ : Int)) = (n : Int) - (s.at_ : Int) := by rw [IntKind.wrap_i64]; omega
    clear hs h1 hlen
    go_enter Try.func57, Try.ntmps57
    go_wp2
    go_quiet (fail)
    go_wp2
    go_ret
    exact ⟨rfl, _, rfl⟩
  · have hb1 : (s.e != 0) = true := by simp [h1]
    have hs : rLeft l s = 0 := by unfold rLeft; rw [if_pos h1]
    rw [hs]
    clear hs
    go_enter Try.func57, Try.ntmps57
    go_wp2
    go_ret
    exact ⟨rfl, 0, rfl⟩

/-- what the reference's End tells -/
def xEnd (l : List UInt8) (s : RS) : Int × Nat := if s.e ≠ 0 then (s.e, s.p) else if s.at_ < l.length then (6, s.at_) else (0, 0)

set_option maxHeartbeats 4000000 in
theorem xREnd (g : Nat) (A : Option Addr) (n c : Nat) (l : List UInt8) (s : RS) (w : World) (h : Rd 58 w g A n c l s) :
    Calls Try.prog 56 #[.pointer (some ⟨g, 0, none⟩)] w fun e w' => e = .returned (.tuple #[.int .i64 (xEnd l s).1, .int .i64 ((xEnd l s).2 : Int)]) ∧ ∃ q, w.drewN q = w' := by
  obtain ⟨hgl, c0, c1, c2, c3, f0, f1, f2, f3⟩ := h.blk.four
  have hlen := h.len
  have hsm := h.small
  have hal := h.at_le
  by_cases h1 : s.e = 0
  · have hb1 : (s.e != 0) = false := by simp [h1]
    by_cases h2 : s.at_ < n
    · have hs : xEnd l s = (6, s.at_) := by unfold xEnd; rw [if_neg (by simp [h1]), if_pos (by omega)]
      rw [hs]
      have hb2 : decide (s.at_ < n) = true := by simp [h2]
      clear hs h1 hlen
      go_enter Try.func56, Try.ntmps56
      go_wp2
      go_quiet (fail)
      go_wp2
      go_quiet (fail)
      go_wp2
      go_ret2
      exact ⟨rfl, _, (World.drewN_drewN ..).symm⟩
    · have hs : xEnd l s = (0, 0) := by unfold xEnd; rw [if_neg (by simp [h1]), if_neg (by omega)]
      rw [hs]
      have hb2 : decide (s.at_ < n) = false := by simp; omega
      clear hs h1 hlen
      go_enter Try.func56, Try.ntmps56
      go_wp2
      go_quiet (fail)
      go_wp2
      go_ret2
      exact ⟨rfl, _, rfl⟩
  · have hb1 : (s.e != 0) = true := by simp [h1]
    have hs : xEnd l s = (s.e, s.p) := by unfold xEnd; rw [if_pos h1]
    rw [hs]
    clear hs
    go_enter Try.func56, Try.ntmps56
    go_wp2
    go_quiet (fail)
    go_wp2
    go_ret2
    exact ⟨rfl, _, rfl⟩

set_option maxRecDepth 100000 in
set_option maxHeartbeats 4000000 in
theorem xRFlag (g : Nat) (A : Option Addr) (n c : Nat) (l : List UInt8) (s : RS) (w : World) (h : Rd 58 w g A n c l s) :
    Calls Try.prog 50 #[.pointer (some ⟨g, 0, none⟩)] w (RdPost 58 w g A n c l (.bool (rFlag l s).1) (rFlag l s).2) := by
  obtain ⟨hgl, c0, c1, c2, c3, f0, f1, f2, f3⟩ := h.blk.four
  have hnc := h.nc
  have hlen := h.len
  have hsm := h.small
  have hal := h.at_le
  by_cases h1 : s.e = 0
  · have hb1 : (s.e != 0) = false := by simp [h1]
    by_cases h2 : s.at_ < n
    · have hb2 : ((s.at_ : Int) == (n : Int)) = false := by simp; omega
      obtain ⟨ad, x, rfl, hadl, hx, hcell⟩ := h.cell h2
      have hxl := x.toNat_lt
      have hmv := h.moved (k := s.at_ + 1) (by omega)
      rw [Int.natCast_add] at hmv
      by_cases h3 : 1 < x.toNat
      · have hs : rFlag l s = (false, xFail s 4 s.at_) := by unfold rFlag; rw [if_neg (by simp [h1]), hx]; simp only; rw [if_pos h3, xFail_eq (by omega)]
        rw [hs]
        have hb3 : decide ((1 : Int) < (x.toNat : Int)) = true := by simp; omega
        clear hs hx h1 hlen
        go_enter Try.func50, Try.ntmps50
        go_wp2
        go_quiet (fail)
        go_wp2
        go_quiet (fail)
        go_wp2_with ((with_reducible refine (xstop g _ _ _ _ _ _ _ _ (h.drewN _)).mono ?_); rintro e w2 ⟨rfl, hr2, hg2⟩)
        go_ret
        exact ⟨rfl, hr2, (grown_drewN (World.grownBy.refl _ _) _).trans hg2⟩
      · have hs : rFlag l s = (x.toNat == 1, ⟨s.at_ + 1, s.e, s.p⟩) := by unfold rFlag; rw [if_neg (by simp [h1]), hx]; simp only; rw [if_neg h3]
        rw [hs]
        have hb3 : decide ((1 : Int) < (x.toNat : Int)) = false := by simp; omega
        have hgr := grown_set w g 1 (.int .i64 ((s.at_ : Int) + 1))
        clear hs hx h1 hlen
        go_enter Try.func50, Try.ntmps50
        go_wp2
        go_quiet (fail)
        go_wp2
        go_quiet (fail)
        go_wp2
        go_ret
        exact ⟨ret_bool (by rw [Bool.eq_iff_iff]; simp; omega), hmv.drewN _, grown_drewN hgr _⟩
    · have hs : rFlag l s = (false, xFail s 5 l.length) := by unfold rFlag; rw [if_neg (by simp [h1]), List.getElem?_eq_none (by omega), xFail_eq (by omega)]
      rw [hs, hlen]
      have hb2 : ((s.at_ : Int) == (n : Int)) = true := by simp; omega
      clear hs h1 hlen
      go_enter Try.func50, Try.ntmps50
      go_wp2
      go_quiet (fail)
      go_wp2_with ((with_reducible refine (xstop g _ _ _ _ _ _ _ _ (h.drewN _)).mono ?_); rintro e w2 ⟨rfl, hr2, hg2⟩)
      go_ret
      exact ⟨rfl, hr2, (grown_drewN (World.grownBy.refl _ _) _).trans hg2⟩
  · have hb1 : (s.e != 0) = true := by simp [h1]
    have hs : rFlag l s = (false, s) := by unfold rFlag; rw [if_pos h1]
    rw [hs]
    clear hs
    go_enter Try.func50, Try.ntmps50
    go_wp2
    go_ret
    exact ⟨rfl, h, World.grownBy.refl _ _⟩

set_option maxRecDepth 100000 in
set_option maxHeartbeats 4000000 in
theorem xRFloat (g : Nat) (A : Option Addr) (n c : Nat) (l : List UInt8) (s : RS) (w : World) (h : Rd 58 w g A n c l s) :
    Calls Try.prog 51 #[.pointer (some ⟨g, 0, none⟩)] w (RdPost 58 w g A n c l (.float .f64 (rFloat l s).1) (rFloat l s).2) := by
  obtain ⟨hgl, c0, c1, c2, c3, f0, f1, f2, f3⟩ := h.blk.four
  have hnc := h.nc
  have hlen := h.len
  have hsm := h.small
  have hal := h.at_le
  by_cases h1 : s.e = 0
  · have hb1 : (s.e != 0) = false := by simp [h1]
    have hw1 : IntKind.i64.wrap ((n : Int) - (s.at_ : Int)) = (n : Int) - (s.at_ : Int) := by rw [IntKind.wrap_i64]; omega
    by_cases h2 : n - s.at_ < 8
    · have hs : rFloat l s = (0, xFail s 5 l.length) := by unfold rFloat; rw [if_neg (by simp [h1]), if_pos (by omega), xFail_eq (by omega)]
      rw [hs, hlen]
      have hb2 : decide ((n : Int) - (s.at_ : Int) < 8) = true := by simp; omega
      clear hs h1 hlen
      go_enter Try.func51, Try.ntmps51
      go_wp2
      go_quiet (fail)
      go_wp2_with ((with_reducible refine (xstop g _ _ _ _ _ _ _ _ (h.drewN _)).mono ?_); rintro e w2 ⟨rfl, hr2, hg2⟩)
      go_ret
      exact ⟨rfl, hr2, (grown_drewN (World.grownBy.refl _ _) _).trans hg2⟩
    · have hb2 : decide ((n : Int) - (s.at_ : Int) < 8) = false := by simp; omega
      have hs : rFloat l s = if canonB (leV ((l.drop s.at_).take 8)) ≠ leV ((l.drop s.at_).take 8) then (0, xFail s 4 s.at_) else (leV ((l.drop s.at_).take 8), ⟨s.at_ + 8, s.e, s.p⟩) := by
        unfold rFloat; rw [if_neg (by simp [h1]), if_neg (by omega), xFail_eq (by omega)]
      have HS := Lib.hid hs
      have hmv := h.moved (k := s.at_ + 8) (by omega)
      rw [Int.natCast_add] at hmv
      have hgr := grown_set w g 1 (.int .i64 ((s.at_ : Int) + 8))
      clear hs h1
      go_enter Try.func51, Try.ntmps51
      go_wp2
      go_quiet (fail)
      go_wp2
      go_loopw [3, 4] (fun u i wr => RdFloatRel l s.at_ w u i wr) (fun _ i _ => (intOf i + 1).toNat)
      case atStart => exact ⟨8, _, by omega, rfl, rfl, by simp [leV]⟩
      case round =>
        obtain ⟨k, q, hk, rfl, rfl, rfl⟩ := hrel
        rcases k with _ | j
        · have e : ((0 : Nat) : Int) - 1 = -1 := rfl
          rw [e]
          simp only [Nat.add_zero, Nat.sub_zero] at *
          have hci := canonB_idem (leV ((l.drop s.at_).take 8))
          generalize leV ((l.drop s.at_).take 8) = u at *
          by_cases h5 : canonB u = u
          · rw [if_neg (by simp [h5])] at HS
            have hb5 : ((canonB u : Int) != (u : Int)) = false := by simp [h5]
            have hnb := xbits (canonB u) (w.drewN q)
            rw [hci] at hnb
            clear hci
            have H5 := Lib.hid h5
            clear h5
            go_wp2_with (first | ((with_reducible refine (xof _ _).mono ?_); rintro e w' ⟨rfl, rfl⟩) | ((with_reducible refine hnb.mono ?_); rintro e w' ⟨rfl, rfl⟩))
            go_ret
            rw [HS.out, H5.out]
            exact ⟨rfl, hmv.drewN _, grown_drewN hgr _⟩
          · rw [if_pos h5] at HS
            have hb5 : ((canonB u : Int) != (u : Int)) = true := by simp; omega
            have hnb := xbits (canonB u) (w.drewN q)
            rw [hci] at hnb
            clear hci
            go_wp2_with (first | ((with_reducible refine (xof _ _).mono ?_); rintro e w' ⟨rfl, rfl⟩) | ((with_reducible refine hnb.mono ?_); rintro e w' ⟨rfl, rfl⟩) | ((with_reducible refine (xstop g _ _ _ _ _ _ _ _ (h.drewN _)).mono ?_); rintro e w2 ⟨rfl, hr2, hg2⟩))
            go_ret
            rw [HS.out]
            exact ⟨rfl, hr2, (grown_drewN (World.grownBy.refl _ _) _).trans hg2⟩
        · have e : ((j + 1 : Nat) : Int) - 1 = (j : Int) := by omega
          rw [e]
          obtain ⟨ad, x, rfl, hadl, hx, hcell⟩ := h.cell (k := s.at_ + j) (by omega)
          have hxl := x.toNat_lt
          have hin : (s.at_ : Int) + (j : Int) < (n : Int) := by omega
          have hwr : IntKind.i64.wrap ((s.at_ : Int) + (j : Int)) = (s.at_ : Int) + (j : Int) := by rw [IntKind.wrap_i64]; omega
          go_wp2
          go_quiet (fail)
          go_wp2
          go_roundw
          case rel =>
            refine ⟨j, q + nq, by omega, rfl, rfl, ?_⟩
            have hlt := leV_lt ((l.drop (s.at_ + (j + 1))).take (7 - j))
            have hpw : 256 ^ ((l.drop (s.at_ + (j + 1))).take (7 - j)).length ≤ 256 ^ 7 := Nat.pow_le_pow_right (by omega) (by rw [List.length_take]; omega)
            rw [show (256 : Nat) ^ 7 = 72057594037927936 from rfl] at hpw
            rw [shl_or _ _ (by omega), show 8 - j = (7 - j) + 1 from by omega, drop_one hx]; rfl
          case measure => simp [intOf]
  · have hb1 : (s.e != 0) = true := by simp [h1]
    have hs : rFloat l s = (0, s) := by unfold rFloat; rw [if_pos h1]
    rw [hs]
    clear hs
    go_enter Try.func51, Try.ntmps51
    go_wp2
    go_ret
    exact ⟨rfl, h, World.grownBy.refl _ _⟩
end Go.Proofs.Ytglddefjmnjgdaa
