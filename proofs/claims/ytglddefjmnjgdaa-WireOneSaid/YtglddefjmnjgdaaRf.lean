/- The walk of (*wire.Reader).Float. -/
import Derived.Test.YtglddefjmnjgdaaRz
namespace Go.Proofs.Ytglddefjmnjgdaa
open Go.RowKit Fl

theorem leV_lt : ∀ bs : List UInt8, leV bs < 256 ^ bs.length := by
  intro bs
  induction bs with
  | nil => simp [leV]
  | cons c t ih =>
    have := c.toNat_lt
    simp only [leV, List.length_cons, Nat.pow_succ]
    omega
theorem drop_one {l : List UInt8} {k m : Nat} {x : UInt8} (hx : l[k]? = some x) : (l.drop k).take (m + 1) = x :: (l.drop (k + 1)).take m := by
  have hlt := (List.getElem?_eq_some_iff.1 hx).1
  rw [List.drop_eq_getElem_cons hlt, (List.getElem?_eq_some_iff.1 hx).2]; rfl
theorem shl_or (u : Nat) (x : UInt8) (h : u * 256 < 18446744073709551616) : bits .or .u64 (IntKind.u64.wrap ((u : Int) * 256)) (x.toNat : Int) = ((x.toNat + 256 * u : Nat) : Int) := by
  have hx := x.toNat_lt
  have e : IntKind.u64.wrap ((u : Int) * 256) = ((u * 256 : Nat) : Int) := by rw [IntKind.wrap_u64]; omega
  rw [e, Go.u64_or_nat _ _ h (by omega)]
  congr 1
  rw [Go.nat_join 8 _ _ (by simp) hx, Nat.add_comm]
  omega

theorem canonB_idem (a : Nat) : canonB (canonB a) = canonB a := by
  by_cases h : dnan a = true
  · have e : canonB a = 9221120237041090560 := by simp [canonB, h]
    rw [e]; unfold canonB; split <;> rfl
  · have e : canonB a = a := by simp [canonB, h]
    rw [e, e]
set_option maxHeartbeats 400000 in
theorem nof (a : Nat) (w : World) :
    Calls Try.prog 46 #[.int .u64 (a : Int)] w fun e w' => e = .returned (.float .f64 (canonB a)) ∧ w = w' := by
  go_enter Try.func46, Try.ntmps46
  go_wp2_with ((with_reducible refine (canon _ _).mono ?_); rintro e w' ⟨rfl, rfl⟩)
  go_ret
  exact ⟨rfl, rfl⟩

/-- the loop of Float: k is i + 1 -/
def RdFloatRel (l : List UInt8) (a : Nat) (w : World) (u i : Value) (wr : World) : Prop :=
  ∃ (k : Nat) (q : Nat), k ≤ 8 ∧ w.drewN q = wr ∧ i = .int .i64 ((k : Int) - 1) ∧ u = .int .u64 ((leV ((l.drop (a + k)).take (8 - k)) : Nat) : Int)

set_option maxRecDepth 100000 in
set_option maxHeartbeats 4000000 in
theorem wRFloat (g : Nat) (A : Option Addr) (n c : Nat) (l : List UInt8) (s : RS) (w : World) (h : Rd 73 w g A n c l s) :
    Calls Try.prog 28 #[.pointer (some ⟨g, 0, none⟩)] w (RdPost 73 w g A n c l (.float .f64 (rFloat l s).1) (rFloat l s).2) := by
  obtain ⟨hgl, c0, c1, c2, c3, f0, f1, f2, f3⟩ := h.blk.four
  have hnc := h.nc
  have hlen := h.len
  have hsm := h.small
  have hal := h.at_le
  by_cases h1 : s.e = 0
  · have hb1 : (s.e != 0) = false := by simp [h1]
    have hw1 : IntKind.i64.wrap ((n : Int) - (s.at_ : Int)) = (n : Int) - (s.at_ : Int) := by rw [IntKind.wrap_i64]; omega
    by_cases h2 : n - s.at_ < 8
    · have hs : rFloat l s = (0, rFail s 5 l.length) := by unfold rFloat; rw [if_neg (by simp [h1]), if_pos (by omega)]
      rw [hs, hlen]
      have hb2 : decide ((n : Int) - (s.at_ : Int) < 8) = true := by simp; omega
      clear hs h1 hlen
      go_enter Try.func28, Try.ntmps28
      go_wp2
      go_quiet (fail)
      go_wp2_with ((with_reducible refine (wfail g _ _ _ _ _ _ _ _ (h.drewN _)).mono ?_); rintro e w2 ⟨rfl, hr2, hg2⟩)
      go_ret
      exact ⟨rfl, hr2, (grown_drewN (World.grownBy.refl _ _) _).trans hg2⟩
    · have hb2 : decide ((n : Int) - (s.at_ : Int) < 8) = false := by simp; omega
      have hs : rFloat l s = if canonB (leV ((l.drop s.at_).take 8)) ≠ leV ((l.drop s.at_).take 8) then (0, rFail s 4 s.at_) else (leV ((l.drop s.at_).take 8), ⟨s.at_ + 8, s.e, s.p⟩) := by
        unfold rFloat; rw [if_neg (by simp [h1]), if_neg (by omega)]
      have HS := Lib.hid hs
      have hmv := h.moved (k := s.at_ + 8) (by omega)
      rw [Int.natCast_add] at hmv
      have hgr := grown_set w g 1 (.int .i64 ((s.at_ : Int) + 8))
      clear hs h1
      go_enter Try.func28, Try.ntmps28
      go_wp2
      go_quiet (fail)
      go_wp2
      go_loopw [3, 4] (fun u i wr => RdFloatRel l s.at_ w u i wr) (fun _ i _ => (intOf i + 1).toNat)
      case atStart => exact ⟨8, _, by omega, rfl, rfl, by simp [leV]⟩
      case round =>
        obtain ⟨k, q, hk, rfl, rfl, rfl⟩ := hrel
        rcases k with _ | j
        · have e : ((0 : Nat) : Int) - 1 = -1 := rfl
          rw [e]
          simp only [Nat.add_zero, Nat.sub_zero] at *
          have hci := canonB_idem (leV ((l.drop s.at_).take 8))
          have hcl : canonB (leV ((l.drop s.at_).take 8)) < 18446744073709551616 := canonB_lt (by
            have := leV_lt ((l.drop s.at_).take 8)
            rw [List.length_take, List.length_drop, show min 8 (l.length - s.at_) = 8 from by omega] at this
            exact this)
          generalize leV ((l.drop s.at_).take 8) = u at *
          by_cases h5 : canonB u = u
          · rw [if_neg (by simp [h5])] at HS
            have hb5 : ((canonB u : Int) != (u : Int)) = false := by simp [h5]
            have hnb := nbits (canonB u) (w.drewN q)
            rw [hci] at hnb
            clear hci
            have H5 := Lib.hid h5
            clear h5
            go_wp2_with (first | ((with_reducible refine (nof _ _).mono ?_); rintro e w' ⟨rfl, rfl⟩) | ((with_reducible refine hnb.mono ?_); rintro e w' ⟨rfl, rfl⟩))
            go_ret
            rw [HS.out, H5.out]
            exact ⟨rfl, hmv.drewN _, grown_drewN hgr _⟩
          · rw [if_pos h5] at HS
            have hb5 : ((canonB u : Int) != (u : Int)) = true := by simp; omega
            have hnb := nbits (canonB u) (w.drewN q)
            rw [hci] at hnb
            clear hci
            go_wp2_with (first | ((with_reducible refine (nof _ _).mono ?_); rintro e w' ⟨rfl, rfl⟩) | ((with_reducible refine hnb.mono ?_); rintro e w' ⟨rfl, rfl⟩) | ((with_reducible refine (wfail g _ _ _ _ _ _ _ _ (h.drewN _)).mono ?_); rintro e w2 ⟨rfl, hr2, hg2⟩))
            go_ret
            rw [HS.out]
            exact ⟨rfl, hr2, (grown_drewN (World.grownBy.refl _ _) _).trans hg2⟩
        · have e : ((j + 1 : Nat) : Int) - 1 = (j : Int) := by omega
          rw [e]
          obtain ⟨ad, x, rfl, hadl, hx, hcell⟩ := h.cell (k := s.at_ + j) (by omega)
          have hxl := x.toNat_lt
          have hin : (s.at_ : Int) + (j : Int) < (n : Int) := by omega
          have hwr : IntKind.i64.wrap ((s.at_ : Int) + (j : Int)) = (s.at_ : Int) + (j : Int) := by rw [IntKind.wrap_i64]; omega
          go_wp2
          go_quiet (fail)
          go_wp2
          go_roundw
          case rel =>
            refine ⟨j, q + nq, by omega, rfl, rfl, ?_⟩
            have hlt := leV_lt ((l.drop (s.at_ + (j + 1))).take (7 - j))
            have hpw : 256 ^ ((l.drop (s.at_ + (j + 1))).take (7 - j)).length ≤ 256 ^ 7 := Nat.pow_le_pow_right (by omega) (by rw [List.length_take]; omega)
            rw [show (256 : Nat) ^ 7 = 72057594037927936 from rfl] at hpw
            rw [shl_or _ _ (by omega), show 8 - j = (7 - j) + 1 from by omega, drop_one hx]; rfl
          case measure => simp [intOf]
  · have hb1 : (s.e != 0) = true := by simp [h1]
    have hs : rFloat l s = (0, s) := by unfold rFloat; rw [if_pos h1]
    rw [hs]
    clear hs
    go_enter Try.func28, Try.ntmps28
    go_wp2
    go_ret
    exact ⟨rfl, h, World.grownBy.refl _ _⟩
end Go.Proofs.Ytglddefjmnjgdaa
