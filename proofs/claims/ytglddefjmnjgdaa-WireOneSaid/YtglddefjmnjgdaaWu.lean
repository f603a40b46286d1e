/- The walk of stands. -/
import Derived.Test.YtglddefjmnjgdaaWt
namespace Go.Proofs.Ytglddefjmnjgdaa
open Go.RowKit Fl

theorem sim_end {s y : RS} (l : List UInt8) (h : Sim s y) : xEnd l y = rEnd l s := by
  unfold xEnd rEnd
  rw [h.e, h.at_]
  by_cases h1 : s.e = 0
  · rw [if_neg (by simp [h1])]
    by_cases h2 : s.at_ < l.length
    · rw [if_pos h2, if_pos ⟨h1, h2⟩]
    · rw [if_neg h2, if_neg (fun h => h2 h.2), h1, h.zero h1]
  · rw [if_pos h1, if_neg (fun h => h1 h.1), h.p h1]
theorem sim_left {s y : RS} (l : List UInt8) (h : Sim s y) : rLeft l y = rLeft l s := by unfold rLeft; rw [h.e, h.at_]

section
variable {w : World} {g : Nat} {A : Option Addr} {n c : Nat} {l : List UInt8} {s : RS}
theorem qPlace (h : Rd 73 w g A n c l s) (Q q : Nat) : Calls Try.prog 25 #[.pointer (some ⟨g, 0, none⟩)] (w.drewN (Q + q)) fun e w' => e = .returned (.int .i64 (s.at_ : Int)) ∧ ∃ m, w' = w.drewN (Q + m) :=
  (wRPlace _ _ _ _ _ _ _ (h.drewN (Q + q))).mono fun _ _ ⟨he, hw⟩ => ⟨he, q, hw.symm⟩
theorem qLeft (h : Rd 73 w g A n c l s) (Q q : Nat) : Calls Try.prog 24 #[.pointer (some ⟨g, 0, none⟩)] (w.drewN (Q + q)) fun e w' => e = .returned (.int .i64 (rLeft l s : Int)) ∧ ∃ m, w' = w.drewN (Q + m) :=
  (wRLeft _ _ _ _ _ _ _ (h.drewN (Q + q))).mono fun _ _ ⟨he, m, hw⟩ => ⟨he, q + m, by rw [← hw, World.drewN_drewN, Nat.add_assoc]⟩
theorem qxLeft (h : Rd 58 w g A n c l s) (Q q : Nat) : Calls Try.prog 57 #[.pointer (some ⟨g, 0, none⟩)] (w.drewN (Q + q)) fun e w' => e = .returned (.int .i64 (rLeft l s : Int)) ∧ ∃ m, w' = w.drewN (Q + m) :=
  (xRLeft _ _ _ _ _ _ _ (h.drewN (Q + q))).mono fun _ _ ⟨he, m, hw⟩ => ⟨he, q + m, by rw [← hw, World.drewN_drewN, Nat.add_assoc]⟩
end

set_option maxRecDepth 100000 in
set_option maxHeartbeats 8000000 in
theorem stands_any (g : Nat) (A : Option Addr) (n c : Nat) (g2 : Nat) (A2 : Option Addr) (c2 : Nat) (l : List UInt8) (s y : RS) (w : World) (h : Two w g A n c g2 A2 c2 l s y) (hs : Sim s y) :
    Calls Try.prog 35 #[.pointer (some ⟨g, 0, none⟩), .pointer (some ⟨g2, 0, none⟩)] w fun e w' => e = .returned (.bool true) ∧ ∃ q, w.drewN q = w' := by
  have hend := sim_end l hs
  have hleft := sim_left l hs
  obtain ⟨ya, ye, yp⟩ := y
  obtain ⟨e1, e2, hp, h0⟩ := hs
  simp only at e1 e2 hp
  subst e1 e2
  obtain ⟨hgl, c0, c1, c2', c3, f0, f1, f2, f3⟩ := h.xd.blk.four
  have hE1 := wRFault _ _ _ _ _ _ _ h.rd
  have hE2 := fun q => wREnd _ _ _ _ _ _ _ (h.rd.drewN q)
  have hE3 := fun q => xREnd _ _ _ _ _ _ _ (h.xd.drewN q)
  rw [hend] at hE3
  have hL1 := qPlace h.rd
  have hL2 := qLeft h.rd
  have hL3 := qxLeft h.xd
  rw [hleft] at hL3
  clear hend hleft
  generalize rLeft l s = L at *
  generalize rEnd l s = E at *
  obtain ⟨E1, E2⟩ := E
  simp only at hE2 hE3
  by_cases h1 : s.e = 0
  · have hb1 : (s.e == 0) = true := by simp [h1]
    have hp0 : s.p = 0 := h0 h1
    rw [hp0] at hE1
    clear h1 hp h0 hp0
    go_enter Try.func35, Try.ntmps35
    go_wp2_with (first
      | ((with_reducible refine hE1.mono ?_); rintro e w2 ⟨rfl, q2, rfl⟩)
      | ((with_reducible refine (hE2 _).mono ?_); rintro e w3 ⟨rfl, q3, rfl⟩)
      | ((with_reducible refine (hE3 _).mono ?_); rintro e w4 ⟨rfl, q4, rfl⟩))
    go_quiet (first
      | (go_at_call 25; exact hL1 _ _)
      | (go_at_call 24; exact hL2 _ _)
      | (go_at_call 57; exact hL3 _ _))
    go_wp2
    go_ret
    exact ⟨rfl, _, (World.drewN_drewN ..).symm⟩
  · have hb1 : (s.e == 0) = false := by simp [h1]
    obtain rfl : yp = s.p := hp h1
    clear h1 hp h0
    go_enter Try.func35, Try.ntmps35
    go_wp2_with (first
      | ((with_reducible refine hE1.mono ?_); rintro e w2 ⟨rfl, q2, rfl⟩)
      | ((with_reducible refine (hE2 _).mono ?_); rintro e w3 ⟨rfl, q3, rfl⟩)
      | ((with_reducible refine (hE3 _).mono ?_); rintro e w4 ⟨rfl, q4, rfl⟩))
    go_quiet (first
      | (go_at_call 25; exact hL1 _ _)
      | (go_at_call 24; exact hL2 _ _)
      | (go_at_call 57; exact hL3 _ _))
    go_wp2
    go_ret
    exact ⟨rfl, _, (World.drewN_drewN ..).symm⟩
end Go.Proofs.Ytglddefjmnjgdaa
