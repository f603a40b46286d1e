/- The walks of a reader's functions: NewReader, Flag, Float. -/
import Derived.Test.YtglddefjmnjgdaaRy
namespace Go.Proofs.Ytglddefjmnjgdaa
open Go.RowKit Fl

def NewRd (t : TypeId) (w : World) (l : List UInt8) : Ending → World → Prop := fun e w' =>
  ∃ A n c, e = .returned (.pointer (some ⟨w'.heap.size - 1, 0, none⟩)) ∧ 0 < w'.heap.size ∧ w.heap.size ≤ w'.heap.size - 1 ∧ Rd t w' (w'.heap.size - 1) A n c l ⟨0, 0, 0⟩ ∧ (∀ ad, A = some ad → w.heap.size ≤ ad.block) ∧ Below w.heap.size w w'

set_option maxRecDepth 100000 in
set_option maxHeartbeats 4000000 in
theorem wRNew (A : Option Addr) (n c : Nat) (l : List UInt8) (w : World) (h : Reads w w.heap.size 1 A n (bytesV l)) (hsm : n ≤ 1000000000000) :
    Calls Try.prog 22 #[.slice A n c] w (NewRd 73 w l) := by
  obtain ⟨i0, hi0, hz0, hz1, hz2⟩ := info_parts u8_info
  have hlen : l.length = n := by have := h.1; simpa using this
  go_enter Try.func22, Try.ntmps22
  go_wp2_with (first
          | (at_builtin
             refine wpList_append_any _ rfl (.tmp 3) (.tmp 4) _ rfl w.heap.size 5 i0 _ 1 1 Try.underlying31 hi0 hz0 hz1 hz2 rfl (by omega) (.slice (some ⟨w.heap.size, 0, none⟩) 0 0) 0 [] (by rfl)
               (World.ownsRow_made w #[] 0 (Nat.le_refl _) (by unfold maxLen; omega) rfl) w.heap.size A n c (bytesV l) (by rfl) (h.alloc (Nat.le_refl _) _) (bytesV_one _) (by unfold maxLen; omega) (by omega) (by simp) ?_
             intro v1 w1 hown1 hg1 hat1
             simp only [Nat.zero_add, List.nil_append] at hown1
             obtain ⟨A1, c1, rfl, hn1, hc1⟩ := own_form hown1))
  have hb1 : Below w.heap.size w w1 := ((Below.refl _ _).alloc (Nat.le_refl _) _).grown hg1 (by simp) (by intro k hk; simp [Value.ownBlock] at hk; omega)
  go_ret
  have hz := hb1.size
  have hrd := Reads.of_own hown1
  refine ⟨A1, n, c1, by simp, by simp, by simpa using hz, ?_, ?_, hb1.alloc hz _⟩
  · refine ⟨Blk.new' _ _ (by simp), ?_, hlen, hsm, ?_, Nat.zero_le _, hn1, hc1⟩
    · simpa using (hrd.alloc (Nat.le_refl _) _).more (Nat.le_succ _)
    · intro ad e hn
      subst e
      have h5 := hown1.lt ad.block (by obtain ⟨g, cap, hv, _, _⟩ := hown1.form hn; injection hv with e1; injection e1 with e1; subst e1; rfl)
      have := h5.2
      simp; omega
  · intro ad e
    subst e
    rcases hown1.2 with ⟨hv, _⟩ | ⟨g, cap, cur, hv, hg, _⟩
    · cases hv
    · injection hv with e1; injection e1 with e1; subst e1; exact hg

set_option maxRecDepth 100000 in
set_option maxHeartbeats 4000000 in
theorem wRFlag (g : Nat) (A : Option Addr) (n c : Nat) (l : List UInt8) (s : RS) (w : World) (h : Rd 73 w g A n c l s) :
    Calls Try.prog 27 #[.pointer (some ⟨g, 0, none⟩)] w (RdPost 73 w g A n c l (.bool (rFlag l s).1) (rFlag l s).2) := by
  obtain ⟨hgl, c0, c1, c2, c3, f0, f1, f2, f3⟩ := h.blk.four
  have hnc := h.nc
  have hlen := h.len
  have hsm := h.small
  have hal := h.at_le
  by_cases h1 : s.e = 0
  · have hb1 : (s.e != 0) = false := by simp [h1]
    by_cases h2 : s.at_ < n
    · have hb2 : decide (n ≤ s.at_) = false := by simp; omega
      obtain ⟨ad, x, rfl, hadl, hx, hcell⟩ := h.cell h2
      have hxl := x.toNat_lt
      have hmv := h.moved (k := s.at_ + 1) (by omega)
      by_cases h3 : 1 < x.toNat
      · have hs : rFlag l s = (false, rFail s 4 s.at_) := by unfold rFlag; rw [if_neg (by simp [h1]), hx]; simp only; rw [if_pos h3]
        rw [hs]
        have hb3 : decide ((1 : Int) < (x.toNat : Int)) = true := by simp; omega
        clear hs hx h1 hlen
        go_enter Try.func27, Try.ntmps27
        go_wp2
        go_quiet (fail)
        go_wp2
        go_quiet (fail)
        go_wp2_with ((with_reducible refine (wfail g _ _ _ _ _ _ _ _ (h.drewN _)).mono ?_); rintro e w2 ⟨rfl, hr2, hg2⟩)
        go_ret
        exact ⟨rfl, hr2, (grown_drewN (World.grownBy.refl _ _) _).trans hg2⟩
      · have hs : rFlag l s = (x.toNat == 1, ⟨s.at_ + 1, s.e, s.p⟩) := by unfold rFlag; rw [if_neg (by simp [h1]), hx]; simp only; rw [if_neg h3]
        rw [hs]
        have hb3 : decide ((1 : Int) < (x.toNat : Int)) = false := by simp; omega
        clear hs hx h1 hlen
        go_enter Try.func27, Try.ntmps27
        go_wp2
        go_quiet (fail)
        go_wp2
        go_quiet (fail)
        go_wp2
        have hmv' := hmv
        rw [Int.natCast_add] at hmv'
        have hw1 : IntKind.i64.wrap (((s.at_ : Int) + 1) - 1) = (s.at_ : Int) := by rw [IntKind.wrap_i64]; omega
        have hcell' := hcell
        rw [← World.cell?_setCell_other w ⟨g, 1, none⟩ (ad.add s.at_) (.int .i64 ((s.at_ : Int) + 1)) (by intro e; have := h.apart ad rfl (by omega); rw [← block_of_add ad s.at_, ← e] at this; exact this rfl)] at hcell'
        have hgr := grown_set w g 1 (.int .i64 ((s.at_ : Int) + 1))
        have hwn : ∀ q, (w.drewN q).setCell ⟨g, 1, none⟩ (.int .i64 ((s.at_ : Int) + 1)) = (w.setCell ⟨g, 1, none⟩ (.int .i64 ((s.at_ : Int) + 1))).drewN q := fun _ => rfl
        rw [hwn]
        obtain ⟨hgl2, d0, d1, d2, d3, e0, e1, e2, e3⟩ := hmv'.blk.four
        generalize w.setCell ⟨g, 1, none⟩ (.int .i64 ((s.at_ : Int) + 1)) = w2 at *
        clear c0 c1 c2 c3 f0 f1 f2 f3 hwn
        clear hcell
        go_quiet (fail)
        go_wp2
        go_ret
        exact ⟨ret_bool (by rw [Bool.eq_iff_iff]; simp; omega), hmv'.drewN _, grown_drewN hgr _⟩
    · have hs : rFlag l s = (false, rFail s 5 l.length) := by unfold rFlag; rw [if_neg (by simp [h1]), List.getElem?_eq_none (by omega)]
      rw [hs, hlen]
      have hb2 : decide (n ≤ s.at_) = true := by simp; omega
      clear hs h1 hlen
      go_enter Try.func27, Try.ntmps27
      go_wp2
      go_quiet (fail)
      go_wp2_with ((with_reducible refine (wfail g _ _ _ _ _ _ _ _ (h.drewN _)).mono ?_); rintro e w2 ⟨rfl, hr2, hg2⟩)
      go_ret
      exact ⟨rfl, hr2, (grown_drewN (World.grownBy.refl _ _) _).trans hg2⟩
  · have hb1 : (s.e != 0) = true := by simp [h1]
    have hs : rFlag l s = (false, s) := by unfold rFlag; rw [if_pos h1]
    rw [hs]
    clear hs
    go_enter Try.func27, Try.ntmps27
    go_wp2
    go_ret
    exact ⟨rfl, h, World.grownBy.refl _ _⟩
end Go.Proofs.Ytglddefjmnjgdaa
