/- The walk of WireLeft. -/
import Derived.Test.YtglddefjmnjgdaaWd
namespace Go.Proofs.Ytglddefjmnjgdaa
open Go.RowKit Fl

theorem rCount_range (l : List UInt8) (s : RS) (most e : Int) (h : 0 ≤ most) : 0 ≤ (rCount l s most e).1 ∧ (rCount l s most e).1 ≤ most := by
  unfold rCount
  by_cases h1 : s.e = 0
  · rw [if_neg (by simp [h1])]
    cases dec l s.at_ with
    | short => exact ⟨Int.le_refl _, h⟩
    | form => exact ⟨Int.le_refl _, h⟩
    | ok n next =>
      simp only
      by_cases h2 : n < 0
      · rw [if_pos h2]; exact ⟨Int.le_refl _, h⟩
      · rw [if_neg h2]
        by_cases h3 : most < n
        · rw [if_pos h3]; exact ⟨Int.le_refl _, h⟩
        · rw [if_neg h3]; exact ⟨by omega, by omega⟩
  · rw [if_pos h1]; exact ⟨Int.le_refl _, h⟩

def LoopL (w : World) (l : List It) (g : Nat) (A : Option Addr) (n c : Nat) (b : List UInt8) (i : Value) (wr : World) : Prop :=
  ∃ (k : Nat) (s : RS), k ≤ l.length ∧ i = .int .i64 (k : Int) ∧ Rd 73 wr g A n c b s ∧ Below w.heap.size w wr

set_option maxRecDepth 100000 in
set_option maxHeartbeats 8000000 in
theorem left_walk (A : Option Addr) (n c : Nat) (b : List UInt8) (A2 : Option Addr) (n2 c2 : Nat) (l : List It) (w : World) (h : Reads w w.heap.size 1 A n (bytesV b)) (hn : n ≤ maxLen) (h2 : Sl ItRel 5 w w.heap.size A2 n2 l) (hn2 : n2 ≤ maxLen) :
    Calls Try.prog 6 #[.slice A n c, .slice A2 n2 c2] w fun e w' => e = .returned (.bool true) ∧ Below w.heap.size w w' := by
  have hmx2 := hn2
  unfold maxLen at hn hn2
  have hlen2 : l.length = n2 := h2.1
  have hle2 : l.length ≤ n2 := by omega
  have hge2 : n2 ≤ l.length := by omega
  clear hlen2
  by_cases hbig : 20000 < n
  · have hd1 : decide ((20000 : Int) < (n : Int)) = true := by simp; omega
    go_enter Try.func6, Try.ntmps6
    go_wp2_with fail
    refine (first_any _).mono ?_
    rintro e w1 ⟨rfl, hb1⟩
    go_wp2_with fail
    refine (first_any _).mono ?_
    rintro e w2 ⟨rfl, hb2⟩
    go_wp2
    go_ret
    exact ⟨rfl, hb1.trans (hb2.mono hb1.size)⟩
  · have hd1 : decide ((20000 : Int) < (n : Int)) = false := by simp; omega
    have hsm : n ≤ 20000 := by omega
    clear hbig
    by_cases hf : fewB l = true
    · go_enter Try.func6, Try.ntmps6
      go_wp2_with fail
      refine (first_any _).mono ?_
      rintro e w1 ⟨rfl, hb1⟩
      have h12 := (h2.below ItRel.kept hb1).more ItRel.kept hb1.size
      have h11 := (h.below hb1).more hb1.size
      go_wp2_with fail
      refine (few_any _ _ _ _ _ h12 hmx2).mono ?_
      rintro e w1 ⟨rfl, rfl⟩
      rw [hf]
      clear hf h12
      go_wp2_with fail
      refine (wRNew _ _ _ _ _ h11 (by omega)).mono ?_
      rintro e w2 ⟨Ar, nr, cr, rfl, hp, hk, hR, hA, hb2⟩
      have hb3 := hb1.trans (hb2.mono hb1.size)
      have hzb1 := hb1.size
      have hnr : nr = n := by have e1 := hR.len; have e2 := h.1; rw [bytesV_len] at e2; omega
      subst hnr
      generalize hkk : w2.heap.size - 1 = g at *
      have hgw : w.heap.size ≤ g := by omega
      clear hkk hp hk hA hb2 h11 hb1 hzb1
      go_wp2_with fail
      go_loopw [6] (fun i wr => LoopL w l g Ar nr cr b i wr) (fun i _ => n2 - (intOf i).toNat)
      case atStart => exact ⟨0, _, by omega, rfl, hR, hb3⟩
      case round =>
        obtain ⟨k, s, hk, rfl, hRk, hbk⟩ := hrel
        have hzk := hbk.size
        by_cases hlt : k < n2
        · obtain ⟨ad, a, rfl, hl, hab, hok, c0, c1, c2', c3, c4⟩ := ((h2.below ItRel.kept hbk).more ItRel.kept hzk).it hlt
          have hd2 : decide ((k : Int) < (n2 : Int)) = true := by simp; omega
          have hlen := hRk.len
          have hal := hRk.at_le
          have hleft : (s.e = 0 ∧ (s.at_ : Int) + (rLeft b s : Int) = (nr : Int)) ∨ (s.e ≠ 0 ∧ rLeft b s = 0) := by
            unfold rLeft
            by_cases h1 : s.e = 0
            · left; rw [if_neg (by simp [h1])]; exact ⟨h1, by omega⟩
            · right; rw [if_pos h1]; exact ⟨h1, rfl⟩
          have hlb : (rLeft b s : Int) ≤ 20000 := by
            rcases hleft with ⟨_, e⟩ | ⟨_, e⟩ <;> omega
          have hcr := rCount_range b s (rLeft b s : Int) 3 (by omega)
          have hLc := fun q => wRLeft g Ar nr cr b s (wr.drewN q) (hRk.drewN q)
          have hCc := fun q => wRCount g Ar nr cr b s (rLeft b s : Int) (wr.drewN q) (hRk.drewN q)
          clear hl hlen
          generalize rLeft b s = L at *
          generalize (rCount b s (L : Int) 3).2 = s3 at *
          generalize (rCount b s (L : Int) 3).1 = v3 at *
          have hkcase : a.k = 0 ∨ (a.k ≠ 0 ∧ a.k = 1) ∨ (a.k ≠ 0 ∧ a.k ≠ 1 ∧ a.k = 2) ∨ (a.k ≠ 0 ∧ a.k ≠ 1 ∧ a.k ≠ 2) := by omega
          have hbq : ∀ q, Below w.heap.size w (wr.drewN q) := fun q => hbk.trans ⟨rfl, rfl, rfl, Nat.le_refl _, fun _ _ => rfl⟩
          have hd5 : decide (v3 < 0) = false := by simp; omega
          have hd6 : decide ((L : Int) < v3) = false := by simp; omega
          rcases hleft with ⟨he, hsum⟩ | ⟨he, rfl⟩
          all_goals (
            first
              | (have he1 : (s.e == 0) = true := by simp [he]
                 have he2 : (s.e != 0) = false := by simp [he]
                 have he3 : ((s.at_ : Int) + (L : Int) != (nr : Int)) = false := by simp; omega
                 clear he hsum)
              | (have he1 : (s.e == 0) = false := by simp [he]
                 have he2 : (s.e != 0) = true := by simp [he]
                 simp only [show ((0 : Nat) : Int) = 0 from rfl] at hCc
                 clear he)
            rcases hkcase with k0 | ⟨k0, k1⟩ | ⟨k0, k1, k2⟩ | ⟨k0, k1, k2⟩
            · have b0 : (a.k == 0) = true := by simp [k0]
              clear k0
              go_wp2_with (first
                | ((with_reducible refine (wRFault _ _ _ _ _ _ _ hRk).mono ?_); rintro e w3 ⟨rfl, q, rfl⟩)
                | ((with_reducible refine (hLc _).mono ?_); rintro e w4 ⟨rfl, q2, rfl⟩)
                | ((with_reducible refine (wRPlace _ _ _ _ _ _ _ (hRk.drewN _)).mono ?_); rintro e w5 ⟨rfl, rfl⟩)
                | ((with_reducible refine (wRInt _ _ _ _ _ _ _ (hRk.drewN _)).mono ?_); rintro e w6 ⟨rfl, hr6, hg6⟩))
              go_roundw
              case rel => exact ⟨k + 1, _, by omega, by go_num, hr6, (hbq _).grown hg6 hzk (by intro j hj; injection hj; omega)⟩
              case measure => simp [intOf]; omega
            · have b0 : (a.k == 0) = false := by simp [k0]
              have b1 : (a.k == 1) = true := by simp [k1]
              clear k0 k1
              go_wp2_with (first
                | ((with_reducible refine (wRFault _ _ _ _ _ _ _ hRk).mono ?_); rintro e w3 ⟨rfl, q, rfl⟩)
                | ((with_reducible refine (hLc _).mono ?_); rintro e w4 ⟨rfl, q2, rfl⟩)
                | ((with_reducible refine (wRPlace _ _ _ _ _ _ _ (hRk.drewN _)).mono ?_); rintro e w5 ⟨rfl, rfl⟩)
                | ((with_reducible refine (wRFlag _ _ _ _ _ _ _ (hRk.drewN _)).mono ?_); rintro e w6 ⟨rfl, hr6, hg6⟩))
              go_roundw
              case rel => exact ⟨k + 1, _, by omega, by go_num, hr6, (hbq _).grown hg6 hzk (by intro j hj; injection hj; omega)⟩
              case measure => simp [intOf]; omega
            · have b0 : (a.k == 0) = false := by simp [k0]
              have b1 : (a.k == 1) = false := by simp [k1]
              have b2 : (a.k == 2) = true := by simp [k2]
              clear k0 k1 k2
              go_wp2_with (first
                | ((with_reducible refine (wRFault _ _ _ _ _ _ _ hRk).mono ?_); rintro e w3 ⟨rfl, q, rfl⟩)
                | ((with_reducible refine (hLc _).mono ?_); rintro e w4 ⟨rfl, q2, rfl⟩)
                | ((with_reducible refine (wRPlace _ _ _ _ _ _ _ (hRk.drewN _)).mono ?_); rintro e w5 ⟨rfl, rfl⟩)
                | ((with_reducible refine (wRFloat _ _ _ _ _ _ _ (hRk.drewN _)).mono ?_); rintro e w6 ⟨rfl, hr6, hg6⟩))
              go_roundw
              case rel => exact ⟨k + 1, _, by omega, by go_num, hr6, (hbq _).grown hg6 hzk (by intro j hj; injection hj; omega)⟩
              case measure => simp [intOf]; omega
            · have b0 : (a.k == 0) = false := by simp [k0]
              have b1 : (a.k == 1) = false := by simp [k1]
              have b2 : (a.k == 2) = false := by simp [k2]
              clear k0 k1 k2
              go_wp2_with (first
                | ((with_reducible refine (wRFault _ _ _ _ _ _ _ hRk).mono ?_); rintro e w3 ⟨rfl, q, rfl⟩)
                | ((with_reducible refine (hLc _).mono ?_); rintro e w4 ⟨rfl, q2, rfl⟩)
                | ((with_reducible refine (wRPlace _ _ _ _ _ _ _ (hRk.drewN _)).mono ?_); rintro e w5 ⟨rfl, rfl⟩)
                | ((with_reducible refine (hCc _).mono ?_); rintro e w6 ⟨rfl, hr6, hg6⟩))
              go_roundw
              case rel => exact ⟨k + 1, _, by omega, by go_num, hr6, (hbq _).grown hg6 hzk (by intro j hj; injection hj; omega)⟩
              case measure => simp [intOf]; omega)
        · have hd2 : decide ((k : Int) < (n2 : Int)) = false := by simp; omega
          go_wp2_with ((with_reducible refine (first_any _).mono ?_); rintro e w5 ⟨rfl, hb5⟩)
          go_ret
          exact ⟨rfl, hbk.trans (hb5.mono hbk.size)⟩
    · have hf' : fewB l = false := by simpa using hf
      clear hf
      go_enter Try.func6, Try.ntmps6
      go_wp2_with fail
      refine (first_any _).mono ?_
      rintro e w1 ⟨rfl, hb1⟩
      have h12 := (h2.below ItRel.kept hb1).more ItRel.kept hb1.size
      go_wp2_with fail
      refine (few_any _ _ _ _ _ h12 hmx2).mono ?_
      rintro e w1 ⟨rfl, rfl⟩
      rw [hf']
      go_wp2_with fail
      refine (first_any _).mono ?_
      rintro e w2 ⟨rfl, hb2⟩
      go_wp2
      go_ret
      exact ⟨rfl, hb1.trans (hb2.mono hb1.size)⟩
end Go.Proofs.Ytglddefjmnjgdaa
