/- The walk of WireReads. -/
import Derived.Test.YtglddefjmnjgdaaWu
namespace Go.Proofs.Ytglddefjmnjgdaa
open Go.RowKit Fl

def LoopR (w : World) (l : List It) (g : Nat) (A : Option Addr) (n c : Nat) (g2 : Nat) (A2 : Option Addr) (c2 : Nat) (b : List UInt8) (i : Value) (wr : World) : Prop :=
  ∃ (k : Nat) (s y : RS), k ≤ l.length ∧ i = .int .i64 (k : Int) ∧ Two wr g A n c g2 A2 c2 b s y ∧ Sim s y ∧ Below w.heap.size w wr

/-- the reference's reader, new -/
theorem Rd.ref {w : World} {A : Option Addr} {n c : Nat} {b : List UInt8} (h : Reads w w.heap.size 1 A n (bytesV b)) (hsm : n ≤ 1000000000000) (hnc : n ≤ c) (hcm : c ≤ maxLen) :
    Rd 58 (w.alloc (.cells #[.slice A n c, .int .i64 0, .int .i64 0, .int .i64 0] 58)) w.heap.size A n c b ⟨0, 0, 0⟩ where
  blk := Blk.new w _ _
  reads := by simpa using (h.alloc (Nat.le_refl _) _).more (Nat.le_succ _)
  len := by have := h.1; simpa using this
  small := hsm
  apart := fun ad e hn => by
    obtain ⟨ad', e', hlt, _⟩ := h.2 hn
    obtain rfl : ad = ad' := Option.some.inj (e.symm.trans e')
    omega
  at_le := Nat.zero_le _
  nc := hnc
  cm := hcm

set_option maxRecDepth 100000 in
set_option maxHeartbeats 8000000 in
theorem reads_walk (A : Option Addr) (n c : Nat) (b : List UInt8) (A2 : Option Addr) (n2 c2 : Nat) (l : List It) (w : World) (h : Reads w w.heap.size 1 A n (bytesV b)) (hn : n ≤ maxLen) (hnc : n ≤ c) (hcm : c ≤ maxLen) (h2 : Sl ItRel 5 w w.heap.size A2 n2 l) (hn2 : n2 ≤ maxLen) :
    Calls Try.prog 9 #[.slice A n c, .slice A2 n2 c2] w fun e w' => e = .returned (.bool true) ∧ Below w.heap.size w w' := by
  have hmx2 := hn2
  unfold maxLen at hn hn2
  have hlen2 : l.length = n2 := h2.1
  have hle2 : l.length ≤ n2 := by omega
  have hge2 : n2 ≤ l.length := by omega
  clear hlen2
  have hno : fewB l = false ∨ (fewB l = true ∧ 20000 < n) ∨ (fewB l = true ∧ n ≤ 20000) := by
    cases fewB l
    · exact .inl rfl
    · rcases Nat.lt_or_ge 20000 n with h | h
      · exact .inr (.inl ⟨rfl, h⟩)
      · exact .inr (.inr ⟨rfl, h⟩)
  rcases hno with hf | ⟨hf, hbig⟩ | ⟨hf, hsm⟩
  · go_enter Try.func9, Try.ntmps9
    go_wp2_with fail
    refine (first_any _).mono ?_
    rintro e w1 ⟨rfl, hb1⟩
    have h12 := (h2.below ItRel.kept hb1).more ItRel.kept hb1.size
    go_wp2_with fail
    refine (few_any _ _ _ _ _ h12 hmx2).mono ?_
    rintro e w1 ⟨rfl, rfl⟩
    rw [hf]
    go_wp2_with fail
    refine (first_any _).mono ?_
    rintro e w2 ⟨rfl, hb2⟩
    go_wp2
    go_ret
    exact ⟨rfl, hb1.trans (hb2.mono hb1.size)⟩
  · have hd1 : decide ((20000 : Int) < (n : Int)) = true := by simp; omega
    go_enter Try.func9, Try.ntmps9
    go_wp2_with fail
    refine (first_any _).mono ?_
    rintro e w1 ⟨rfl, hb1⟩
    have h12 := (h2.below ItRel.kept hb1).more ItRel.kept hb1.size
    go_wp2_with fail
    refine (few_any _ _ _ _ _ h12 hmx2).mono ?_
    rintro e w1 ⟨rfl, rfl⟩
    rw [hf]
    go_wp2_with fail
    refine (first_any _).mono ?_
    rintro e w2 ⟨rfl, hb2⟩
    go_wp2
    go_ret
    exact ⟨rfl, hb1.trans (hb2.mono hb1.size)⟩
  · have hd1 : decide ((20000 : Int) < (n : Int)) = false := by simp; omega
    go_enter Try.func9, Try.ntmps9
    go_wp2_with fail
    refine (first_any _).mono ?_
    rintro e w1 ⟨rfl, hb1⟩
    have h12 := (h2.below ItRel.kept hb1).more ItRel.kept hb1.size
    have h11 := (h.below hb1).more hb1.size
    go_wp2_with fail
    refine (few_any _ _ _ _ _ h12 hmx2).mono ?_
    rintro e w1 ⟨rfl, rfl⟩
    rw [hf]
    clear hf h12
    go_wp2_with fail
    refine (xcopy _ _ _ _ _ h11 (by omega)).mono ?_
    rintro e w2 ⟨A3, c3, rfl, hc3, hm3, hown3, hb2⟩
    have hbl : b.length = n := by have e2 := h.1; rw [bytesV_len] at e2; omega
    have hb3 := hb1.trans (hb2.mono hb1.size)
    have hz12 := hb2.size
    rw [hbl] at hown3 hc3
    rw [hbl]
    go_wp2_with fail
    refine (wRNew _ _ _ _ _ (Reads.of_own hown3) (by omega)).mono ?_
    rintro e w3 ⟨Ar, nr, cr, rfl, hp, hk, hR, hA, hb4⟩
    have hnr : nr = n := by have e1 := hR.len; omega
    subst hnr
    have hb5 := hb3.trans (hb4.mono hb3.size)
    have hz23 := hb4.size
    obtain ⟨g3, hg3w, hg3R, hg3A, hown⟩ : ∃ g3, w.heap.size ≤ g3 ∧ w3.heap.size - 1 ≠ g3 ∧ (∀ ad, Ar = some ad → 0 < nr → ad.block ≠ g3) ∧ (0 < nr → A3 = some ⟨g3, 0, none⟩ ∧ nr ≤ c3 ∧ ∃ cur, Blk w3 g3 5 cur ∧ cur.size = c3) := by
      rcases hown3.2 with ⟨_, h0⟩ | ⟨g3, cap, cur, hv, hbb, hh, hx1, hx2, hx3, hx4⟩
      · have := hb5.size
        refine ⟨w3.heap.size, this, by omega, fun ad e hn => ?_, fun hn => by omega⟩
        obtain ⟨ad', e', hlt, _⟩ := hR.reads.2 hn
        obtain rfl : ad = ad' := Option.some.inj (e.symm.trans e')
        omega
      · injection hv with e1 e2 e3
        subst e3
        have hg3l : g3 < w2.heap.size := (Array.getElem?_eq_some_iff.1 hh).1
        have hz1 := hb1.size
        refine ⟨g3, by omega, by omega, fun ad e hn => ?_, fun _ => ⟨e1, hx1, cur, (hb4.block g3 hg3l).trans hh, by omega⟩⟩
        have := hA ad e
        omega
    generalize hkk : w3.heap.size - 1 = g at *
    have hgw : w.heap.size ≤ g := by have := hb3.size; omega
    have hgl := hR.blk.lt
    clear hkk hp hk hA hb4 h11 hb1 hb2 hb3 hown3
    have HBL := Lib.hid hbl
    clear hbl
    go_wp2_with fail
    go_loopw [7] (fun i wr => LoopX w3 g3 c3 nr i wr) (fun i _ => nr - (intOf i).toNat)
    case atStart =>
      by_cases h0 : 0 < nr
      · obtain ⟨_, _, cur, hb, hcc⟩ := hown h0
        exact ⟨0, cur, by omega, rfl, World.grownBy.refl _ _, fun _ => ⟨hb, hcc⟩⟩
      · exact ⟨0, #[], by omega, rfl, World.grownBy.refl _ _, fun h => absurd h h0⟩
    case round =>
      obtain ⟨j, cur, hj, rfl, hgr, hcur⟩ := hrel
      by_cases hlt2 : j < nr
      · obtain ⟨hbl, hcc⟩ := hcur (by omega)
        obtain ⟨rfl, hEc, _⟩ := hown (by omega)
        have hjc : j < cur.size := by omega
        have hcell : wr.cell? ⟨g3, j, none⟩ = some cur[j] := by rw [hbl.cell]; exact Array.getElem?_eq_getElem hjc
        have hfz := hbl.frozen j
        have hd2 : decide ((j : Int) < (nr : Int)) = true := by simp; omega
        have hset := hbl.set_ j (.int .u8 88)
        have hgset := grown_set wr g3 j (.int .u8 88)
        go_wp2
        go_roundw
        case rel =>
          refine ⟨j + 1, _, by omega, by go_num, hgr.trans hgset, fun _ => ⟨hset, ?_⟩⟩
          simpa using hcc
        case measure => simp [intOf]; omega
      · have hd2 : decide ((j : Int) < (nr : Int)) = false := by simp; omega
        have hR4 := hR.far hgr hg3R hg3A
        have hb6 := hb5.grown hgr hb5.size (by intro k hk; injection hk; omega)
        have hz6 := hb6.size
        have hx4 := Rd.ref ((h.below hb6).more hz6) (by omega) hnc hcm
        have hzr := hgr.size
        have hT : Two (wr.alloc (.cells #[.slice A nr c, .int .i64 0, .int .i64 0, .int .i64 0] 58)) g Ar nr cr wr.heap.size A c b ⟨0, 0, 0⟩ ⟨0, 0, 0⟩ :=
          ⟨hR4.below ((Below.refl _ _).alloc (Nat.le_refl _) _), hx4, by omega, fun ad e hn => by
            obtain ⟨ad', e', hlt, _⟩ := hR4.reads.2 hn
            obtain rfl : ad = ad' := Option.some.inj (e.symm.trans e')
            omega, fun ad e hn => by
            obtain ⟨ad', e', hlt, _⟩ := h.2 hn
            obtain rfl : ad = ad' := Option.some.inj (e.symm.trans e')
            omega⟩
        have hb7 := hb6.alloc hz6 (.cells #[.slice A nr c, .int .i64 0, .int .i64 0, .int .i64 0] 58)
        clear hR4 hR hb6 hx4 hcur hown hb5 hgr
        generalize hg2 : wr.heap.size = g2 at *
        have hg2w : w.heap.size ≤ g2 := hz6
        go_wp2_with fail
        generalize wr.alloc (.cells #[.slice A nr c, .int .i64 0, .int .i64 0, .int .i64 0] 58) = w5 at *
        clear hg2
        go_loopw [9] (fun i wr => LoopR w l g Ar nr cr g2 A c b i wr) (fun i _ => n2 - (intOf i).toNat)
        case atStart => exact ⟨0, _, _, by omega, rfl, hT, Sim.start, hb7⟩
        case round =>
          obtain ⟨k, s, y, hk, rfl, hTk, hSk, hbk⟩ := hrel
          have hzk := hbk.size
          by_cases hlt : k < n2
          · obtain ⟨ad, a, rfl, hl, hab, hok, c0, c1, c2', c3', c4⟩ := ((h2.below ItRel.kept hbk).more ItRel.kept hzk).it hlt
            have hd3 : decide ((k : Int) < (n2 : Int)) = true := by simp; omega
            clear hl
            go_wp2_with (first
              | ((with_reducible refine (asks_any w.heap.size _ _ _ _ _ _ _ _ _ _ _ _ hTk hSk hzk hgw hg2w).mono ?_)
                 rintro e w6 ⟨rfl, s', y', hT6, hS6, hb8⟩)
              | ((with_reducible refine (stands_any _ _ _ _ _ _ _ _ _ _ _ hT6 hS6).mono ?_)
                 rintro e w7 ⟨rfl, q, rfl⟩))
            go_roundw
            case rel => exact ⟨k + 1, s', y', by omega, by go_num, hT6.drewN q, hS6, (hbk.trans hb8).trans ⟨rfl, rfl, rfl, Nat.le_refl _, fun _ _ => rfl⟩⟩
            case measure => simp [intOf]; omega
          · have hd3 : decide ((k : Int) < (n2 : Int)) = false := by simp; omega
            go_wp2_with (first
              | ((with_reducible refine (first_any _).mono ?_)
                 rintro e w6 ⟨rfl, hb8⟩
                 have hT6 := hTk.below hb8
                 have hb9 := hbk.trans (hb8.mono hzk))
              | ((with_reducible refine (stands_any _ _ _ _ _ _ _ _ _ _ _ hT6 hSk).mono ?_)
                 rintro e w7 ⟨rfl, q, rfl⟩))
            go_ret
            exact ⟨rfl, hb9.trans ⟨rfl, rfl, rfl, Nat.le_refl _, fun _ _ => rfl⟩⟩
end Go.Proofs.Ytglddefjmnjgdaa
