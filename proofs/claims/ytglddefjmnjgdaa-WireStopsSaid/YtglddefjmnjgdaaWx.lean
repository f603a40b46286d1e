/- The walk of WireStops. -/
import Derived.Test.YtglddefjmnjgdaaWv
namespace Go.Proofs.Ytglddefjmnjgdaa
open Go.RowKit Fl

section
variable {w : World} {g : Nat} {A : Option Addr} {n c : Nat} {l : List UInt8} {s : RS}
set_option maxHeartbeats 400000 in
theorem fInt (h : Rd 73 w g A n c l s) (hs : s.e ≠ 0) : Calls Try.prog 26 #[.pointer (some ⟨g, 0, none⟩)] w fun e w' => e = .returned (.int .i64 0) ∧ w = w' := by
  obtain ⟨hgl, c0, c1, c2, c3, f0, f1, f2, f3⟩ := h.blk.four
  have hb1 : (s.e != 0) = true := by simp [hs]
  go_enter Try.func26, Try.ntmps26
  go_wp2
  go_ret
  exact ⟨rfl, rfl⟩
set_option maxHeartbeats 400000 in
theorem fCount (h : Rd 73 w g A n c l s) (hs : s.e ≠ 0) (m : Int) : Calls Try.prog 29 #[.pointer (some ⟨g, 0, none⟩), .int .i64 m] w fun e w' => e = .returned (.int .i64 0) ∧ w = w' := by
  obtain ⟨hgl, c0, c1, c2, c3, f0, f1, f2, f3⟩ := h.blk.four
  have hb1 : (s.e != 0) = true := by simp [hs]
  go_enter Try.func29, Try.ntmps29
  go_wp2
  go_ret
  exact ⟨rfl, rfl⟩
set_option maxHeartbeats 400000 in
theorem fChoice (h : Rd 73 w g A n c l s) (hs : s.e ≠ 0) (m : Int) : Calls Try.prog 37 #[.pointer (some ⟨g, 0, none⟩), .int .i64 m] w fun e w' => e = .returned (.int .i64 0) ∧ w = w' := by
  obtain ⟨hgl, c0, c1, c2, c3, f0, f1, f2, f3⟩ := h.blk.four
  have hb1 : (s.e != 0) = true := by simp [hs]
  go_enter Try.func37, Try.ntmps37
  go_wp2
  go_ret
  exact ⟨rfl, rfl⟩
set_option maxHeartbeats 400000 in
theorem fText (h : Rd 73 w g A n c l s) (hs : s.e ≠ 0) (m : Int) : Calls Try.prog 30 #[.pointer (some ⟨g, 0, none⟩), .int .i64 m] w fun e w' => e = .returned (.string ⟨#[]⟩) ∧ w = w' := by
  obtain ⟨hgl, c0, c1, c2, c3, f0, f1, f2, f3⟩ := h.blk.four
  have hb1 : (s.e != 0) = true := by simp [hs]
  go_enter Try.func30, Try.ntmps30
  go_wp2
  go_ret
  exact ⟨rfl, rfl⟩
set_option maxHeartbeats 400000 in
theorem fLeft (h : Rd 73 w g A n c l s) (hs : s.e ≠ 0) : Calls Try.prog 24 #[.pointer (some ⟨g, 0, none⟩)] w fun e w' => e = .returned (.int .i64 0) ∧ w = w' := by
  obtain ⟨hgl, c0, c1, c2, c3, f0, f1, f2, f3⟩ := h.blk.four
  have hb1 : (s.e != 0) = true := by simp [hs]
  go_enter Try.func24, Try.ntmps24
  go_wp2
  go_ret
  exact ⟨rfl, rfl⟩
set_option maxHeartbeats 400000 in
theorem fFlag (h : Rd 73 w g A n c l s) (hs : s.e ≠ 0) : Calls Try.prog 27 #[.pointer (some ⟨g, 0, none⟩)] w fun e w' => e = .returned (.bool false) ∧ w = w' := by
  obtain ⟨hgl, c0, c1, c2, c3, f0, f1, f2, f3⟩ := h.blk.four
  have hb1 : (s.e != 0) = true := by simp [hs]
  go_enter Try.func27, Try.ntmps27
  go_wp2
  go_ret
  exact ⟨rfl, rfl⟩
set_option maxHeartbeats 400000 in
theorem fFloat (h : Rd 73 w g A n c l s) (hs : s.e ≠ 0) : Calls Try.prog 28 #[.pointer (some ⟨g, 0, none⟩)] w fun e w' => e = .returned (.float .f64 0) ∧ w = w' := by
  obtain ⟨hgl, c0, c1, c2, c3, f0, f1, f2, f3⟩ := h.blk.four
  have hb1 : (s.e != 0) = true := by simp [hs]
  go_enter Try.func28, Try.ntmps28
  go_wp2
  go_ret
  exact ⟨rfl, rfl⟩
set_option maxHeartbeats 400000 in
theorem ffail (h : Rd 73 w g A n c l s) (hs : s.e ≠ 0) (e : Int) (q : Nat) : Calls Try.prog 45 #[.pointer (some ⟨g, 0, none⟩), .int .i64 e, .int .i64 (q : Int)] w fun e w' => e = .returned (.tuple #[]) ∧ w = w' := by
  obtain ⟨hgl, c0, c1, c2, c3, f0, f1, f2, f3⟩ := h.blk.four
  have hb1 : (s.e == 0) = false := by simp [hs]
  go_enter Try.func45, Try.ntmps45
  go_wp2
  go_end0
  exact ⟨rfl, rfl⟩
set_option maxHeartbeats 400000 in
theorem fFail (h : Rd 73 w g A n c l s) (hs : s.e ≠ 0) (e : Int) : Calls Try.prog 36 #[.pointer (some ⟨g, 0, none⟩), .int .i64 e] w fun e w' => e = .returned (.tuple #[]) ∧ w = w' := by
  obtain ⟨hgl, c0, c1, c2, c3, f0, f1, f2, f3⟩ := h.blk.four
  go_enter Try.func36, Try.ntmps36
  go_wp2_with ((with_reducible refine (ffail h hs _ _).mono ?_); rintro e w2 ⟨rfl, rfl⟩)
  go_end0
  exact ⟨rfl, rfl⟩
end

/-- a callee that leaves the world alone, in a quiet walk -/
theorem quiet_same {P : Program} {f : FuncId} {args : Array Value} {v : Value} {w : World} {Q q : Nat} (h : Calls P f args (w.drewN (Q + q)) fun e w' => e = .returned v ∧ w.drewN (Q + q) = w') :
    Calls P f args (w.drewN (Q + q)) fun e w' => e = .returned v ∧ ∃ m, w' = w.drewN (Q + m) := h.mono fun _ _ ⟨he, hw⟩ => ⟨he, q, hw.symm⟩

def LoopZ (w5 : World) (l : List It) (i : Value) (wr : World) : Prop := ∃ k q : Nat, k ≤ l.length ∧ i = .int .i64 (k : Int) ∧ w5.drewN q = wr

set_option maxRecDepth 100000 in
set_option maxHeartbeats 8000000 in
theorem stops_walk (A : Option Addr) (n c : Nat) (b : List UInt8) (A2 : Option Addr) (n2 c2 : Nat) (l : List It) (A3 : Option Addr) (n3 c3 : Nat) (m : List It) (w : World) (h : Reads w w.heap.size 1 A n (bytesV b)) (hn : n ≤ maxLen) (hnc : n ≤ c) (hcm : c ≤ maxLen)
    (h2 : Sl ItRel 5 w w.heap.size A2 n2 l) (hn2 : n2 ≤ maxLen) (h3 : Sl ItRel 5 w w.heap.size A3 n3 m) (hn3 : n3 ≤ maxLen) :
    Calls Try.prog 10 #[.slice A n c, .slice A2 n2 c2, .slice A3 n3 c3] w fun e w' => e = .returned (.bool true) ∧ Below w.heap.size w w' := by
  have hmx2 := hn2
  have hmx3 := hn3
  unfold maxLen at hn hn2 hn3
  have hlen2 : l.length = n2 := h2.1
  have hle2 : l.length ≤ n2 := by omega
  have hge2 : n2 ≤ l.length := by omega
  have hlen3 : m.length = n3 := h3.1
  have hle3 : m.length ≤ n3 := by omega
  have hge3 : n3 ≤ m.length := by omega
  clear hlen2 hlen3
  have hno : fewB l = false ∨ (fewB l = true ∧ fewB m = false) ∨ (fewB l = true ∧ fewB m = true ∧ 20000 < n) ∨ (fewB l = true ∧ fewB m = true ∧ n ≤ 20000) := by
    cases fewB l
    · exact .inl rfl
    · cases fewB m
      · exact .inr (.inl ⟨rfl, rfl⟩)
      · rcases Nat.lt_or_ge 20000 n with h | h
        · exact .inr (.inr (.inl ⟨rfl, rfl, h⟩))
        · exact .inr (.inr (.inr ⟨rfl, rfl, h⟩))
  rcases hno with hf | ⟨hf, hf2⟩ | ⟨hf, hf2, hbig⟩ | ⟨hf, hf2, hsm⟩
  · go_enter Try.func10, Try.ntmps10
    go_wp2_with fail
    refine (first_any _).mono ?_
    rintro e w1 ⟨rfl, hb1⟩
    have h12 := (h2.below ItRel.kept hb1).more ItRel.kept hb1.size
    go_wp2_with fail
    refine (few_any _ _ _ _ _ h12 hmx2).mono ?_
    rintro e w1 ⟨rfl, rfl⟩
    rw [hf]
    go_wp2_with fail
    refine (first_any _).mono ?_
    rintro e w2 ⟨rfl, hb2⟩
    go_wp2
    go_ret
    exact ⟨rfl, hb1.trans (hb2.mono hb1.size)⟩
  · go_enter Try.func10, Try.ntmps10
    go_wp2_with fail
    refine (first_any _).mono ?_
    rintro e w1 ⟨rfl, hb1⟩
    have h12 := (h2.below ItRel.kept hb1).more ItRel.kept hb1.size
    have h13 := (h3.below ItRel.kept hb1).more ItRel.kept hb1.size
    go_wp2_with fail
    refine (few_any _ _ _ _ _ h12 hmx2).mono ?_
    rintro e w1 ⟨rfl, rfl⟩
    rw [hf]
    go_wp2_with fail
    refine (few_any _ _ _ _ _ h13 hmx3).mono ?_
    rintro e w1 ⟨rfl, rfl⟩
    rw [hf2]
    go_wp2_with fail
    refine (first_any _).mono ?_
    rintro e w2 ⟨rfl, hb2⟩
    go_wp2
    go_ret
    exact ⟨rfl, hb1.trans (hb2.mono hb1.size)⟩
  · have hd1 : decide ((20000 : Int) < (n : Int)) = true := by simp; omega
    go_enter Try.func10, Try.ntmps10
    go_wp2_with fail
    refine (first_any _).mono ?_
    rintro e w1 ⟨rfl, hb1⟩
    have h12 := (h2.below ItRel.kept hb1).more ItRel.kept hb1.size
    have h13 := (h3.below ItRel.kept hb1).more ItRel.kept hb1.size
    go_wp2_with fail
    refine (few_any _ _ _ _ _ h12 hmx2).mono ?_
    rintro e w1 ⟨rfl, rfl⟩
    rw [hf]
    go_wp2_with fail
    refine (few_any _ _ _ _ _ h13 hmx3).mono ?_
    rintro e w1 ⟨rfl, rfl⟩
    rw [hf2]
    go_wp2_with fail
    refine (first_any _).mono ?_
    rintro e w2 ⟨rfl, hb2⟩
    go_wp2
    go_ret
    exact ⟨rfl, hb1.trans (hb2.mono hb1.size)⟩
  · have hd1 : decide ((20000 : Int) < (n : Int)) = false := by simp; omega
    go_enter Try.func10, Try.ntmps10
    go_wp2_with fail
    refine (first_any _).mono ?_
    rintro e w1 ⟨rfl, hb1⟩
    have h12 := (h2.below ItRel.kept hb1).more ItRel.kept hb1.size
    have h13 := (h3.below ItRel.kept hb1).more ItRel.kept hb1.size
    have h11 := (h.below hb1).more hb1.size
    go_wp2_with fail
    refine (few_any _ _ _ _ _ h12 hmx2).mono ?_
    rintro e w1 ⟨rfl, rfl⟩
    rw [hf]
    go_wp2_with fail
    refine (few_any _ _ _ _ _ h13 hmx3).mono ?_
    rintro e w1 ⟨rfl, rfl⟩
    rw [hf2]
    clear hf hf2 h12 h13
    go_wp2_with fail
    refine (wRNew _ _ _ _ _ h11 (by omega)).mono ?_
    rintro e w3 ⟨Ar, nr, cr, rfl, hp, hk, hR, hA, hb4⟩
    have hbl : b.length = n := by have e2 := h.1; rw [bytesV_len] at e2; omega
    have hnr : nr = n := by have e1 := hR.len; omega
    subst hnr
    have hb5 := hb1.trans (hb4.mono hb1.size)
    have hz1 := hb1.size
    generalize hkk : w3.heap.size - 1 = g at *
    have hgw : w.heap.size ≤ g := by omega
    have hgl := hR.blk.lt
    have hz5 := hb5.size
    have hx4 := Rd.ref ((h.below hb5).more hz5) (by omega) hnc hcm
    have hT : Two (w3.alloc (.cells #[.slice A nr c, .int .i64 0, .int .i64 0, .int .i64 0] 58)) g Ar nr cr w3.heap.size A c b ⟨0, 0, 0⟩ ⟨0, 0, 0⟩ :=
      ⟨hR.below ((Below.refl _ _).alloc (Nat.le_refl _) _), hx4, by omega, fun ad e hn => by
        obtain ⟨ad', e', hlt, _⟩ := hR.reads.2 hn
        obtain rfl : ad = ad' := Option.some.inj (e.symm.trans e')
        omega, fun ad e hn => by
        obtain ⟨ad', e', hlt, _⟩ := h.2 hn
        obtain rfl : ad = ad' := Option.some.inj (e.symm.trans e')
        omega⟩
    have hb7 := hb5.alloc hz5 (.cells #[.slice A nr c, .int .i64 0, .int .i64 0, .int .i64 0] 58)
    clear hkk hp hk hA hb4 h11 hb1 hbl hR hb5 hx4
    generalize hg2 : w3.heap.size = g2 at *
    have hg2w : w.heap.size ≤ g2 := hz5
    go_wp2_with fail
    generalize w3.alloc (.cells #[.slice A nr c, .int .i64 0, .int .i64 0, .int .i64 0] 58) = w5 at *
    clear hg2
    go_loopw [9] (fun i wr => LoopR w l g Ar nr cr g2 A c b i wr) (fun i _ => n2 - (intOf i).toNat)
    case atStart => exact ⟨0, _, _, by omega, rfl, hT, Sim.start, hb7⟩
    case round =>
      obtain ⟨k, s, y, hk, rfl, hTk, hSk, hbk⟩ := hrel
      have hzk := hbk.size
      by_cases hlt : k < n2
      · obtain ⟨ad, a, rfl, hl, hab, hok, c0, c1, c2', c3', c4⟩ := ((h2.below ItRel.kept hbk).more ItRel.kept hzk).it hlt
        have hd3 : decide ((k : Int) < (n2 : Int)) = true := by simp; omega
        clear hl
        go_wp2_with (first
          | ((with_reducible refine (asks_any w.heap.size _ _ _ _ _ _ _ _ _ _ _ _ hTk hSk hzk hgw hg2w).mono ?_)
             rintro e w6 ⟨rfl, s', y', hT6, hS6, hb8⟩))
        go_roundw
        case rel => exact ⟨k + 1, s', y', by omega, by go_num, hT6, hS6, hbk.trans hb8⟩
        case measure => simp [intOf]; omega
      · have hd3 : decide ((k : Int) < (n2 : Int)) = false := by simp; omega
        have hfe := fail_e (s := s) (e := 14) (q := s.at_) (by omega)
        go_wp2_with fail
        refine (wRFail _ _ _ _ _ _ _ _ hTk.rd).mono ?_
        generalize rFail s 14 s.at_ = s6 at *
        rintro e w6 ⟨rfl, hR6, hg6⟩
        have hb9 := hbk.grown hg6 hzk (by intro j hj; injection hj; omega)
        clear hTk hSk hbk hT hb7
        go_wp2_with fail
        refine (wRFault _ _ _ _ _ _ _ hR6).mono ?_
        rintro e w7 ⟨rfl, q7, rfl⟩
        go_wp2_with fail
        refine (wRPlace _ _ _ _ _ _ _ (hR6.drewN q7)).mono ?_
        rintro e w7 ⟨rfl, rfl⟩
        have hq0 : (s6.e == 0) = false := by simp [hfe]
        go_wp2_with fail
        go_loopw [13] (fun i wr => LoopZ w6 m i wr) (fun i _ => n3 - (intOf i).toNat)
        case atStart => exact ⟨0, q7, by omega, rfl, rfl⟩
        case round =>
          obtain ⟨j, q, hj, rfl, rfl⟩ := hrel
          have hbq : Below w.heap.size w (w6.drewN q) := hb9.trans ⟨rfl, rfl, rfl, Nat.le_refl _, fun _ _ => rfl⟩
          have hRq := fun q => hR6.drewN q
          by_cases hlt3 : j < n3
          · obtain ⟨ad, a, rfl, hl, hab, hok, c0, c1, c2', c3', c4⟩ := ((h3.below ItRel.kept hb9).more ItRel.kept hb9.size).it hlt3
            have hd4 : decide ((j : Int) < (n3 : Int)) = true := by simp; omega
            have hj0 : (0 : Int) ≤ (j : Int) := by omega
            have hj1 : (j : Int) < (n3 : Int) := by omega
            clear hl
            go_wp2
            go_quiet (first
              | (go_at_call 26; exact quiet_same (fInt (hRq _) hfe))
              | (go_at_call 29; exact quiet_same (fCount (hRq _) hfe _))
              | (go_at_call 37; exact quiet_same (fChoice (hRq _) hfe _))
              | (go_at_call 30; exact quiet_same (fText (hRq _) hfe _))
              | (go_at_call 24; exact quiet_same (fLeft (hRq _) hfe)))
            go_wp2_with (first
              | ((with_reducible refine (fFlag (hRq _) hfe).mono ?_); rintro e w8 ⟨rfl, rfl⟩)
              | ((with_reducible refine (fFloat (hRq _) hfe).mono ?_); rintro e w8 ⟨rfl, rfl⟩)
              | ((with_reducible refine (rbits _ _ _).mono ?_); rintro e w8 ⟨rfl, rfl⟩)
              | ((with_reducible refine (fFail (hRq _) hfe _).mono ?_); rintro e w8 ⟨rfl, rfl⟩))
            go_roundw
            case rel => exact ⟨j + 1, q + nq, by omega, by go_num, rfl⟩
            case measure => simp [intOf]; omega
          · have hd4 : decide ((j : Int) < (n3 : Int)) = false := by simp; omega
            have hend : rEnd b s6 = (s6.e, s6.p) := by unfold rEnd; rw [if_neg (fun h => hfe h.1)]
            have hE2 := fun q => wREnd _ _ _ _ _ _ _ (hR6.drewN q)
            rw [hend] at hE2
            clear hend
            go_wp2_with (first
              | ((with_reducible refine (wRFault _ _ _ _ _ _ _ (hRq _)).mono ?_); rintro e w8 ⟨rfl, q8, rfl⟩)
              | ((with_reducible refine (hE2 _).mono ?_); rintro e w8 ⟨rfl, q9, rfl⟩)
              | ((with_reducible refine (first_any _).mono ?_)
                 rintro e w8 ⟨rfl, hb8⟩
                 have hR8 := (hR6.drewN (q + q8 + q9)).below hb8)
              | ((with_reducible refine (wRPlace _ _ _ _ _ _ _ hR8).mono ?_); rintro e w9 ⟨rfl, rfl⟩))
            go_ret
            exact ⟨rfl, (hb9.trans (c := w6.drewN (q + q8 + q9)) ⟨rfl, rfl, rfl, Nat.le_refl _, fun _ _ => rfl⟩).trans (hb8.mono hb9.size)⟩
end Go.Proofs.Ytglddefjmnjgdaa
