/- The walk of WireBack. -/
import Derived.Test.YtglddefjmnjgdaaWy
namespace Go.Proofs.Ytglddefjmnjgdaa
open Go.RowKit Fl

set_option maxRecDepth 100000 in
set_option maxHeartbeats 8000000 in
theorem back_walk (A : Option Addr) (n c : Nat) (l : List It) (cut : Int) (w : World) (h : Sl ItRel 5 w w.heap.size A n l) (hn : n ≤ maxLen) (hci : i64ok cut) :
    Calls Try.prog 8 #[.slice A n c, .int .i64 cut] w fun e w' => e = .returned (.bool true) ∧ Below w.heap.size w w' := by
  have hmx := hn
  unfold maxLen at hn
  have hlen : l.length = n := h.1
  have hle : l.length ≤ n := by omega
  have hge : n ≤ l.length := by omega
  have hokl := h.all_ok
  clear hlen
  by_cases hf : fewB l = true
  · have hcc : (∃ q : Nat, cut = (q : Int) ∧ q ≤ 9223372036854775807) ∨ (∃ q : Nat, cut = -(q : Int) - 1 ∧ q ≤ 9223372036854775807) := by
      obtain ⟨h1, h2⟩ := hci
      by_cases h0 : 0 ≤ cut
      · exact .inl ⟨cut.toNat, by omega, by omega⟩
      · exact .inr ⟨(-(cut + 1)).toNat, by omega, by omega⟩
    have hall : ∀ a ∈ l, a.ok ∧ a.s.size ≤ 20000 := fun a ha => ⟨hokl a ha, by have h1 := (fewB_true hf).2; have h2 := sum_mem_le ha; omega⟩
    clear hci
    rcases hcc with ⟨q, rfl, hq⟩ | ⟨q, rfl, hq⟩
    all_goals (
      go_enter Try.func8, Try.ntmps8
      go_wp2_with fail
      refine (first_any _).mono ?_
      rintro e w1 ⟨rfl, hb1⟩
      have h1 := (h.below ItRel.kept hb1).more ItRel.kept hb1.size
      go_wp2_with fail
      refine (few_any _ _ _ _ _ h1 hmx).mono ?_
      rintro e w1 ⟨rfl, rfl⟩
      rw [hf]
      have HF := Lib.hid hf
      clear hf
      go_wp2_with fail
      refine (wnew _).mono ?_
      rintro e w2 ⟨rfl, hw2⟩
      have hW2 := Wr.new w1
      rw [hw2] at hW2
      have hb2 : Below w.heap.size w w2 := by rw [← hw2]; exact hb1.alloc hb1.size _
      have hg := hb1.size
      generalize w1.heap.size = g at *
      clear hw2 h1 hb1
      go_wp2_with fail
      go_loopw [6] (fun i wr => LoopW w l g i wr) (fun i _ => n - (intOf i).toNat)
      case atStart => exact ⟨0, _, by omega, rfl, hW2, hb2⟩
      case round =>
        obtain ⟨k, v, hk, rfl, hWk, hbk⟩ := hrel
        have hzk := hbk.size
        have hlk := hWk.lt
        have htl := encL_take hokl HF.out k
        by_cases hlt : k < n
        · obtain ⟨ad, a, rfl, hl, hab, hok, c0, c1, c2, c3, c4⟩ := ((h.below ItRel.kept hbk).more ItRel.kept hzk).it hlt
          have HT := Lib.hid (encL_snoc hl)
          have hsm : a.s.size ≤ 20000 := (hall a (List.mem_of_getElem? hl)).2
          have hd1 : decide ((k : Int) < (n : Int)) = true := by simp; omega
          clear hl
          go_wp2_with ((with_reducible refine (put_any _ _ _ _ _ _ hWk (by omega) hok (by omega)).mono ?_); rintro e w3 ⟨rfl, v3, hW3, hf3⟩)
          go_roundw
          case rel =>
            refine ⟨k + 1, v3, by omega, by go_num, ?_, hbk.trans ((hf3.below hWk).mono (by omega))⟩
            rw [HT.out]; exact hW3
          case measure => simp [intOf]; omega
        · have he : l.take k = l := List.take_of_length_le (by omega)
          rw [he] at hWk htl
          have hd1 : decide ((k : Int) < (n : Int)) = false := by simp; omega
          clear he
          have hall1 : RowKit.Hid (readsR (encL l) ⟨0, 0, 0⟩ l = (true, ⟨(encL l).length, 0, 0⟩)) := by
            have := reads_enc l [] [] hall
            exact Lib.hid (by simpa using this)
          have hall2 : RowKit.Hid (∀ j, j < (encL l).length → (readsR ((encL l).take j) ⟨0, 0, 0⟩ l).2.e = 5) := fun j hj => by
            have := reads_cut l [] j hall hj
            simpa using this
          go_wp2_with fail
          refine (wbytes _ _ _ _ _ hWk (by omega)).mono ?_
          rintro e w4 ⟨A3, c3, rfl, hc3, hm3, hown3, hb5⟩
          have hb6 := hbk.trans (hb5.mono hzk)
          have hz5 := hb5.size
          clear hWk hbk
          generalize hEE : encL l = E at *
          clear hEE
          go_wp2_with fail
          refine (wRNew _ _ _ _ _ (Reads.of_own hown3) (by omega)).mono ?_
          rintro e w5 ⟨Ar, nr, cr, rfl, hp, hk, hR, hA, hb7⟩
          have hb8 := hb6.trans (hb7.mono hb6.size)
          have hz7 := hb7.size
          have hz6 := hb6.size
          have hrow5 : Reads w5 w5.heap.size 1 A3 E.length (bytesV E) := ((Reads.of_own hown3).below hb7).more hb7.size
          generalize hkk : w5.heap.size - 1 = g2 at *
          have hgw : w.heap.size ≤ g2 := by omega
          clear hkk
          have hs5 := (h.below ItRel.kept hb8)
          go_wp2_with fail
          refine (reads_any g2 Ar nr cr E _ A n c l _ w.heap.size hR hs5 hmx hgw).mono ?_
          rw [hall1.out]
          rintro e w6 ⟨rfl, hR6, hg6⟩
          have hz66 := hg6.size
          have hb9 := hb8.grown hg6 hb8.size (by intro j hj; injection hj; omega)
          have hrow6 : Reads w6 w4.heap.size 1 A3 E.length (bytesV E) := ((Reads.of_own hown3).below hb7).grown hg6 (by omega) (by intro j hj; injection hj; omega)
          have hend : rEnd E ⟨E.length, 0, 0⟩ = (0, 0) := by unfold rEnd; rw [if_neg (fun h => by have := h.2; simp at this)]
          clear hR hA hb7 hb8 hrow5 hs5 hg6 hb6 hb5
          go_wp2_with fail
          refine (wREnd _ _ _ _ _ _ _ hR6).mono ?_
          rw [hend]
          rintro e w7 ⟨rfl, q7, rfl⟩
          clear hend
          by_cases hE0 : E.length = 0
          · have hq0 : ((E.length : Int) == 0) = true := beq_iff_eq.2 (by omega)
            clear hE0
            go_wp2_with ((with_reducible refine (first_any _).mono ?_); rintro e w8 ⟨rfl, hb10⟩)
            go_ret
            exact ⟨rfl, (hb9.trans (c := w6.drewN q7) ⟨rfl, rfl, rfl, Nat.le_refl _, fun _ _ => rfl⟩).trans (hb10.mono hb9.size)⟩
          · have hq0 : ((E.length : Int) == 0) = false := beq_eq_false_iff_ne.2 (by omega)
            have hpos : 0 < E.length := by omega
            obtain ⟨ad3, rfl, _, _⟩ := hrow6.2 hpos
            have hr0 : 0 ≤ (q : Int) % (E.length : Int) := Int.emod_nonneg _ (by omega)
            have hr1 : (q : Int) % (E.length : Int) < (E.length : Int) := Int.emod_lt_of_pos _ (by omega)
            have hr2 : (q : Int) % (E.length : Int) ≤ (c3 : Int) := by omega
            have hc30 : ¬ c3 = 0 := by omega
            clear hE0
            have hmod : q % E.length < E.length := Nat.mod_lt _ hpos
            have hrow7 : Reads (w6.drewN q7) w4.heap.size 1 (some ad3) (q % E.length) (bytesV (E.take (q % E.length))) := by
              have := (hrow6.drewN q7).window (l := 0) (h := q % E.length) (by omega) (by omega)
              have e0 : ad3.add 0 = ad3 := by unfold Addr.add; simp
              rw [bytesV_drop, e0, Nat.sub_zero, List.drop_zero] at this
              exact this
            have hf5 : RowKit.Hid ((readsR (E.take (q % E.length)) ⟨0, 0, 0⟩ l).2.e = 5) := hall2.out _ hmod
            have hb10 : Below w.heap.size w (w6.drewN q7) := hb9.trans ⟨rfl, rfl, rfl, Nat.le_refl _, fun _ _ => rfl⟩
            have hz10 : w4.heap.size ≤ (w6.drewN q7).heap.size := by show w4.heap.size ≤ w6.heap.size; omega
            have htk : (E.take (q % E.length)).length = q % E.length := by rw [List.length_take]; omega
            clear hrow6 hR6 hb9 hown3
            go_wp2_with fail
            generalize q % E.length = m at *
            generalize w6.drewN q7 = w8 at *
            generalize hT : E.take m = T at *
            clear hT
            have HTK := Lib.hid htk
            clear htk
            refine (wRNew _ _ _ _ _ (hrow7.more hz10) (by omega)).mono ?_
            rintro e w9 ⟨As, ns, cs, rfl, hp9, hk9, hR9, hA9, hb11⟩
            have hb12 := hb10.trans (hb11.mono hb10.size)
            have hz11 := hb10.size
            generalize hkk : w9.heap.size - 1 = g3 at *
            have hgw3 : w.heap.size ≤ g3 := by omega
            have hs9 := (h.below ItRel.kept hb12)
            have hz12 := hb12.size
            clear hkk hp9 hk9 hA9 hb11 hrow7 hb10
            go_wp2_with fail
            refine (reads_any g3 As ns cs T _ A n c l _ w.heap.size hR9 hs9 hmx hgw3).mono ?_
            generalize readsR T ⟨0, 0, 0⟩ l = R at *
            rintro e w10 ⟨rfl, hR10, hg10⟩
            have hb13 := hb12.grown hg10 hz12 (by intro j hj; injection hj; omega)
            clear hb12 hs9 hR9 hg10
            go_wp2_with (first
              | ((with_reducible refine (wRFault _ _ _ _ _ _ _ hR10).mono ?_)
                 rw [hf5.out]
                 rintro e w11 ⟨rfl, q11, rfl⟩)
              | ((with_reducible refine (first_any _).mono ?_); rintro e w12 ⟨rfl, hb14⟩))
            go_ret
            exact ⟨rfl, (hb13.trans (c := w10.drewN q11) ⟨rfl, rfl, rfl, Nat.le_refl _, fun _ _ => rfl⟩).trans (hb14.mono hb13.size)⟩)
  · have hf' : fewB l = false := by simpa using hf
    clear hf
    go_enter Try.func8, Try.ntmps8
    go_wp2_with fail
    refine (first_any _).mono ?_
    rintro e w1 ⟨rfl, hb1⟩
    have h1 := (h.below ItRel.kept hb1).more ItRel.kept hb1.size
    go_wp2_with fail
    refine (few_any _ _ _ _ _ h1 hmx).mono ?_
    rintro e w1 ⟨rfl, rfl⟩
    rw [hf']
    go_wp2_with fail
    refine (first_any _).mono ?_
    rintro e w2 ⟨rfl, hb2⟩
    go_wp2
    go_ret
    exact ⟨rfl, hb1.trans (hb2.mono hb1.size)⟩
end Go.Proofs.Ytglddefjmnjgdaa
