/- The walk of WireOne. -/
import Derived.Test.YtglddefjmnjgdaaOn
import Derived.Test.YtglddefjmnjgdaaWv
import Derived.Deep.CutRange
namespace Go.Proofs.Ytglddefjmnjgdaa
open Go.RowKit Fl
theorem run_store_float (P : Program) (w : World) (a : Addr) (m : Mode) (k : FloatKind) (b : Nat) : (store a (.float k b) m).run P w = stored P w a (.float k b) m := run_store P w a _ m rfl
attribute [local go_sem] run_store_float

def LoopO (w : World) (b : List UInt8) (g : Nat) (A : Option Addr) (n c g2 : Nat) (i : Value) (wr : World) : Prop :=
  ∃ (k a : Nat) (v : Value), k ≤ 200 ∧ i = .int .i64 (k : Int) ∧ Rd 73 wr g A n c b ⟨a, 0, 0⟩ ∧ Wr wr w.heap.size g2 v (b.take a) ∧ Apart A n g g2 v ∧ Below w.heap.size w wr

set_option maxRecDepth 100000 in
set_option maxHeartbeats 8000000 in
theorem one_walk (A : Option Addr) (n c : Nat) (b : List UInt8) (kind : Int) (w : World) (h : Reads w w.heap.size 1 A n (bytesV b)) (hn : n ≤ maxLen) (hnc : n ≤ c) (hcm : c ≤ maxLen) (hk : i64ok kind) :
    Calls Try.prog 7 #[.slice A n c, .int .i64 kind] w fun e w' => e = .returned (.bool true) ∧ Below w.heap.size w w' := by
  unfold maxLen at hn hcm
  obtain ⟨hk1, hk2⟩ := hk
  by_cases hbig : 20000 < n
  · have hd1 : decide ((20000 : Int) < (n : Int)) = true := by simp; omega
    go_enter Try.func7, Try.ntmps7
    go_wp2_with fail
    refine (first_any _).mono ?_
    rintro e w1 ⟨rfl, hb1⟩
    go_wp2_with fail
    refine (first_any _).mono ?_
    rintro e w2 ⟨rfl, hb2⟩
    go_wp2
    go_ret
    exact ⟨rfl, hb1.trans (hb2.mono hb1.size)⟩
  · have hd1 : decide ((20000 : Int) < (n : Int)) = false := by simp; omega
    have hsm : n ≤ 20000 := by omega
    clear hbig
    go_enter Try.func7, Try.ntmps7
    go_wp2_with fail
    refine (first_any _).mono ?_
    rintro e w1 ⟨rfl, hb1⟩
    have h11 := (h.below hb1).more hb1.size
    go_wp2_with fail
    refine (wRNew _ _ _ _ _ h11 (by omega)).mono ?_
    rintro e w2 ⟨Ar, nr, cr, rfl, hp, hkk, hR, hA, hb2⟩
    have hbl : b.length = n := by have e2 := h.1; rw [bytesV_len] at e2; omega
    have hnr : nr = n := by have e1 := hR.len; omega
    subst hnr
    have hb3 := hb1.trans (hb2.mono hb1.size)
    have hz1 := hb1.size
    generalize hg : w2.heap.size - 1 = g at *
    have hgw : w.heap.size ≤ g := by omega
    have HBL := Lib.hid hbl
    clear hg hp hkk hA hb2 h11 hb1 hbl
    go_wp2_with fail
    refine (wnew _).mono ?_
    rintro e w3 ⟨rfl, hw3⟩
    have hW3 := (Wr.new w2).down hb3.size
    rw [hw3] at hW3
    have hbx : Below w2.heap.size w2 w3 := by rw [← hw3]; exact (Below.refl _ _).alloc (Nat.le_refl _) _
    have hap := Apart.of_old hR
    have hR3 := hR.below hbx
    have hb4 := hb3.trans (hbx.mono hb3.size)
    have hg2w := hb3.size
    generalize w2.heap.size = g2 at *
    clear hw3 hbx hR hb3
    have hAw : ∀ k, k ≤ nr → Reads w w.heap.size 1 A k (bytesV (b.take k)) := fun k hk => by
      refine ⟨by rw [bytesV_len, List.length_take]; have := HBL.out; omega, fun hn => ?_⟩
      obtain ⟨ad, e, hb, hc⟩ := h.2 (by omega)
      refine ⟨ad, e, hb, fun j u hu => hc j u ?_⟩
      rw [List.getElem?_map, List.getElem?_take] at hu
      split at hu
      · rw [List.getElem?_map]; exact hu
      · cases hu
    have hAc : A = none ∨ (∃ ad, A = some ad ∧ ¬ c = 0) ∨ (∃ ad, A = some ad ∧ c = 0) := by
      cases A with
      | none => exact .inl rfl
      | some ad =>
        by_cases h0 : c = 0
        · exact .inr (.inr ⟨ad, rfl, h0⟩)
        · exact .inr (.inl ⟨ad, rfl, h0⟩)
    go_wp2_with fail
    go_loopw [7] (fun i wr => LoopO w b g Ar nr cr g2 i wr) (fun i _ => 200 - (intOf i).toNat)
    case atStart => exact ⟨0, 0, _, by omega, rfl, hR3, by simpa using hW3, hap, hb4⟩
    case round =>
      obtain ⟨k, a, v, hk200, rfl, hRk, hWk, hapk, hbk⟩ := hrel
      have hzk := hbk.size
      have hal : a ≤ nr := hRk.at_le
      have hal2 : a ≤ b.length := by rw [HBL.out]; exact hal
      by_cases hlt : k < 200
      · have hd2 : decide ((k : Int) < 200) = true := by simp; omega
        have ht1 : -3 ≤ kind.tmod 4 := by have := Int.lt_tmod_of_pos kind (show (0 : Int) < 4 by omega); omega
        have ht2 : kind.tmod 4 ≤ 3 := by have := Int.tmod_lt_of_pos kind (show (0 : Int) < 4 by omega); omega
        have hK0 : 0 ≤ (kind.tmod 4 + 4 + (k : Int)) % 4 := Int.emod_nonneg _ (by omega)
        have hK3 : (kind.tmod 4 + 4 + (k : Int)) % 4 ≤ 3 := by have := Int.emod_lt_of_pos (kind.tmod 4 + 4 + (k : Int)) (show (0 : Int) < 4 by omega); omega
        go_upto_region 15 with ((with_reducible refine (wRPlace _ _ _ _ _ _ _ hRk).mono ?_); rintro e w4 ⟨rfl, rfl⟩)
        generalize (kind.tmod 4 + 4 + (k : Int)) % 4 = K at *
        have hgl := hRk.blk.lt
        have hg2l := hWk.lt
        have hAgx : ∀ ad, Ar = some ad → 0 < nr → ad.block ≠ wr.heap.size := fun ad e hn => by
          obtain ⟨ad', e', hlt, _⟩ := hRk.reads.2 hn
          obtain rfl : ad = ad' := Option.some.inj (e.symm.trans e')
          omega
        have hvgx : v.ownBlock ≠ some wr.heap.size := fun e => by have := hWk.own_lt _ e; omega
        have hxx := (Below.refl wr.heap.size wr).alloc (Nat.le_refl _) (.cells #[.int .i64 K, .int .i64 0, .bool false, .float .f64 0, .string ⟨#[]⟩] 30)
        have hRx := hRk.below hxx
        have hWx := hWk.below hxx
        have hbx := hbk.trans (hxx.mono hzk)
        have hzx := hbx.size
        have hblk := Blk.new wr 30 #[.int .i64 K, .int .i64 0, .bool false, .float .f64 0, .string ⟨#[]⟩]
        clear hxx hbk hWk
        have hKc : K = 0 ∨ K = 1 ∨ K = 2 ∨ K = 3 := by omega
        clear hK0 hK3 ht1 ht2
        rcases hKc with hKK | hKK | hKK | hKK
        · subst hKK
          have hcon := wRInt g Ar nr cr b ⟨a, 0, 0⟩ (wr.alloc (.cells #[.int .i64 0, .int .i64 0, .bool false, .float .f64 0, .string ⟨#[]⟩] 30)) hRx
          have hone := one_int hal2
          generalize (rInt b ⟨a, 0, 0⟩).1 = v at *
          generalize (rInt b ⟨a, 0, 0⟩).2 = s' at *
          obtain ⟨hstep, hval⟩ := hone
          go_wp2_with fail
          refine hcon.mono ?_
          rintro e w5 ⟨rfl, hR5, hg5⟩
          have hB5 := hblk.grown hg5 (by intro e; injection e with e; omega)
          have hc5 := hB5.cell 1
          have hf5 := hB5.frozen 1
          simp only [List.getElem?_toArray, List.getElem?_cons_succ, List.getElem?_cons_zero] at hc5
          have hW5 := hWx.rd hapk hg5
          have hgs := grown_set w5 wr.heap.size 1 (.int .i64 v)
          have hR6 := hR5.far hgs (by omega) hAgx
          have hW6 := hW5.grown hgs (by omega) hvgx
          have hB6 := hB5.set_ 1 (.int .i64 v)
          have hb6 := (hbx.grown hg5 hzx (by intro j hj; injection hj; omega)).setCell (p := ⟨wr.heap.size, 1, none⟩) hzk (.int .i64 v)
          go_wp2_with fail
          generalize w5.setCell ⟨wr.heap.size, 1, none⟩ (.int .i64 v) = w6 at *
          obtain ⟨sa, se, sp⟩ := s'
          refine (wRFault _ _ _ _ _ _ _ hR6).mono ?_
          rintro e w7 ⟨rfl, q, rfl⟩
          rcases hstep with ⟨he, hp0, hsl, htk⟩ | ⟨he, hsa, hp1, hp2⟩
          · simp only at he hp0 hsl htk
            subst he hp0
            have hok : It.ok ⟨0, v, false, 0, ⟨#[]⟩⟩ := ⟨by show i64ok 0; unfold i64ok; omega, hval, by show (0 : Nat) < _; omega, by show (0 : Nat) ≤ _; omega⟩
            have HTK := Lib.hid htk
            have hB6d : Blk (w6.drewN q) wr.heap.size 30 #[.int .i64 0, .int .i64 v, .bool false, .float .f64 0, .string ⟨#[]⟩] := hB6
            have hc0 := hB6d.cell 0
            have hc1 := hB6d.cell 1
            have hc2 := hB6d.cell 2
            have hc3 := hB6d.cell 3
            have hc4 := hB6d.cell 4
            simp only [List.getElem?_toArray, List.getElem?_cons_succ, List.getElem?_cons_zero] at hc0 hc1 hc2 hc3 hc4
            have hW6d := hW6.below (w' := w6.drewN q) ⟨rfl, rfl, rfl, Nat.le_refl _, fun _ _ => rfl⟩
            have hR6d := hR6.drewN q
            have hb6d : Below w.heap.size w (w6.drewN q) := hb6.trans ⟨rfl, rfl, rfl, Nat.le_refl _, fun _ _ => rfl⟩
            have hln : (b.take a).length ≤ 20000 := by rw [List.length_take, HBL.out]; omega
            clear htk
            go_wp2_with fail
            refine (put_any g2 ⟨0, v, false, 0, ⟨#[]⟩⟩ _ _ _ _ hW6d hb6d.size hok (by show _ + 10 + 0 ≤ _; omega)).mono ?_
            rintro e w8 ⟨rfl, v8, hW8, hf8⟩
            have hR8 := hR6d.foot hf8 hapk
            have hap8 := hapk.foot hR6d hf8
            have hb8 := hb6d.trans (hf8.below hW6d)
            go_wp2
            go_roundw
            case rel =>
              refine ⟨k + 1, sa, v8, by omega, by go_num, hR8, ?_, hap8, hb8⟩
              rw [HTK.out]
              exact hW8
            case measure => simp [intOf]; omega
          · simp only at he hsa hp1 hp2
            subst hsa
            have hb1 : (se != 0) = true := by simp [he]
            have hd3 : decide (sa ≤ sp) = true := by simp; omega
            have hd4 : decide (sp ≤ nr) = true := by rw [HBL.out] at hp2; simp; omega
            have hln : (b.take sa).length ≤ 20000 := by rw [List.length_take, HBL.out]; omega
            have hR6d : Rd 73 ((w6.drewN q).drew) g Ar nr cr b ⟨sa, se, sp⟩ := hR6.drewN (q + 1)
            have hW6d := hW6.below (w' := (w6.drewN q).drew) ⟨rfl, rfl, rfl, Nat.le_refl _, fun _ _ => rfl⟩
            have hb6d : Below w.heap.size w ((w6.drewN q).drew) := hb6.trans ⟨rfl, rfl, rfl, Nat.le_refl _, fun _ _ => rfl⟩
            have hA6 := (hAw sa hal).below hb6d
            have hsn : (sa : Int) ≤ (c : Int) := by omega
            clear hc5 hf5 hB5 hW5 hR5 hg5 hgs hB6 hb6 hW6 hR6 hp1 hp2 he hcon
            generalize b.take sa = T at *
            rcases hAc with rfl | ⟨ad, rfl, hc0⟩ | ⟨ad, rfl, rfl⟩
            rotate_left 2
            obtain rfl : sa = 0 := by omega
            all_goals (
              go_wp2
              go_region_held3 (fun _ => True) (trivial)
                (first
                  | ((with_reducible refine (first_any _).mono ?_)
                     rintro e w7 ⟨rfl, hb7⟩
                     have hR7 := hR6d.below hb7
                     have hW7 := hW6d.below hb7
                     have hA7 := (hA6.more hb6d.size).below hb7
                     have hb8 := hb6d.trans (hb7.mono hb6d.size))
                  | ((with_reducible refine (wRPlace _ _ _ _ _ _ _ hR7).mono ?_); rintro e w8 ⟨rfl, rfl⟩)
                  | ((with_reducible refine (wbytes _ _ _ _ _ hW7 (by omega)).mono ?_)
                     rintro e w8 ⟨A8, c8, rfl, _, _, hown8, hb9⟩
                     have hA8 := (hA7.more hb7.size).below hb9
                     have hb10 := hb8.trans (hb9.mono hb8.size))
                  | ((with_reducible refine (sbytes _ (Reads.of_own hown8) hA8).mono ?_)
                     rintro e w9 ⟨rfl, rfl⟩
                     rw [beq_self_eq_true]))
              go_wp2
              go_ret
              exact ⟨rfl, hb10⟩)
        · subst hKK
          have hcon := wRFlag g Ar nr cr b ⟨a, 0, 0⟩ (wr.alloc (.cells #[.int .i64 1, .int .i64 0, .bool false, .float .f64 0, .string ⟨#[]⟩] 30)) hRx
          have hone := one_flag hal2
          generalize (rFlag b ⟨a, 0, 0⟩).1 = v at *
          generalize (rFlag b ⟨a, 0, 0⟩).2 = s' at *
          have hstep := hone
          go_wp2_with fail
          refine hcon.mono ?_
          rintro e w5 ⟨rfl, hR5, hg5⟩
          have hB5 := hblk.grown hg5 (by intro e; injection e with e; omega)
          have hc5 := hB5.cell 2
          have hf5 := hB5.frozen 2
          simp only [List.getElem?_toArray, List.getElem?_cons_succ, List.getElem?_cons_zero] at hc5
          have hW5 := hWx.rd hapk hg5
          have hgs := grown_set w5 wr.heap.size 2 (.bool v)
          have hR6 := hR5.far hgs (by omega) hAgx
          have hW6 := hW5.grown hgs (by omega) hvgx
          have hB6 := hB5.set_ 2 (.bool v)
          have hb6 := (hbx.grown hg5 hzx (by intro j hj; injection hj; omega)).setCell (p := ⟨wr.heap.size, 2, none⟩) hzk (.bool v)
          go_wp2_with fail
          generalize w5.setCell ⟨wr.heap.size, 2, none⟩ (.bool v) = w6 at *
          obtain ⟨sa, se, sp⟩ := s'
          refine (wRFault _ _ _ _ _ _ _ hR6).mono ?_
          rintro e w7 ⟨rfl, q, rfl⟩
          rcases hstep with ⟨he, hp0, hsl, htk⟩ | ⟨he, hsa, hp1, hp2⟩
          · simp only at he hp0 hsl htk
            subst he hp0
            have hok : It.ok ⟨1, 0, v, 0, ⟨#[]⟩⟩ := ⟨by show i64ok 1; unfold i64ok; omega, by show i64ok 0; unfold i64ok; omega, by show (0 : Nat) < _; omega, by show (0 : Nat) ≤ _; omega⟩
            have HTK := Lib.hid htk
            have hB6d : Blk (w6.drewN q) wr.heap.size 30 #[.int .i64 1, .int .i64 0, .bool v, .float .f64 0, .string ⟨#[]⟩] := hB6
            have hc0 := hB6d.cell 0
            have hc1 := hB6d.cell 1
            have hc2 := hB6d.cell 2
            have hc3 := hB6d.cell 3
            have hc4 := hB6d.cell 4
            simp only [List.getElem?_toArray, List.getElem?_cons_succ, List.getElem?_cons_zero] at hc0 hc1 hc2 hc3 hc4
            have hW6d := hW6.below (w' := w6.drewN q) ⟨rfl, rfl, rfl, Nat.le_refl _, fun _ _ => rfl⟩
            have hR6d := hR6.drewN q
            have hb6d : Below w.heap.size w (w6.drewN q) := hb6.trans ⟨rfl, rfl, rfl, Nat.le_refl _, fun _ _ => rfl⟩
            have hln : (b.take a).length ≤ 20000 := by rw [List.length_take, HBL.out]; omega
            clear htk
            go_wp2_with fail
            refine (put_any g2 ⟨1, 0, v, 0, ⟨#[]⟩⟩ _ _ _ _ hW6d hb6d.size hok (by show _ + 10 + 0 ≤ _; omega)).mono ?_
            rintro e w8 ⟨rfl, v8, hW8, hf8⟩
            have hR8 := hR6d.foot hf8 hapk
            have hap8 := hapk.foot hR6d hf8
            have hb8 := hb6d.trans (hf8.below hW6d)
            go_wp2
            go_roundw
            case rel =>
              refine ⟨k + 1, sa, v8, by omega, by go_num, hR8, ?_, hap8, hb8⟩
              rw [HTK.out]
              exact hW8
            case measure => simp [intOf]; omega
          · simp only at he hsa hp1 hp2
            subst hsa
            have hb1 : (se != 0) = true := by simp [he]
            have hd3 : decide (sa ≤ sp) = true := by simp; omega
            have hd4 : decide (sp ≤ nr) = true := by rw [HBL.out] at hp2; simp; omega
            have hln : (b.take sa).length ≤ 20000 := by rw [List.length_take, HBL.out]; omega
            have hR6d : Rd 73 ((w6.drewN q).drew) g Ar nr cr b ⟨sa, se, sp⟩ := hR6.drewN (q + 1)
            have hW6d := hW6.below (w' := (w6.drewN q).drew) ⟨rfl, rfl, rfl, Nat.le_refl _, fun _ _ => rfl⟩
            have hb6d : Below w.heap.size w ((w6.drewN q).drew) := hb6.trans ⟨rfl, rfl, rfl, Nat.le_refl _, fun _ _ => rfl⟩
            have hA6 := (hAw sa hal).below hb6d
            have hsn : (sa : Int) ≤ (c : Int) := by omega
            clear hc5 hf5 hB5 hW5 hR5 hg5 hgs hB6 hb6 hW6 hR6 hp1 hp2 he hcon
            generalize b.take sa = T at *
            rcases hAc with rfl | ⟨ad, rfl, hc0⟩ | ⟨ad, rfl, rfl⟩
            rotate_left 2
            obtain rfl : sa = 0 := by omega
            all_goals (
              go_wp2
              go_region_held3 (fun _ => True) (trivial)
                (first
                  | ((with_reducible refine (first_any _).mono ?_)
                     rintro e w7 ⟨rfl, hb7⟩
                     have hR7 := hR6d.below hb7
                     have hW7 := hW6d.below hb7
                     have hA7 := (hA6.more hb6d.size).below hb7
                     have hb8 := hb6d.trans (hb7.mono hb6d.size))
                  | ((with_reducible refine (wRPlace _ _ _ _ _ _ _ hR7).mono ?_); rintro e w8 ⟨rfl, rfl⟩)
                  | ((with_reducible refine (wbytes _ _ _ _ _ hW7 (by omega)).mono ?_)
                     rintro e w8 ⟨A8, c8, rfl, _, _, hown8, hb9⟩
                     have hA8 := (hA7.more hb7.size).below hb9
                     have hb10 := hb8.trans (hb9.mono hb8.size))
                  | ((with_reducible refine (sbytes _ (Reads.of_own hown8) hA8).mono ?_)
                     rintro e w9 ⟨rfl, rfl⟩
                     rw [beq_self_eq_true]))
              go_wp2
              go_ret
              exact ⟨rfl, hb10⟩)
        · subst hKK
          have hcon := wRFloat g Ar nr cr b ⟨a, 0, 0⟩ (wr.alloc (.cells #[.int .i64 2, .int .i64 0, .bool false, .float .f64 0, .string ⟨#[]⟩] 30)) hRx
          have hone := one_float hal2
          generalize (rFloat b ⟨a, 0, 0⟩).1 = v at *
          generalize (rFloat b ⟨a, 0, 0⟩).2 = s' at *
          obtain ⟨hstep, hval⟩ := hone
          go_wp2_with fail
          refine hcon.mono ?_
          rintro e w5 ⟨rfl, hR5, hg5⟩
          have hB5 := hblk.grown hg5 (by intro e; injection e with e; omega)
          have hc5 := hB5.cell 3
          have hf5 := hB5.frozen 3
          simp only [List.getElem?_toArray, List.getElem?_cons_succ, List.getElem?_cons_zero] at hc5
          have hW5 := hWx.rd hapk hg5
          have hgs := grown_set w5 wr.heap.size 3 (.float .f64 v)
          have hR6 := hR5.far hgs (by omega) hAgx
          have hW6 := hW5.grown hgs (by omega) hvgx
          have hB6 := hB5.set_ 3 (.float .f64 v)
          have hb6 := (hbx.grown hg5 hzx (by intro j hj; injection hj; omega)).setCell (p := ⟨wr.heap.size, 3, none⟩) hzk (.float .f64 v)
          go_wp2_with fail
          generalize w5.setCell ⟨wr.heap.size, 3, none⟩ (.float .f64 v) = w6 at *
          obtain ⟨sa, se, sp⟩ := s'
          refine (wRFault _ _ _ _ _ _ _ hR6).mono ?_
          rintro e w7 ⟨rfl, q, rfl⟩
          rcases hstep with ⟨he, hp0, hsl, htk⟩ | ⟨he, hsa, hp1, hp2⟩
          · simp only at he hp0 hsl htk
            subst he hp0
            have hok : It.ok ⟨2, 0, false, v, ⟨#[]⟩⟩ := ⟨by show i64ok 2; unfold i64ok; omega, by show i64ok 0; unfold i64ok; omega, hval, by show (0 : Nat) ≤ _; omega⟩
            have HTK := Lib.hid htk
            have hB6d : Blk (w6.drewN q) wr.heap.size 30 #[.int .i64 2, .int .i64 0, .bool false, .float .f64 v, .string ⟨#[]⟩] := hB6
            have hc0 := hB6d.cell 0
            have hc1 := hB6d.cell 1
            have hc2 := hB6d.cell 2
            have hc3 := hB6d.cell 3
            have hc4 := hB6d.cell 4
            simp only [List.getElem?_toArray, List.getElem?_cons_succ, List.getElem?_cons_zero] at hc0 hc1 hc2 hc3 hc4
            have hW6d := hW6.below (w' := w6.drewN q) ⟨rfl, rfl, rfl, Nat.le_refl _, fun _ _ => rfl⟩
            have hR6d := hR6.drewN q
            have hb6d : Below w.heap.size w (w6.drewN q) := hb6.trans ⟨rfl, rfl, rfl, Nat.le_refl _, fun _ _ => rfl⟩
            have hln : (b.take a).length ≤ 20000 := by rw [List.length_take, HBL.out]; omega
            clear htk
            go_wp2_with fail
            refine (put_any g2 ⟨2, 0, false, v, ⟨#[]⟩⟩ _ _ _ _ hW6d hb6d.size hok (by show _ + 10 + 0 ≤ _; omega)).mono ?_
            rintro e w8 ⟨rfl, v8, hW8, hf8⟩
            have hR8 := hR6d.foot hf8 hapk
            have hap8 := hapk.foot hR6d hf8
            have hb8 := hb6d.trans (hf8.below hW6d)
            go_wp2
            go_roundw
            case rel =>
              refine ⟨k + 1, sa, v8, by omega, by go_num, hR8, ?_, hap8, hb8⟩
              rw [HTK.out]
              exact hW8
            case measure => simp [intOf]; omega
          · simp only at he hsa hp1 hp2
            subst hsa
            have hb1 : (se != 0) = true := by simp [he]
            have hd3 : decide (sa ≤ sp) = true := by simp; omega
            have hd4 : decide (sp ≤ nr) = true := by rw [HBL.out] at hp2; simp; omega
            have hln : (b.take sa).length ≤ 20000 := by rw [List.length_take, HBL.out]; omega
            have hR6d : Rd 73 ((w6.drewN q).drew) g Ar nr cr b ⟨sa, se, sp⟩ := hR6.drewN (q + 1)
            have hW6d := hW6.below (w' := (w6.drewN q).drew) ⟨rfl, rfl, rfl, Nat.le_refl _, fun _ _ => rfl⟩
            have hb6d : Below w.heap.size w ((w6.drewN q).drew) := hb6.trans ⟨rfl, rfl, rfl, Nat.le_refl _, fun _ _ => rfl⟩
            have hA6 := (hAw sa hal).below hb6d
            have hsn : (sa : Int) ≤ (c : Int) := by omega
            clear hc5 hf5 hB5 hW5 hR5 hg5 hgs hB6 hb6 hW6 hR6 hp1 hp2 he hcon
            generalize b.take sa = T at *
            rcases hAc with rfl | ⟨ad, rfl, hc0⟩ | ⟨ad, rfl, rfl⟩
            rotate_left 2
            obtain rfl : sa = 0 := by omega
            all_goals (
              go_wp2
              go_region_held3 (fun _ => True) (trivial)
                (first
                  | ((with_reducible refine (first_any _).mono ?_)
                     rintro e w7 ⟨rfl, hb7⟩
                     have hR7 := hR6d.below hb7
                     have hW7 := hW6d.below hb7
                     have hA7 := (hA6.more hb6d.size).below hb7
                     have hb8 := hb6d.trans (hb7.mono hb6d.size))
                  | ((with_reducible refine (wRPlace _ _ _ _ _ _ _ hR7).mono ?_); rintro e w8 ⟨rfl, rfl⟩)
                  | ((with_reducible refine (wbytes _ _ _ _ _ hW7 (by omega)).mono ?_)
                     rintro e w8 ⟨A8, c8, rfl, _, _, hown8, hb9⟩
                     have hA8 := (hA7.more hb7.size).below hb9
                     have hb10 := hb8.trans (hb9.mono hb8.size))
                  | ((with_reducible refine (sbytes _ (Reads.of_own hown8) hA8).mono ?_)
                     rintro e w9 ⟨rfl, rfl⟩
                     rw [beq_self_eq_true]))
              go_wp2
              go_ret
              exact ⟨rfl, hb10⟩)
        · subst hKK
          have hcon := wRText g Ar nr cr b ⟨a, 0, 0⟩ 20000 (wr.alloc (.cells #[.int .i64 3, .int .i64 0, .bool false, .float .f64 0, .string ⟨#[]⟩] 30)) hRx
          have hone := one_text hal2
          generalize (rText b ⟨a, 0, 0⟩ 20000).1 = v at *
          generalize (rText b ⟨a, 0, 0⟩ 20000).2 = s' at *
          obtain ⟨hstep, hval⟩ := hone
          go_wp2_with fail
          refine hcon.mono ?_
          rintro e w5 ⟨rfl, hR5, hg5⟩
          have hB5 := hblk.grown hg5 (by intro e; injection e with e; omega)
          have hc5 := hB5.cell 4
          have hf5 := hB5.frozen 4
          simp only [List.getElem?_toArray, List.getElem?_cons_succ, List.getElem?_cons_zero] at hc5
          have hW5 := hWx.rd hapk hg5
          have hgs := grown_set w5 wr.heap.size 4 (.string ⟨v.toArray⟩)
          have hR6 := hR5.far hgs (by omega) hAgx
          have hW6 := hW5.grown hgs (by omega) hvgx
          have hB6 := hB5.set_ 4 (.string ⟨v.toArray⟩)
          have hb6 := (hbx.grown hg5 hzx (by intro j hj; injection hj; omega)).setCell (p := ⟨wr.heap.size, 4, none⟩) hzk (.string ⟨v.toArray⟩)
          go_wp2_with fail
          generalize w5.setCell ⟨wr.heap.size, 4, none⟩ (.string ⟨v.toArray⟩) = w6 at *
          obtain ⟨sa, se, sp⟩ := s'
          refine (wRFault _ _ _ _ _ _ _ hR6).mono ?_
          rintro e w7 ⟨rfl, q, rfl⟩
          rcases hstep with ⟨he, hp0, hsl, htk⟩ | ⟨he, hsa, hp1, hp2⟩
          · simp only at he hp0 hsl htk
            subst he hp0
            have hok : It.ok ⟨3, 0, false, 0, ⟨v.toArray⟩⟩ := ⟨by show i64ok 3; unfold i64ok; omega, by show i64ok 0; unfold i64ok; omega, by show (0 : Nat) < _; omega, by show v.toArray.size ≤ _; unfold maxLen; rw [List.size_toArray]; omega⟩
            have HTK := Lib.hid htk
            have hB6d : Blk (w6.drewN q) wr.heap.size 30 #[.int .i64 3, .int .i64 0, .bool false, .float .f64 0, .string ⟨v.toArray⟩] := hB6
            have hc0 := hB6d.cell 0
            have hc1 := hB6d.cell 1
            have hc2 := hB6d.cell 2
            have hc3 := hB6d.cell 3
            have hc4 := hB6d.cell 4
            simp only [List.getElem?_toArray, List.getElem?_cons_succ, List.getElem?_cons_zero] at hc0 hc1 hc2 hc3 hc4
            have hW6d := hW6.below (w' := w6.drewN q) ⟨rfl, rfl, rfl, Nat.le_refl _, fun _ _ => rfl⟩
            have hR6d := hR6.drewN q
            have hb6d : Below w.heap.size w (w6.drewN q) := hb6.trans ⟨rfl, rfl, rfl, Nat.le_refl _, fun _ _ => rfl⟩
            have hln : (b.take a).length ≤ 20000 := by rw [List.length_take, HBL.out]; omega
            clear htk
            go_wp2_with fail
            refine (put_any g2 ⟨3, 0, false, 0, ⟨v.toArray⟩⟩ _ _ _ _ hW6d hb6d.size hok (by show _ + 10 + v.toArray.size ≤ _; rw [List.size_toArray]; omega)).mono ?_
            rintro e w8 ⟨rfl, v8, hW8, hf8⟩
            have hR8 := hR6d.foot hf8 hapk
            have hap8 := hapk.foot hR6d hf8
            have hb8 := hb6d.trans (hf8.below hW6d)
            go_wp2
            go_roundw
            case rel =>
              refine ⟨k + 1, sa, v8, by omega, by go_num, hR8, ?_, hap8, hb8⟩
              rw [HTK.out]
              exact hW8
            case measure => simp [intOf]; omega
          · simp only at he hsa hp1 hp2
            subst hsa
            have hb1 : (se != 0) = true := by simp [he]
            have hd3 : decide (sa ≤ sp) = true := by simp; omega
            have hd4 : decide (sp ≤ nr) = true := by rw [HBL.out] at hp2; simp; omega
            have hln : (b.take sa).length ≤ 20000 := by rw [List.length_take, HBL.out]; omega
            have hR6d : Rd 73 ((w6.drewN q).drew) g Ar nr cr b ⟨sa, se, sp⟩ := hR6.drewN (q + 1)
            have hW6d := hW6.below (w' := (w6.drewN q).drew) ⟨rfl, rfl, rfl, Nat.le_refl _, fun _ _ => rfl⟩
            have hb6d : Below w.heap.size w ((w6.drewN q).drew) := hb6.trans ⟨rfl, rfl, rfl, Nat.le_refl _, fun _ _ => rfl⟩
            have hA6 := (hAw sa hal).below hb6d
            have hsn : (sa : Int) ≤ (c : Int) := by omega
            clear hc5 hf5 hB5 hW5 hR5 hg5 hgs hB6 hb6 hW6 hR6 hp1 hp2 he hcon
            generalize b.take sa = T at *
            rcases hAc with rfl | ⟨ad, rfl, hc0⟩ | ⟨ad, rfl, rfl⟩
            rotate_left 2
            obtain rfl : sa = 0 := by omega
            all_goals (
              go_wp2
              go_region_held3 (fun _ => True) (trivial)
                (first
                  | ((with_reducible refine (first_any _).mono ?_)
                     rintro e w7 ⟨rfl, hb7⟩
                     have hR7 := hR6d.below hb7
                     have hW7 := hW6d.below hb7
                     have hA7 := (hA6.more hb6d.size).below hb7
                     have hb8 := hb6d.trans (hb7.mono hb6d.size))
                  | ((with_reducible refine (wRPlace _ _ _ _ _ _ _ hR7).mono ?_); rintro e w8 ⟨rfl, rfl⟩)
                  | ((with_reducible refine (wbytes _ _ _ _ _ hW7 (by omega)).mono ?_)
                     rintro e w8 ⟨A8, c8, rfl, _, _, hown8, hb9⟩
                     have hA8 := (hA7.more hb7.size).below hb9
                     have hb10 := hb8.trans (hb9.mono hb8.size))
                  | ((with_reducible refine (sbytes _ (Reads.of_own hown8) hA8).mono ?_)
                     rintro e w9 ⟨rfl, rfl⟩
                     rw [beq_self_eq_true]))
              go_wp2
              go_ret
              exact ⟨rfl, hb10⟩)
      · have hd2 : decide ((k : Int) < 200) = false := by simp; omega
        have hln : (b.take a).length ≤ 20000 := by rw [List.length_take, HBL.out]; omega
        have hR6d := hRk
        have hW6d := hWk
        have hb6d := hbk
        have hA6 := (hAw a hal).below hb6d
        have hsn : (a : Int) ≤ (c : Int) := by omega
        clear hRk hWk hbk
        generalize b.take a = T at *
        rcases hAc with rfl | ⟨ad, rfl, hc0⟩ | ⟨ad, rfl, rfl⟩
        rotate_left 2
        obtain rfl : a = 0 := by omega
        all_goals (
          go_wp2_with
            (first
              | ((with_reducible refine (first_any _).mono ?_)
                 rintro e w7 ⟨rfl, hb7⟩
                 have hR7 := hR6d.below hb7
                 have hW7 := hW6d.below hb7
                 have hA7 := (hA6.more hb6d.size).below hb7
                 have hb8 := hb6d.trans (hb7.mono hb6d.size))
              | ((with_reducible refine (wRPlace _ _ _ _ _ _ _ hR8).mono ?_); rintro e w8 ⟨rfl, rfl⟩)
              | ((with_reducible refine (wbytes _ _ _ _ _ hW7 (by omega)).mono ?_)
                 rintro e w8 ⟨A8, c8, rfl, _, _, hown8, hb9⟩
                 have hA8 := (hA7.more hb7.size).below hb9; have hR8 := hR7.below hb9
                 have hb10 := hb8.trans (hb9.mono hb8.size))
              | ((with_reducible refine (sbytes _ (Reads.of_own hown8) hA8).mono ?_)
                 rintro e w9 ⟨rfl, rfl⟩
                 rw [beq_self_eq_true]))
          go_wp2
          go_ret
          exact ⟨rfl, hb10⟩)
end Go.Proofs.Ytglddefjmnjgdaa
