/- The walks of raceref's Ints and Pairs. -/
import Derived.Deep.RegionHeld3
import Derived.Test.YthdmanadhbpogaaGreatCaad
import Derived.Test.YthdmanadhbpogaaGreatCabh
namespace Go.Proofs.YthdmanadhbpogaaGreat
set_option maxHeartbeats 4000000
set_option linter.unusedVariables false
open Go.RowKit Fl
attribute [local go_sem] run_store_float
theorem intsS_any (A A' : Option Addr) (n n' c c' : Nat) (l m : List Int) (w : World) (h : Sl NmRel 1 w w.heap.size A n l) (h' : Sl NmRel 1 w w.heap.size A' n' m) (hn : n ≤ maxLen) (hn' : n' ≤ maxLen) :
 Calls Tryz.prog 59 #[.slice A n c, .slice A' n' c'] w fun e w' => e = .returned (.bool (sameL (fun a b => a == b) l m)) ∧ Below w.heap.size w w' := by
 unfold maxLen at hn hn'
 have hl := h.1
 have hl' := h'.1
 by_cases hne : n = n'
 · subst hne
   have hb0 : ((n : Int) != (n : Int)) = false := by simp
   have hle : l.length ≤ n := by omega
   have hge : n ≤ l.length := by omega
   have hle' : n ≤ m.length := by omega
   have hle2 : m.length ≤ n := by omega
   clear hl hl'
   go_enter Tryz.func59, Tryz.ntmps59
   go_wp2
   go_loopw [5] (fun i wr => SameRel (fun a b => a == b) l m w i wr) (fun i _ => n - (intOf i).toNat)
   case atStart => exact ⟨0, by omega, rfl, rfl, Below.refl _ _⟩
   case round =>
    obtain ⟨k, hk, rfl, hs, hb⟩ := hrel
    have hzz := hb.size
    by_cases hlt : k < n
    · obtain ⟨ad, a, rfl, ha, hbk, hok, c0⟩ := (h.below NmRel.kept hb).nm hlt
      obtain ⟨ad', a', rfl, ha', hbk', hok', c0'⟩ := (h'.below NmRel.kept hb).nm hlt
      have hd1 : decide ((k : Int) < (n : Int)) = true := by simp; omega
      have hk0 : (0 : Int) ≤ (k : Int) := by omega
      have hk1 : (k : Int) < (n : Int) := by omega
      rw [sameL_drop ha ha'] at hs
      have HS := Lib.hid hs
      clear ha ha' hs
      cases hq : (a == a')
      · have HF : RowKit.Hid (sameL (fun a b : Int => a == b) l m = false) := by have := HS.out; rw [hq] at this; exact this.symm
        go_wp2
        go_quiet (fail)
        go_wp2
        go_ret
        rw [HF.out]
        exact ⟨rfl, hb.trans ⟨rfl, rfl, rfl, Nat.le_refl _, fun _ _ => rfl⟩⟩
      · have HT : RowKit.Hid (sameL (fun a b : Int => a == b) (l.drop (k + 1)) (m.drop (k + 1)) = sameL (fun a b : Int => a == b) l m) := by have := HS.out; rw [hq] at this; exact this
        go_wp2
        go_quiet (fail)
        go_wp2
        go_roundw
        case rel => exact ⟨k + 1, by omega, by go_num, HT.out, hb.trans ⟨rfl, rfl, rfl, Nat.le_refl _, fun _ _ => rfl⟩⟩
        case measure => simp [intOf]; omega
    · have hd1 : decide ((k : Int) < (n : Int)) = false := by simp; omega
      have hs2 : sameL (fun a b : Int => a == b) l m = true := by
         rw [← hs, List.drop_of_length_le (by omega), List.drop_of_length_le (by omega)]; rfl
      have HS := Lib.hid hs2
      clear hs hs2
      go_wp2
      go_ret
      rw [HS.out]
      exact ⟨rfl, hb⟩
 · have hb0 : ((n : Int) != (n' : Int)) = true := by simp; omega
   rw [sameL_len l m (by omega)]
   clear hl hl' hne
   go_enter Tryz.func59, Tryz.ntmps59
   go_wp2
   go_ret
   exact ⟨rfl, Below.refl _ _⟩
theorem prsS_any (A A' : Option Addr) (n n' c c' : Nat) (l m : List Wt) (w : World) (h : Sl WtRel 4 w w.heap.size A n l) (h' : Sl WtRel 4 w w.heap.size A' n' m) (hn : n ≤ maxLen) (hn' : n' ≤ maxLen) :
 Calls Tryz.prog 60 #[.slice A n c, .slice A' n' c'] w fun e w' => e = .returned (.bool (sameL Wt.same l m)) ∧ Below w.heap.size w w' := by
 unfold maxLen at hn hn'
 have hl := h.1
 have hl' := h'.1
 by_cases hne : n = n'
 · subst hne
   have hb0 : ((n : Int) != (n : Int)) = false := by simp
   have hle : l.length ≤ n := by omega
   have hge : n ≤ l.length := by omega
   have hle' : n ≤ m.length := by omega
   have hle2 : m.length ≤ n := by omega
   clear hl hl'
   go_enter Tryz.func60, Tryz.ntmps60
   go_wp2
   go_loopw [5] (fun i wr => SameRel Wt.same l m w i wr) (fun i _ => n - (intOf i).toNat)
   case atStart => exact ⟨0, by omega, rfl, rfl, Below.refl _ _⟩
   case round =>
    obtain ⟨k, hk, rfl, hs, hb⟩ := hrel
    have hzz := hb.size
    by_cases hlt : k < n
    · obtain ⟨ad, a, rfl, ha, hbk, hok, c0, c1, c2, c3⟩ := (h.below WtRel.kept hb).wt hlt
      obtain ⟨ad', a', rfl, ha', hbk', hok', d0, d1, d2, d3⟩ := (h'.below WtRel.kept hb).wt hlt
      have hd1 : decide ((k : Int) < (n : Int)) = true := by simp; omega
      have hk0 : (0 : Int) ≤ (k : Int) := by omega
      have hk1 : (k : Int) < (n : Int) := by omega
      have hbw : (ad.add (k * 4)).block < wr.heap.size := by omega
      have hbw' : (ad'.add (k * 4)).block < wr.heap.size := by omega
      rw [sameL_drop ha ha'] at hs
      have HS := Lib.hid hs
      clear ha ha' hs hok hok'
      cases hq : (a.key.toList == a'.key.toList)
      · have HF : RowKit.Hid (sameL Wt.same l m = false) := by have := HS.out; rw [show Wt.same a a' = false from by unfold Wt.same; rw [hq]; rfl] at this; exact this.symm
        go_wp2
        go_quiet (fail)
        go_wp2
        go_ret
        rw [HF.out]
        exact ⟨rfl, hb.trans ⟨rfl, rfl, rfl, Nat.le_refl _, fun _ _ => rfl⟩⟩
      · have hsm : Wt.same a a' = a.v.same a'.v := by unfold Wt.same; rw [hq]; rfl
        have hv := fun w => value_any a.v a'.v w
        rw [hsm] at HS
        clear hsm
        generalize a.v.same a'.v = r at *
        go_wp2
        go_region_held3 (fun w' => (w'.cell? (ad.add (k * 4)) = some (.string a.key) ∧ w'.cell? ⟨(ad.add (k * 4)).block, (ad.add (k * 4)).off + 1, none⟩ = some (.int .i64 a.v.k) ∧ w'.cell? ⟨(ad.add (k * 4)).block, (ad.add (k * 4)).off + 2, none⟩ = some (.float .f64 a.v.n) ∧ w'.cell? ⟨(ad.add (k * 4)).block, (ad.add (k * 4)).off + 3, none⟩ = some (.string a.v.t)) ∧
         w'.cell? (ad'.add (k * 4)) = some (.string a'.key) ∧ w'.cell? ⟨(ad'.add (k * 4)).block, (ad'.add (k * 4)).off + 1, none⟩ = some (.int .i64 a'.v.k) ∧ w'.cell? ⟨(ad'.add (k * 4)).block, (ad'.add (k * 4)).off + 2, none⟩ = some (.float .f64 a'.v.n) ∧ w'.cell? ⟨(ad'.add (k * 4)).block, (ad'.add (k * 4)).off + 3, none⟩ = some (.string a'.v.t))
         (first | exact ⟨⟨c0, c1, c2, c3⟩, d0, d1, d2, d3⟩ | exact ⟨⟨(hb1.cell hbw).trans c0, (hb1.cell (p := ⟨_, _, none⟩) hbw).trans c1, (hb1.cell (p := ⟨_, _, none⟩) hbw).trans c2, (hb1.cell (p := ⟨_, _, none⟩) hbw).trans c3⟩, (hb1.cell hbw').trans d0, (hb1.cell (p := ⟨_, _, none⟩) hbw').trans d1, (hb1.cell (p := ⟨_, _, none⟩) hbw').trans d2, (hb1.cell (p := ⟨_, _, none⟩) hbw').trans d3⟩)
         (first | ((with_reducible refine (hv _).mono ?_); rintro e w1 ⟨rfl, hb1⟩))
        have hb2 : Below w.heap.size w w1 := hb.trans (Below.mono (w := wr) ⟨hb1.os, hb1.tape, hb1.output, hb1.size, hb1.block⟩ hzz)
        cases r
        · have HF : RowKit.Hid (sameL Wt.same l m = false) := by have := HS.out; rw [Bool.false_and] at this; exact this.symm
          go_wp2
          go_ret
          rw [HF.out]
          exact ⟨rfl, hb2⟩
        · have HT : RowKit.Hid (sameL Wt.same (l.drop (k + 1)) (m.drop (k + 1)) = sameL Wt.same l m) := by have := HS.out; rw [Bool.true_and] at this; exact this
          go_wp2
          go_roundw
          case rel => exact ⟨k + 1, by omega, by go_num, HT.out, hb2⟩
          case measure => simp [intOf]; omega
    · have hd1 : decide ((k : Int) < (n : Int)) = false := by simp; omega
      have hs2 : sameL Wt.same l m = true := by
         rw [← hs, List.drop_of_length_le (by omega), List.drop_of_length_le (by omega)]; rfl
      have HS := Lib.hid hs2
      clear hs hs2
      go_wp2
      go_ret
      rw [HS.out]
      exact ⟨rfl, hb⟩
 · have hb0 : ((n : Int) != (n' : Int)) = true := by simp; omega
   rw [sameL_len l m (by omega)]
   clear hl hl' hne
   go_enter Tryz.func60, Tryz.ntmps60
   go_wp2
   go_ret
   exact ⟨rfl, Below.refl _ _⟩
end Go.Proofs.YthdmanadhbpogaaGreat
/- The walk of raceref's State against a state that is nothing. -/
namespace Go.Proofs.YthdmanadhbpogaaGreat
set_option maxHeartbeats 4000000
set_option maxRecDepth 100000
set_option linter.unusedVariables false
open Go.RowKit Fl
attribute [local go_sem] run_store_float
theorem hists_nil (A : Option Addr) (n c : Nat) (w : World) : Calls Tryz.prog 82 #[.slice A n c, .slice none 0 0] w fun e w' => e = .returned (.bool ((n : Int) == 0)) ∧ w = w' := by
 by_cases hn : n = 0
 · subst hn
   go_enter Tryz.func82, Tryz.ntmps82
   go_wp2
   go_loopw [5] (fun i wr => i = .int .i64 0 ∧ w = wr) (fun _ _ => 0)
   case atStart => exact ⟨rfl, rfl⟩
   case round =>
    obtain ⟨rfl, rfl⟩ := hrel
    go_wp2
    go_ret
    exact ⟨rfl, rfl⟩
 · have hb0 : ((n : Int) != (0 : Int)) = true := by simp; omega
   have hb1 : ((n : Int) == (0 : Int)) = false := by simp; omega
   rw [hb1]
   go_enter Tryz.func82, Tryz.ntmps82
   go_wp2
   go_ret
   exact ⟨rfl, rfl⟩
theorem pends_nil (A : Option Addr) (n c : Nat) (w : World) : Calls Tryz.prog 83 #[.slice A n c, .slice none 0 0] w fun e w' => e = .returned (.bool ((n : Int) == 0)) ∧ w = w' := by
 by_cases hn : n = 0
 · subst hn
   go_enter Tryz.func83, Tryz.ntmps83
   go_wp2
   go_loopw [5] (fun i wr => i = .int .i64 0 ∧ w = wr) (fun _ _ => 0)
   case atStart => exact ⟨rfl, rfl⟩
   case round =>
    obtain ⟨rfl, rfl⟩ := hrel
    go_wp2
    go_ret
    exact ⟨rfl, rfl⟩
 · have hb0 : ((n : Int) != (0 : Int)) = true := by simp; omega
   have hb1 : ((n : Int) == (0 : Int)) = false := by simp; omega
   rw [hb1]
   go_enter Tryz.func83, Tryz.ntmps83
   go_wp2
   go_ret
   exact ⟨rfl, rfl⟩
theorem stateZ_any (s : Stt) (A1 A2 : Option Addr) (n1 n2 c1 c2 : Nat) (w : World) (h1 : s.h.length = n1) (h2 : s.p.length = n2) :
 Calls Tryz.prog 33 #[.agg (s.arr (.slice A1 n1 c1) (.slice A2 n2 c2)), .agg (zeroCells)] w fun e w' => e = .returned (.bool s.zeroB) ∧ Below w.heap.size w w' := by
 have hR := fun w => range_any s.r ⟨0, 0, 0, 0⟩ w
 have z1 := fun w => zero_run s.f w
 have z2 := fun w => zero_run s.c w
 have hH := fun w => hists_nil A1 n1 c1 w
 have hP := fun w => pends_nil A2 n2 c2 w
 have HZ := Lib.hid (show s.zeroB = (s.r.same ⟨0, 0, 0, 0⟩ && s.f.zero && s.c.zero && ((n1 : Int) == 0) && ((n2 : Int) == 0)) by unfold Stt.zeroB; rw [h1, h2]; rfl)
 clear h1 h2
 have hX : Below w.heap.size w ((w.alloc (.cells (s.arr (.slice A1 n1 c1) (.slice A2 n2 c2)) 36)).alloc (.cells (zeroCells) 36)) := by go_grown
 have i2 : Blk ((w.alloc (.cells (s.arr (.slice A1 n1 c1) (.slice A2 n2 c2)) 36)).alloc (.cells (zeroCells) 36)) w.heap.size 36 (s.arr (.slice A1 n1 c1) (.slice A2 n2 c2)) := (Blk.new _ _ _).alloc _
 have i3 : Blk ((w.alloc (.cells (s.arr (.slice A1 n1 c1) (.slice A2 n2 c2)) 36)).alloc (.cells (zeroCells) 36)) (w.heap.size + 1) 36 (zeroCells) := Blk.new' _ _ (by simp)
 generalize s.r.same ⟨0, 0, 0, 0⟩ = b0 at *
 generalize s.f.zero = b1 at *
 generalize s.c.zero = b2 at *
 go_enter Tryz.func33, Tryz.ntmps33
 go_wp2_with (first
  | ((with_reducible refine (hR _).mono ?_); rintro e w3 ⟨rfl, hb3⟩
     have j2 := i2.below hb3 i2.lt
     have j3 := i3.below hb3 i3.lt
     have hY := hX.trans (hb3.mono hX.size)
     obtain ⟨l2, x0, x1, x2, x3, x4, x5, x6, x7, x8, x9, x10, x11⟩ := dozenC j2
     obtain ⟨l3, y0, y1, y2, y3, y4, y5, y6, y7, y8, y9, y10, y11⟩ := dozenC j3)
  | ((with_reducible refine (hH _).mono ?_); rintro e w4 ⟨rfl, rfl⟩)
  | ((with_reducible refine (hP _).mono ?_); rintro e w5 ⟨rfl, rfl⟩))
 all_goals go_ret
 all_goals refine ⟨ret_bool ?_, hY⟩
 all_goals rw [HZ.out]
 all_goals simp_all
end Go.Proofs.YthdmanadhbpogaaGreat
