/- The walks of Parts, the program's and the document's. -/
import Derived.Test.YthdmanadhbpogaaGreatCaad
import Derived.Test.YthdmanadhbpogaaGreatCaba
namespace Go.Proofs.YthdmanadhbpogaaGreat
set_option maxHeartbeats 4000000
set_option maxRecDepth 100000
set_option linter.unusedVariables false
open Go.RowKit Fl
attribute [local go_sem] run_store_float
def numsFrom : Option Int → List Int → Bool
 | _, [] => true
 | p, n :: l => decide (1 ≤ n) && decide (n ≤ 12) && (match p with | none => true | some q => decide (q < n)) && numsFrom (some n) l
def partsB (l : List Int) : Bool := numsFrom none l && decide (0 < l.length)
theorem numsFrom_drop {l : List Int} {k : Nat} {a : Int} (h : l[k]? = some a) :
 numsFrom (ahead l k) (l.drop k) = (decide (1 ≤ a) && decide (a ≤ 12) && (match ahead l k with | none => true | some q => decide (q < a)) && numsFrom (ahead l (k + 1)) (l.drop (k + 1))) := by
 have h1 := List.getElem?_eq_some_iff.1 h
 rw [List.drop_eq_getElem_cons h1.1, h1.2]
 show (_ && _ && _ && numsFrom (some a) _) = _
 rw [show ahead l (k + 1) = some a from h]
theorem nums_len : ∀ (l : List Int) (q : Int), q ≤ 12 → numsFrom (some q) l = true → (l.length : Int) ≤ 12 - q := by
 intro l
 induction l with
 | nil => intro q h1 _; simp; omega
 | cons n l ih =>
   intro q h1 h
   have h' : (decide (1 ≤ n) && decide (n ≤ 12) && decide (q < n) && numsFrom (some n) l) = true := h
   simp only [Bool.and_eq_true, decide_eq_true_eq] at h'
   obtain ⟨⟨⟨h2, h3⟩, h4⟩, h5⟩ := h'
   have := ih n h3 h5
   simp only [List.length_cons]
   omega
theorem nums_len0 {l : List Int} (h : numsFrom none l = true) : l.length ≤ 12 := by
 cases l with
 | nil => simp
 | cons n l =>
   have h' : (decide (1 ≤ n) && decide (n ≤ 12) && true && numsFrom (some n) l) = true := h
   simp only [Bool.and_eq_true, decide_eq_true_eq] at h'
   obtain ⟨⟨⟨h2, h3⟩, -⟩, h5⟩ := h'
   have := nums_len l n h3 h5
   simp only [List.length_cons]
   omega
def NumsRel (l : List Int) (w : World) (i : Value) (wr : World) : Prop := ∃ k : Nat, k ≤ l.length ∧ i = .int .i64 (k : Int) ∧ numsFrom (ahead l k) (l.drop k) = numsFrom none l ∧ w = wr
theorem parts_any (A : Option Addr) (n c : Nat) (l : List Int) (w : World) (h : Sl NmRel 1 w w.heap.size A n l) (hn : n ≤ maxLen) :
 Calls Tryz.prog 14 #[.slice A n c] w fun e w' => e = .returned (.bool (partsB l)) ∧ w = w' := by
 unfold maxLen at hn
 have hl := h.1
 have hge : n ≤ l.length := by omega
 go_enter Tryz.func14, Tryz.ntmps14
 go_wp2
 go_loopw [7] (fun i wr => NumsRel l w i wr) (fun i _ => n - (intOf i).toNat)
 case atStart => exact ⟨0, by omega, rfl, rfl, rfl⟩
 case round =>
  obtain ⟨k, hk, rfl, hs, rfl⟩ := hrel
  by_cases hlt : k < n
  · obtain ⟨ad, a, rfl, ha, hbk, hok, c0⟩ := h.nm hlt
    have hd1 : decide ((k : Int) < (n : Int)) = true := by simp; omega
    have hk0 : (0 : Int) ≤ (k : Int) := by omega
    have hk1 : (k : Int) < (n : Int) := by omega
    rw [numsFrom_drop ha] at hs
    by_cases h1 : a < 1
    · have HF : RowKit.Hid (partsB l = false) := by refine Lib.hid ?_; unfold partsB; rw [← hs, decide_eq_false (show ¬ 1 ≤ a by omega)]; rfl
      clear hs ha hl
      go_wp2
      go_ret
      rw [HF.out]
      exact ⟨rfl, rfl⟩
    · rw [decide_eq_true (show 1 ≤ a by omega), Bool.true_and] at hs
      by_cases h2 : 12 < a
      · have HF : RowKit.Hid (partsB l = false) := by refine Lib.hid ?_; unfold partsB; rw [← hs, decide_eq_false (show ¬ a ≤ 12 by omega)]; rfl
        clear hs ha hl
        go_wp2
        go_ret
        rw [HF.out]
        exact ⟨rfl, rfl⟩
      · rw [decide_eq_true (show a ≤ 12 by omega), Bool.true_and] at hs
        by_cases hz : k = 0
        · have hd2 : ¬ (0 < k) := by omega
          have HS := Lib.hid (show numsFrom (ahead l (k + 1)) (l.drop (k + 1)) = numsFrom none l by rw [← hs, hz]; simp [ahead])
          clear hs hl ha hz
          go_wp2
          go_roundw
          case rel => exact ⟨k + 1, by omega, by go_num, HS.out, rfl⟩
          case measure => simp [intOf]; omega
        · obtain ⟨ad', b, e', hb, hbk', hok', d0⟩ := h.nm (k := k - 1) (by omega)
          injection e' with e'
          subst e'
          have hd2 : 0 < k := by omega
          have hj0 : (0 : Int) ≤ (k : Int) - 1 := by omega
          have hj1 : (k : Int) - 1 < (n : Int) := by omega
          have hj2 : ((k : Int) - 1).toNat = k - 1 := by omega
          have hah : ahead l k = some b := by
            cases k with
            | zero => omega
            | succ j => exact hb
          rw [hah] at hs
          by_cases h3 : a ≤ b
          · have HF : RowKit.Hid (partsB l = false) := by refine Lib.hid ?_; unfold partsB; rw [← hs]; simp [show ¬ b < a by omega]
            clear hs hl ha hb hz hah
            go_wp2
            go_ret
            rw [HF.out]
            exact ⟨rfl, rfl⟩
          · have HS := Lib.hid (show numsFrom (ahead l (k + 1)) (l.drop (k + 1)) = numsFrom none l by rw [← hs]; simp only [decide_eq_true (show b < a by omega), Bool.true_and])
            clear hs hl ha hb hz hah
            go_wp2
            go_roundw
            case rel => exact ⟨k + 1, by omega, by go_num, HS.out, rfl⟩
            case measure => simp [intOf]; omega
  · have hd1 : decide ((k : Int) < (n : Int)) = false := by simp; omega
    have HS := Lib.hid (show partsB l = decide ((0 : Int) < (n : Int)) by unfold partsB; rw [← hs, List.drop_of_length_le (by omega), hl]; simp [numsFrom])
    clear hs hl
    go_wp2
    go_ret
    rw [HS.out]
    exact ⟨by simp, rfl⟩
def NumsRel2 (l : List Int) (w : World) (i : Value) (wr : World) : Prop := ∃ k : Nat, k ≤ l.length ∧ i = .int .i64 (k : Int) ∧ numsFrom (ahead l k) (l.drop k) = numsFrom none l ∧ Below w.heap.size w wr
theorem rparts_any (A : Option Addr) (n c : Nat) (l : List Int) (w : World) (h : Sl NmRel 1 w w.heap.size A n l) (hn : n ≤ maxLen) :
 Calls Tryz.prog 15 #[.slice A n c] w fun e w' => e = .returned (.bool (partsB l)) ∧ Below w.heap.size w w' := by
 unfold maxLen at hn
 have hl := h.1
 have hge : n ≤ l.length := by omega
 by_cases hsm : 1 ≤ n ∧ n ≤ 12
 · have hb0 : ¬ ((n : Int) < 1) := by omega
   have hb1 : ¬ ((12 : Int) < (n : Int)) := by omega
   have hrb : partsB l = numsFrom none l := by unfold partsB; rw [hl, decide_eq_true (show 0 < n by omega), Bool.and_true]
   go_enter Tryz.func15, Tryz.ntmps15
   go_wp2
   go_loopw [3] (fun i wr => NumsRel2 l w i wr) (fun i _ => n - (intOf i).toNat)
   case atStart => exact ⟨0, by omega, rfl, rfl, Below.refl _ _⟩
   case round =>
    obtain ⟨k, hk, rfl, hs, hb⟩ := hrel
    have hzz := hb.size
    by_cases hlt : k < n
    · obtain ⟨ad, a, rfl, ha, hbk, hok, c0⟩ := (h.below NmRel.kept hb).nm hlt
      have hd1 : decide ((k : Int) < (n : Int)) = true := by simp; omega
      have hk0 : (0 : Int) ≤ (k : Int) := by omega
      have hk1 : (k : Int) < (n : Int) := by omega
      rw [numsFrom_drop ha] at hs
      by_cases h1 : a < 1
      · have HF : RowKit.Hid (partsB l = false) := by refine Lib.hid ?_; rw [hrb, ← hs, decide_eq_false (show ¬ 1 ≤ a by omega)]; rfl
        clear hs ha hl
        go_wp2
        go_quiet (fail)
        go_wp2
        go_ret
        rw [HF.out]
        exact ⟨rfl, hb.trans ((belowN _).mono hzz)⟩
      · rw [decide_eq_true (show 1 ≤ a by omega), Bool.true_and] at hs
        by_cases h2 : 12 < a
        · have HF : RowKit.Hid (partsB l = false) := by refine Lib.hid ?_; rw [hrb, ← hs, decide_eq_false (show ¬ a ≤ 12 by omega)]; rfl
          have hd3 : decide ((12 : Int) < a) = true := by simp; omega
          have hd4 : decide (a < 1) = false := by simp; omega
          clear hs ha hl h1 h2
          go_wp2
          refine wp_region_held_drew (S := fun w' => w'.cell? (ad.add k) = some (.int .i64 a)) (by kernel_rfl) c0 (fun hHeld => ?_)
          refine tt 0 18 (v := ?vh0) rfl ?hh0 hHeld ?rh0
          case hh0 => intro W hSw; go_simp; try with_reducible rfl
          go_frame
          refine tt 1 19 (v := ?vh1) rfl ?hh1 hHeld ?rh1
          case hh1 => intro W hSw; go_simp; try with_reducible rfl
          go_frame
          refine tt 2 20 (v := ?vh2) rfl ?hh2 hHeld ?rh2
          case hh2 => intro W hSw; go_simp; try with_reducible rfl
          go_frame
          refine tt 3 21 (v := ?vh3) rfl ?hh3 hHeld ?rh3
          case hh3 => intro W hSw; go_simp; try with_reducible rfl
          go_frame
          refine tt 4 22 (v := ?vh4) rfl ?hh4 hHeld ?rh4
          case hh4 => intro W hSw; go_simp; try with_reducible rfl
          go_frame
          refine tt 5 23 (v := ?vh5) rfl ?hh5 hHeld ?rh5
          case hh5 => intro W hSw; go_simp; try with_reducible rfl
          go_frame
          refine tt 6 24 (v := ?vh6) rfl ?hh6 hHeld ?rh6
          case hh6 => intro W hSw; go_simp; try with_reducible rfl
          go_frame
          refine tt 7 25 (v := ?vh7) rfl ?hh7 hHeld ?rh7
          case hh7 => intro W hSw; go_simp; try with_reducible rfl
          go_frame
          refine tt 8 26 (v := ?vh8) rfl ?hh8 hHeld ?rh8
          case hh8 => intro W hSw; go_simp; try with_reducible rfl
          go_frame
          refine tt 9 27 (v := ?vh9) rfl ?hh9 hHeld ?rh9
          case hh9 => intro W hSw; go_simp; try with_reducible rfl
          go_frame
          refine tt 10 28 (v := ?vh10) rfl ?hh10 hHeld ?rh10
          case hh10 => intro W hSw; go_simp; try with_reducible rfl
          go_frame
          refine tt 11 29 (v := ?vh11) rfl ?hh11 hHeld ?rh11
          case hh11 => intro W hSw; go_simp; try with_reducible rfl
          go_frame
          refine tt 12 30 (v := ?vh12) rfl ?hh12 hHeld ?rh12
          case hh12 => intro W hSw; go_simp; try with_reducible rfl
          go_frame
          refine tu 13 31 rfl hHeld ?_
          go_frame
          refine tu 14 32 rfl hHeld ?_
          go_frame
          refine tu 15 33 rfl hHeld ?_
          go_frame
          refine tu 16 34 rfl hHeld ?_
          go_frame
          refine tu 17 35 rfl hHeld ?_
          go_frame
          refine tu 18 36 rfl hHeld ?_
          go_frame
          refine tu 19 37 rfl hHeld ?_
          go_frame
          refine tu 20 38 rfl hHeld ?_
          go_frame
          refine tu 21 39 rfl hHeld ?_
          go_frame
          refine tu 22 40 rfl hHeld ?_
          go_frame
          refine tu 23 41 rfl hHeld ?_
          go_frame
          refine tu 24 42 rfl hHeld ?_
          go_frame
          refine tu 25 43 rfl hHeld ?_
          go_frame
          refine tu 26 44 rfl hHeld ?_
          go_frame
          refine tt 27 45 (v := ?vh27) rfl ?hh27 hHeld ?rh27
          case hh27 => intro W hSw; go_simp; try with_reducible rfl
          go_frame
          refine wpAnyH_done (by kernel_rfl) ?_ _
          go_wp2
          go_ret
          rw [HF.out]
          exact ⟨rfl, hb.trans ((belowN _).mono hzz)⟩
        · rw [decide_eq_true (show a ≤ 12 by omega), Bool.true_and] at hs
          by_cases hz : k = 0
          · have hd2 : ¬ (0 < k) := by omega
            have HS := Lib.hid (show numsFrom (ahead l (k + 1)) (l.drop (k + 1)) = numsFrom none l by rw [← hs, hz]; simp [ahead])
            have hd3 : decide ((12 : Int) < a) = false := by simp; omega
            have hd4 : decide (a < 1) = false := by simp; omega
            have hd5 : decide (0 < k) = false := by simp; omega
            clear hs hl ha hz h1 h2
            go_wp2
            refine wp_region_held_drew (S := fun w' => w'.cell? (ad.add k) = some (.int .i64 a)) (by kernel_rfl) c0 (fun hHeld => ?_)
            refine tt 0 18 (v := ?vz0) rfl ?hz0 hHeld ?rz0
            case hz0 => intro W hSw; go_simp; try with_reducible rfl
            go_frame
            refine tt 1 19 (v := ?vz1) rfl ?hz1 hHeld ?rz1
            case hz1 => intro W hSw; go_simp; try with_reducible rfl
            go_frame
            refine tt 2 20 (v := ?vz2) rfl ?hz2 hHeld ?rz2
            case hz2 => intro W hSw; go_simp; try with_reducible rfl
            go_frame
            refine tt 3 21 (v := ?vz3) rfl ?hz3 hHeld ?rz3
            case hz3 => intro W hSw; go_simp; try with_reducible rfl
            go_frame
            refine tt 4 22 (v := ?vz4) rfl ?hz4 hHeld ?rz4
            case hz4 => intro W hSw; go_simp; try with_reducible rfl
            go_frame
            refine tt 5 23 (v := ?vz5) rfl ?hz5 hHeld ?rz5
            case hz5 => intro W hSw; go_simp; try with_reducible rfl
            go_frame
            refine tt 6 24 (v := ?vz6) rfl ?hz6 hHeld ?rz6
            case hz6 => intro W hSw; go_simp; try with_reducible rfl
            go_frame
            refine tt 7 25 (v := ?vz7) rfl ?hz7 hHeld ?rz7
            case hz7 => intro W hSw; go_simp; try with_reducible rfl
            go_frame
            refine tt 8 26 (v := ?vz8) rfl ?hz8 hHeld ?rz8
            case hz8 => intro W hSw; go_simp; try with_reducible rfl
            go_frame
            refine tt 9 27 (v := ?vz9) rfl ?hz9 hHeld ?rz9
            case hz9 => intro W hSw; go_simp; try with_reducible rfl
            go_frame
            refine tt 10 28 (v := ?vz10) rfl ?hz10 hHeld ?rz10
            case hz10 => intro W hSw; go_simp; try with_reducible rfl
            go_frame
            refine tt 11 29 (v := ?vz11) rfl ?hz11 hHeld ?rz11
            case hz11 => intro W hSw; go_simp; try with_reducible rfl
            go_frame
            refine tt 12 30 (v := ?vz12) rfl ?hz12 hHeld ?rz12
            case hz12 => intro W hSw; go_simp; try with_reducible rfl
            go_frame
            refine tt 13 31 (v := ?vz13) rfl ?hz13 hHeld ?rz13
            case hz13 => intro W hSw; go_simp; try with_reducible rfl
            go_frame
            refine tt 14 32 (v := ?vz14) rfl ?hz14 hHeld ?rz14
            case hz14 => intro W hSw; go_simp; try with_reducible rfl
            go_frame
            refine tt 15 33 (v := ?vz15) rfl ?hz15 hHeld ?rz15
            case hz15 => intro W hSw; go_simp; try with_reducible rfl
            go_frame
            refine tu 16 34 rfl hHeld ?_
            go_frame
            refine tu 17 35 rfl hHeld ?_
            go_frame
            refine tu 18 36 rfl hHeld ?_
            go_frame
            refine tu 19 37 rfl hHeld ?_
            go_frame
            refine tu 20 38 rfl hHeld ?_
            go_frame
            refine tu 21 39 rfl hHeld ?_
            go_frame
            refine tu 22 40 rfl hHeld ?_
            go_frame
            refine tu 23 41 rfl hHeld ?_
            go_frame
            refine tu 24 42 rfl hHeld ?_
            go_frame
            refine tu 25 43 rfl hHeld ?_
            go_frame
            refine tt 26 44 (v := ?vz26) rfl ?hz26 hHeld ?rz26
            case hz26 => intro W hSw; go_simp; try with_reducible rfl
            go_frame
            refine tt 27 45 (v := ?vz27) rfl ?hz27 hHeld ?rz27
            case hz27 => intro W hSw; go_simp; try with_reducible rfl
            go_frame
            refine wpAnyH_done (by kernel_rfl) ?_ _
            go_wp2
            go_roundw
            case rel => exact ⟨k + 1, by omega, by go_num, HS.out, hb.trans ((belowN _).mono hzz)⟩
            case measure => simp [intOf]; omega
          · obtain ⟨ad', b, e', hb', hbk', hok', d0⟩ := (h.below NmRel.kept hb).nm (k := k - 1) (by omega)
            injection e' with e'
            subst e'
            have hd2 : 0 < k := by omega
            have hj0 : (0 : Int) ≤ (k : Int) - 1 := by omega
            have hj1 : (k : Int) - 1 < (n : Int) := by omega
            have hj2 : ((k : Int) - 1).toNat = k - 1 := by omega
            have hah : ahead l k = some b := by
              cases k with
              | zero => omega
              | succ j => exact hb'
            rw [hah] at hs
            by_cases h3 : a ≤ b
            · have HF : RowKit.Hid (partsB l = false) := by refine Lib.hid ?_; rw [hrb, ← hs]; simp [show ¬ b < a by omega]
              have hd3 : decide ((12 : Int) < a) = false := by simp; omega
              have hd4 : decide (a < 1) = false := by simp; omega
              have hd5 : decide (0 < k) = true := by simp; omega
              have hd6 : decide (a ≤ b) = true := by simp; omega
              have hj3 : IntKind.i64.wrap ((k : Int) - 1) = (k : Int) - 1 := by rw [IntKind.wrap_i64]; omega
              have hj4 : (1 : Int) ≤ (k : Int) := by omega
              clear hs hl ha hb' hz hah h1 h2
              go_wp2
              refine wp_region_held_drew (S := fun w' => w'.cell? (ad.add k) = some (.int .i64 a) ∧ w'.cell? (ad.add (k - 1)) = some (.int .i64 b)) (by kernel_rfl) ⟨c0, d0⟩ (fun hHeld => ?_)
              refine tt 0 18 (v := ?vp0) rfl ?hp0 hHeld ?rp0
              case hp0 => intro W hSw; go_simp; try with_reducible rfl
              go_frame
              refine tt 1 19 (v := ?vp1) rfl ?hp1 hHeld ?rp1
              case hp1 => intro W hSw; go_simp; try with_reducible rfl
              go_frame
              refine tt 2 20 (v := ?vp2) rfl ?hp2 hHeld ?rp2
              case hp2 => intro W hSw; go_simp; try with_reducible rfl
              go_frame
              refine tt 3 21 (v := ?vp3) rfl ?hp3 hHeld ?rp3
              case hp3 => intro W hSw; go_simp; try with_reducible rfl
              go_frame
              refine tt 4 22 (v := ?vp4) rfl ?hp4 hHeld ?rp4
              case hp4 => intro W hSw; go_simp; try with_reducible rfl
              go_frame
              refine tt 5 23 (v := ?vp5) rfl ?hp5 hHeld ?rp5
              case hp5 => intro W hSw; go_simp; try with_reducible rfl
              go_frame
              refine tt 6 24 (v := ?vp6) rfl ?hp6 hHeld ?rp6
              case hp6 => intro W hSw; go_simp; try with_reducible rfl
              go_frame
              refine tt 7 25 (v := ?vp7) rfl ?hp7 hHeld ?rp7
              case hp7 => intro W hSw; go_simp; try with_reducible rfl
              go_frame
              refine tt 8 26 (v := ?vp8) rfl ?hp8 hHeld ?rp8
              case hp8 => intro W hSw; go_simp; try with_reducible rfl
              go_frame
              refine tt 9 27 (v := ?vp9) rfl ?hp9 hHeld ?rp9
              case hp9 => intro W hSw; go_simp; try with_reducible rfl
              go_frame
              refine tt 10 28 (v := ?vp10) rfl ?hp10 hHeld ?rp10
              case hp10 => intro W hSw; go_simp; try with_reducible rfl
              go_frame
              refine tt 11 29 (v := ?vp11) rfl ?hp11 hHeld ?rp11
              case hp11 => intro W hSw; go_simp; try with_reducible rfl
              go_frame
              refine tt 12 30 (v := ?vp12) rfl ?hp12 hHeld ?rp12
              case hp12 => intro W hSw; go_simp; try with_reducible rfl
              go_frame
              refine tt 13 31 (v := ?vp13) rfl ?hp13 hHeld ?rp13
              case hp13 => intro W hSw; go_simp; try with_reducible rfl
              go_frame
              refine tt 14 32 (v := ?vp14) rfl ?hp14 hHeld ?rp14
              case hp14 => intro W hSw; go_simp; try with_reducible rfl
              go_frame
              refine tt 15 33 (v := ?vp15) rfl ?hp15 hHeld ?rp15
              case hp15 => intro W hSw; go_simp; try with_reducible rfl
              go_frame
              refine tt 16 34 (v := ?vp16) rfl ?hp16 hHeld ?rp16
              case hp16 => intro W hSw; go_simp; try with_reducible rfl
              go_frame
              refine tt 17 35 (v := ?vp17) rfl ?hp17 hHeld ?rp17
              case hp17 => intro W hSw; go_simp; try with_reducible rfl
              go_frame
              refine tt 18 36 (v := ?vp18) rfl ?hp18 hHeld ?rp18
              case hp18 => intro W hSw; go_simp; try with_reducible rfl
              go_frame
              refine tt 19 37 (v := ?vp19) rfl ?hp19 hHeld ?rp19
              case hp19 => intro W hSw; go_simp; try with_reducible rfl
              go_frame
              refine tt 20 38 (v := ?vp20) rfl ?hp20 hHeld ?rp20
              case hp20 => intro W hSw; go_simp; try with_reducible rfl
              go_frame
              refine tt 21 39 (v := ?vp21) rfl ?hp21 hHeld ?rp21
              case hp21 => intro W hSw; go_simp; try with_reducible rfl
              go_frame
              refine tt 22 40 (v := ?vp22) rfl ?hp22 hHeld ?rp22
              case hp22 => intro W hSw; go_simp; try with_reducible rfl
              go_frame
              refine tt 23 41 (v := ?vp23) rfl ?hp23 hHeld ?rp23
              case hp23 => intro W hSw; go_simp; try with_reducible rfl
              go_frame
              refine tt 24 42 (v := ?vp24) rfl ?hp24 hHeld ?rp24
              case hp24 => intro W hSw; go_simp; try with_reducible rfl
              go_frame
              refine tt 25 43 (v := ?vp25) rfl ?hp25 hHeld ?rp25
              case hp25 => intro W hSw; go_simp; try with_reducible rfl
              go_frame
              refine tt 26 44 (v := ?vp26) rfl ?hp26 hHeld ?rp26
              case hp26 => intro W hSw; go_simp; try with_reducible rfl
              go_frame
              refine tt 27 45 (v := ?vp27) rfl ?hp27 hHeld ?rp27
              case hp27 => intro W hSw; go_simp; try with_reducible rfl
              go_frame
              refine wpAnyH_done (by kernel_rfl) ?_ _
              go_wp2
              go_ret
              rw [HF.out]
              exact ⟨rfl, hb.trans ((belowN _).mono hzz)⟩
            · have HS := Lib.hid (show numsFrom (ahead l (k + 1)) (l.drop (k + 1)) = numsFrom none l by rw [← hs]; simp only [decide_eq_true (show b < a by omega), Bool.true_and])
              have hd3 : decide ((12 : Int) < a) = false := by simp; omega
              have hd4 : decide (a < 1) = false := by simp; omega
              have hd5 : decide (0 < k) = true := by simp; omega
              have hd6 : decide (a ≤ b) = false := by simp; omega
              have hj3 : IntKind.i64.wrap ((k : Int) - 1) = (k : Int) - 1 := by rw [IntKind.wrap_i64]; omega
              have hj4 : (1 : Int) ≤ (k : Int) := by omega
              clear hs hl ha hb' hz hah h1 h2
              go_wp2
              refine wp_region_held_drew (S := fun w' => w'.cell? (ad.add k) = some (.int .i64 a) ∧ w'.cell? (ad.add (k - 1)) = some (.int .i64 b)) (by kernel_rfl) ⟨c0, d0⟩ (fun hHeld => ?_)
              refine tt 0 18 (v := ?vq0) rfl ?hq0 hHeld ?rq0
              case hq0 => intro W hSw; go_simp; try with_reducible rfl
              go_frame
              refine tt 1 19 (v := ?vq1) rfl ?hq1 hHeld ?rq1
              case hq1 => intro W hSw; go_simp; try with_reducible rfl
              go_frame
              refine tt 2 20 (v := ?vq2) rfl ?hq2 hHeld ?rq2
              case hq2 => intro W hSw; go_simp; try with_reducible rfl
              go_frame
              refine tt 3 21 (v := ?vq3) rfl ?hq3 hHeld ?rq3
              case hq3 => intro W hSw; go_simp; try with_reducible rfl
              go_frame
              refine tt 4 22 (v := ?vq4) rfl ?hq4 hHeld ?rq4
              case hq4 => intro W hSw; go_simp; try with_reducible rfl
              go_frame
              refine tt 5 23 (v := ?vq5) rfl ?hq5 hHeld ?rq5
              case hq5 => intro W hSw; go_simp; try with_reducible rfl
              go_frame
              refine tt 6 24 (v := ?vq6) rfl ?hq6 hHeld ?rq6
              case hq6 => intro W hSw; go_simp; try with_reducible rfl
              go_frame
              refine tt 7 25 (v := ?vq7) rfl ?hq7 hHeld ?rq7
              case hq7 => intro W hSw; go_simp; try with_reducible rfl
              go_frame
              refine tt 8 26 (v := ?vq8) rfl ?hq8 hHeld ?rq8
              case hq8 => intro W hSw; go_simp; try with_reducible rfl
              go_frame
              refine tt 9 27 (v := ?vq9) rfl ?hq9 hHeld ?rq9
              case hq9 => intro W hSw; go_simp; try with_reducible rfl
              go_frame
              refine tt 10 28 (v := ?vq10) rfl ?hq10 hHeld ?rq10
              case hq10 => intro W hSw; go_simp; try with_reducible rfl
              go_frame
              refine tt 11 29 (v := ?vq11) rfl ?hq11 hHeld ?rq11
              case hq11 => intro W hSw; go_simp; try with_reducible rfl
              go_frame
              refine tt 12 30 (v := ?vq12) rfl ?hq12 hHeld ?rq12
              case hq12 => intro W hSw; go_simp; try with_reducible rfl
              go_frame
              refine tt 13 31 (v := ?vq13) rfl ?hq13 hHeld ?rq13
              case hq13 => intro W hSw; go_simp; try with_reducible rfl
              go_frame
              refine tt 14 32 (v := ?vq14) rfl ?hq14 hHeld ?rq14
              case hq14 => intro W hSw; go_simp; try with_reducible rfl
              go_frame
              refine tt 15 33 (v := ?vq15) rfl ?hq15 hHeld ?rq15
              case hq15 => intro W hSw; go_simp; try with_reducible rfl
              go_frame
              refine tt 16 34 (v := ?vq16) rfl ?hq16 hHeld ?rq16
              case hq16 => intro W hSw; go_simp; try with_reducible rfl
              go_frame
              refine tt 17 35 (v := ?vq17) rfl ?hq17 hHeld ?rq17
              case hq17 => intro W hSw; go_simp; try with_reducible rfl
              go_frame
              refine tt 18 36 (v := ?vq18) rfl ?hq18 hHeld ?rq18
              case hq18 => intro W hSw; go_simp; try with_reducible rfl
              go_frame
              refine tt 19 37 (v := ?vq19) rfl ?hq19 hHeld ?rq19
              case hq19 => intro W hSw; go_simp; try with_reducible rfl
              go_frame
              refine tt 20 38 (v := ?vq20) rfl ?hq20 hHeld ?rq20
              case hq20 => intro W hSw; go_simp; try with_reducible rfl
              go_frame
              refine tt 21 39 (v := ?vq21) rfl ?hq21 hHeld ?rq21
              case hq21 => intro W hSw; go_simp; try with_reducible rfl
              go_frame
              refine tt 22 40 (v := ?vq22) rfl ?hq22 hHeld ?rq22
              case hq22 => intro W hSw; go_simp; try with_reducible rfl
              go_frame
              refine tt 23 41 (v := ?vq23) rfl ?hq23 hHeld ?rq23
              case hq23 => intro W hSw; go_simp; try with_reducible rfl
              go_frame
              refine tt 24 42 (v := ?vq24) rfl ?hq24 hHeld ?rq24
              case hq24 => intro W hSw; go_simp; try with_reducible rfl
              go_frame
              refine tt 25 43 (v := ?vq25) rfl ?hq25 hHeld ?rq25
              case hq25 => intro W hSw; go_simp; try with_reducible rfl
              go_frame
              refine tt 26 44 (v := ?vq26) rfl ?hq26 hHeld ?rq26
              case hq26 => intro W hSw; go_simp; try with_reducible rfl
              go_frame
              refine tt 27 45 (v := ?vq27) rfl ?hq27 hHeld ?rq27
              case hq27 => intro W hSw; go_simp; try with_reducible rfl
              go_frame
              refine wpAnyH_done (by kernel_rfl) ?_ _
              go_wp2
              go_roundw
              case rel => exact ⟨k + 1, by omega, by go_num, HS.out, hb.trans ((belowN _).mono hzz)⟩
              case measure => simp [intOf]; omega
    · have hd1 : decide ((k : Int) < (n : Int)) = false := by simp; omega
      have HS := Lib.hid (show partsB l = true by rw [hrb, ← hs, List.drop_of_length_le (by omega)]; rfl)
      clear hs hl
      go_wp2
      go_ret
      rw [HS.out]
      exact ⟨rfl, hb⟩
 · have HF : RowKit.Hid (partsB l = false) := by
    refine Lib.hid ?_
    cases hp : partsB l
    · rfl
    · unfold partsB at hp
      rw [Bool.and_eq_true, decide_eq_true_eq] at hp
      have := nums_len0 hp.1
      omega
   by_cases hb0 : (n : Int) < 1
   · clear hl hsm
     go_enter Tryz.func15, Tryz.ntmps15
     go_wp2
     go_ret
     rw [HF.out]
     exact ⟨rfl, Below.refl _ _⟩
   · have hb1 : (12 : Int) < (n : Int) := by omega
     clear hl hsm
     go_enter Tryz.func15, Tryz.ntmps15
     go_wp2
     go_ret
     rw [HF.out]
     exact ⟨rfl, Below.refl _ _⟩
end Go.Proofs.YthdmanadhbpogaaGreat
