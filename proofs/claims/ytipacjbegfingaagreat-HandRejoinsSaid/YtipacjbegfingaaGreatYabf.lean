/- The walk of the document's Keys. -/
import Derived.Test.YtipacjbegfingaaGreatYaac
namespace Go.Proofs.YtipacjbegfingaaGreat
open Go.RowKit Fl
attribute [local go_sem] run_store_float

def KeysRel2 (l : List ByteArray) (w : World) (i : Value) (wr : World) : Prop := ∃ k : Nat, k ≤ l.length ∧ i = .int .i64 (k : Int) ∧ riseFrom (ahead l k) (l.drop k) = riseFrom none l ∧ Below w.heap.size w wr
set_option maxRecDepth 100000 in
set_option maxHeartbeats 4000000 in
theorem rkeys_any (A : Option Addr) (n c : Nat) (l : List ByteArray) (w : World) (h : Sl KyRel 1 w w.heap.size A n l) (hn : n ≤ maxLen) :
    Calls Tryz.prog 97 #[.slice A n c, .int .i64 16] w fun e w' => e = .returned (.bool (riseB l)) ∧ Below w.heap.size w w' := by
  unfold maxLen at hn
  have hl := h.1
  have hge : n ≤ l.length := by omega
  by_cases hbig : (n : Int) ≤ 16
  · have hb0 : decide ((16 : Int) < (n : Int)) = false := by simp; omega
    have hrb : riseB l = riseFrom none l := by unfold riseB; rw [hl]; simp [hbig]
    go_enter Tryz.func97, Tryz.ntmps97
    go_wp2
    go_loopw [5] (fun i wr => KeysRel2 l w i wr) (fun i _ => n - (intOf i).toNat)
    case atStart => exact ⟨0, by omega, rfl, rfl, Below.refl _ _⟩
    case round =>
      obtain ⟨k, hk, rfl, hs, hb⟩ := hrel
      have hzz := hb.size
      by_cases hlt : k < n
      · obtain ⟨ad, a, rfl, ha, hbk, hok, c0⟩ := (h.below KyRel.kept hb).ky hlt
        have hka := fun w => rkey_any a w
        have hd1 : decide ((k : Int) < (n : Int)) = true := by simp; omega
        have hk0 : (0 : Int) ≤ (k : Int) := by omega
        have hk1 : (k : Int) < (n : Int) := by omega
        rw [riseFrom_drop ha] at hs
        cases hkb : keyB a
        · rw [hkb] at hka hs
          have HF := Lib.hid (show riseB l = false by rw [hrb, ← hs]; rfl)
          clear hs ha hl
          go_wp2
          go_quiet (first | (go_at_call 64; exact quietSame (hka _)))
          go_wp2
          go_ret
          rw [HF.out]
          exact ⟨rfl, hb.trans ((belowN _).mono hzz)⟩
        · rw [hkb] at hka hs
          by_cases hz : k = 0
          · have hd2 : ¬ (0 < k) := by omega
            have HS := Lib.hid (show riseFrom (ahead l (k + 1)) (l.drop (k + 1)) = riseFrom none l by rw [← hs, hz]; simp [ahead])
            clear hs hl ha hz
            go_wp2
            go_quiet (first | (go_at_call 64; exact quietSame (hka _)))
            go_wp2
            go_roundw
            case rel => exact ⟨k + 1, by omega, by go_num, HS.out, hb.trans ((belowN _).mono hzz)⟩
            case measure => simp [intOf]; omega
          · obtain ⟨ad', b, e', hb', hbk', hok', d0⟩ := (h.below KyRel.kept hb).ky (k := k - 1) (by omega)
            injection e' with e'
            subst e'
            have hd2 : 0 < k := by omega
            have hj0 : (0 : Int) ≤ (k : Int) - 1 := by omega
            have hj1 : (k : Int) - 1 < (n : Int) := by omega
            have hj2 : ((k : Int) - 1).toNat = k - 1 := by omega
            have hah : ahead l k = some b := by
              cases k with
              | zero => omega
              | succ j => exact hb'
            rw [hah] at hs
            have hle : (Op.bytesLess a.toList b.toList || a.toList == b.toList) = !bl b a := by rw [bl_le]; unfold leB; simp
            cases hbl : bl b a
            · have HF := Lib.hid (show riseB l = false by rw [hrb, ← hs]; simp [hbl])
              rw [hbl] at hle
              have hle' : (Op.bytesLess a.toList b.toList || a.toList == b.toList) = true := hle
              clear hs hl ha hb' hz hah hle
              go_wp2
              go_quiet (first | (go_at_call 64; exact quietSame (hka _)))
              all_goals go_wp2
              all_goals go_ret
              all_goals rw [HF.out]
              all_goals exact ⟨rfl, hb.trans ((belowN _).mono hzz)⟩
            · have HS := Lib.hid (show riseFrom (ahead l (k + 1)) (l.drop (k + 1)) = riseFrom none l by rw [← hs]; simp [hbl])
              rw [hbl] at hle
              have hl1 : Op.bytesLess a.toList b.toList = false ∧ (a.toList == b.toList) = false := by simpa [Bool.or_eq_false_iff] using hle
              obtain ⟨hl2, hl3⟩ := hl1
              clear hs hl ha hb' hz hah hle
              go_wp2
              go_quiet (first | (go_at_call 64; exact quietSame (hka _)))
              go_wp2
              go_roundw
              case rel => exact ⟨k + 1, by omega, by go_num, HS.out, hb.trans ((belowN _).mono hzz)⟩
              case measure => simp [intOf]; omega
      · have hd1 : decide ((k : Int) < (n : Int)) = false := by simp; omega
        have HS := Lib.hid (show riseB l = true by rw [hrb, ← hs, List.drop_of_length_le (by omega)]; rfl)
        clear hs hl
        go_wp2
        go_ret
        rw [HS.out]
        exact ⟨rfl, hb⟩
  · have hb0 : decide ((16 : Int) < (n : Int)) = true := by simp; omega
    have HF := Lib.hid (show riseB l = false by unfold riseB; rw [hl]; simp; omega)
    clear hl
    go_enter Tryz.func97, Tryz.ntmps97
    go_wp2
    go_ret
    rw [HF.out]
    exact ⟨rfl, Below.refl _ _⟩
end Go.Proofs.YtipacjbegfingaaGreat
