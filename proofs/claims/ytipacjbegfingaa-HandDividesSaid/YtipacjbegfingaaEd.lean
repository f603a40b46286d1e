/- The walks of the document's writes and reads of what is pending. -/
import Derived.Test.YtipacjbegfingaaDh
namespace Go.Proofs.Ytipacjbegfingaa
open Go.RowKit Fl
attribute [local go_sem] run_store_float

/-- is a text read? -/
def rdL (k : ByteArray) (l : List ByteArray) : Bool := l.any fun b => b.toList == k.toList
theorem rdL_in (k : ByteArray) (l : List ByteArray) : rdL k l = inL k l := by
  unfold rdL inL
  congr 1
  funext b
  exact Bool.beq_comm
set_option maxRecDepth 100000 in
set_option maxHeartbeats 4000000 in
theorem rwrites_any (p : Pn) (A1 : Option Addr) (n1 c1 : Nat) (x : ByteArray) (A : Option Addr) (n c : Nat) (w : World) (h : Sl WtRel 4 w w.heap.size A n p.w) (hn : n ≤ maxLen) :
    Calls Try.prog 74 #[p.val (.slice A1 n1 c1) (.slice A n c), .string x] w fun e w' => e = .returned (.bool (wrL x p.w)) ∧ Below w.heap.size w w' := by
  unfold maxLen at hn
  have hl := h.1
  have hge : n ≤ p.w.length := by omega
  have hle : p.w.length ≤ n := by omega
  have hX : Below w.heap.size w (w.alloc (.cells (p.arr (.slice A1 n1 c1) (.slice A n c)) 47)) := by go_grown
  have i2 := Blk.new w 47 (p.arr (.slice A1 n1 c1) (.slice A n c))
  clear hl
  go_enter Try.func74, Try.ntmps74
  go_wp2
  go_loopw [5] (fun i wr => AnyRel (fun a : Wt => a.key.toList == x.toList) p.w (w.alloc (.cells (p.arr (.slice A1 n1 c1) (.slice A n c)) 47)) i wr) (fun i _ => n - (intOf i).toNat)
  case atStart => exact ⟨0, by omega, rfl, rfl, Below.refl _ _⟩
  case round =>
    obtain ⟨k, hk, rfl, hs, hb⟩ := hrel
    have hww : Below w.heap.size w wr := hX.trans (hb.mono hX.size)
    have y7 := (i2.below hb i2.lt).cell 7
    simp only [List.getElem?_toArray, List.getElem?_cons_succ, List.getElem?_cons_zero] at y7
    have l2 := (i2.below hb i2.lt).lt
    by_cases hlt : k < n
    · obtain ⟨ad, a, rfl, ha, hbk, hok, c0, c1', c2', c3'⟩ := (h.below WtRel.kept hww).wt hlt
      have hd1 : decide ((k : Int) < (n : Int)) = true := by simp; omega
      have hk0 : (0 : Int) ≤ (k : Int) := by omega
      have hk1 : (k : Int) < (n : Int) := by omega
      rw [any_drop ha] at hs
      by_cases hq : (a.key.toList == x.toList) = true
      · have HF := Lib.hid (show wrL x p.w = true by unfold wrL; rw [← hs, hq]; rfl)
        clear hs ha
        go_wp2
        go_ret
        rw [HF.out]
        exact ⟨rfl, hww⟩
      · have hqf : (a.key.toList == x.toList) = false := by simpa using hq
        rw [hqf] at hs
        have HT := Lib.hid hs
        clear hs ha hq
        go_wp2
        go_roundw
        case rel => exact ⟨k + 1, by omega, by go_num, HT.out, hb⟩
        case measure => simp [intOf]; omega
    · have hd1 : decide ((k : Int) < (n : Int)) = false := by simp; omega
      have HF := Lib.hid (show wrL x p.w = false by unfold wrL; rw [← hs, List.drop_of_length_le (by omega)]; rfl)
      clear hs
      go_wp2
      go_ret
      rw [HF.out]
      exact ⟨rfl, hww⟩
set_option maxRecDepth 100000 in
set_option maxHeartbeats 4000000 in
theorem rreads_any (p : Pn) (A2 : Option Addr) (n2 c2 : Nat) (x : ByteArray) (A : Option Addr) (n c : Nat) (w : World) (h : Sl KyRel 1 w w.heap.size A n p.r) (hn : n ≤ maxLen) :
    Calls Try.prog 75 #[p.val (.slice A n c) (.slice A2 n2 c2), .string x] w fun e w' => e = .returned (.bool (rdL x p.r)) ∧ Below w.heap.size w w' := by
  unfold maxLen at hn
  have hl := h.1
  have hge : n ≤ p.r.length := by omega
  have hle : p.r.length ≤ n := by omega
  have hX : Below w.heap.size w (w.alloc (.cells (p.arr (.slice A n c) (.slice A2 n2 c2)) 47)) := by go_grown
  have i2 := Blk.new w 47 (p.arr (.slice A n c) (.slice A2 n2 c2))
  clear hl
  go_enter Try.func75, Try.ntmps75
  go_wp2
  go_loopw [5] (fun i wr => AnyRel (fun b : ByteArray => b.toList == x.toList) p.r (w.alloc (.cells (p.arr (.slice A n c) (.slice A2 n2 c2)) 47)) i wr) (fun i _ => n - (intOf i).toNat)
  case atStart => exact ⟨0, by omega, rfl, rfl, Below.refl _ _⟩
  case round =>
    obtain ⟨k, hk, rfl, hs, hb⟩ := hrel
    have hww : Below w.heap.size w wr := hX.trans (hb.mono hX.size)
    have y6 := (i2.below hb i2.lt).cell 6
    simp only [List.getElem?_toArray, List.getElem?_cons_succ, List.getElem?_cons_zero] at y6
    have l2 := (i2.below hb i2.lt).lt
    by_cases hlt : k < n
    · obtain ⟨ad, a, rfl, ha, hbk, hok, c0⟩ := (h.below KyRel.kept hww).ky hlt
      have hd1 : decide ((k : Int) < (n : Int)) = true := by simp; omega
      have hk0 : (0 : Int) ≤ (k : Int) := by omega
      have hk1 : (k : Int) < (n : Int) := by omega
      rw [any_drop ha] at hs
      by_cases hq : (a.toList == x.toList) = true
      · have HF := Lib.hid (show rdL x p.r = true by unfold rdL; rw [← hs, hq]; rfl)
        clear hs ha
        go_wp2
        go_ret
        rw [HF.out]
        exact ⟨rfl, hww⟩
      · have hqf : (a.toList == x.toList) = false := by simpa using hq
        rw [hqf] at hs
        have HT := Lib.hid hs
        clear hs ha hq
        go_wp2
        go_roundw
        case rel => exact ⟨k + 1, by omega, by go_num, HT.out, hb⟩
        case measure => simp [intOf]; omega
    · have hd1 : decide ((k : Int) < (n : Int)) = false := by simp; omega
      have HF := Lib.hid (show rdL x p.r = false by unfold rdL; rw [← hs, List.drop_of_length_le (by omega)]; rfl)
      clear hs
      go_wp2
      go_ret
      rw [HF.out]
      exact ⟨rfl, hww⟩
end Go.Proofs.Ytipacjbegfingaa
