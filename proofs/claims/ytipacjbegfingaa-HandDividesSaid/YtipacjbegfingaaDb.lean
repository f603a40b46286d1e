/- The walks of mvcc's rise, writeKeys, history, PendingMay. -/
import Derived.Test.YtipacjbegfingaaDa
import Derived.Test.YtipacjbegfingaaHv
namespace Go.Proofs.Ytipacjbegfingaa
open Go.RowKit Fl
attribute [local go_sem] run_store_float

/-- does a text stand ahead of another one? -/
def bl (a b : ByteArray) : Bool := Op.bytesLess a.toList b.toList
def riseFrom : Option ByteArray → List ByteArray → Bool
  | _, [] => true
  | p, k :: l => keyB k && (match p with | none => true | some q => bl q k) && riseFrom (some k) l
def riseB (l : List ByteArray) : Bool := riseFrom none l && decide ((l.length : Int) ≤ 16)
/-- the one ahead of place k -/
def ahead {α : Type} (l : List α) : Nat → Option α
  | 0 => none
  | k + 1 => l[k]?
theorem riseFrom_drop {l : List ByteArray} {k : Nat} {a : ByteArray} (h : l[k]? = some a) :
    riseFrom (ahead l k) (l.drop k) = (keyB a && (match ahead l k with | none => true | some q => bl q a) && riseFrom (ahead l (k + 1)) (l.drop (k + 1))) := by
  have h1 := List.getElem?_eq_some_iff.1 h
  rw [List.drop_eq_getElem_cons h1.1, h1.2]
  show (_ && _ && riseFrom (some a) _) = _
  rw [show ahead l (k + 1) = some a from h]
def RiseRel (l : List ByteArray) (w : World) (i : Value) (wr : World) : Prop := ∃ k : Nat, k ≤ l.length ∧ i = .int .i64 (k : Int) ∧ riseFrom (ahead l k) (l.drop k) = riseFrom none l ∧ w = wr

set_option maxRecDepth 100000 in
set_option maxHeartbeats 4000000 in
theorem rise_any (A : Option Addr) (n c : Nat) (l : List ByteArray) (w : World) (h : Sl KyRel 1 w w.heap.size A n l) (hn : n ≤ maxLen) :
    Calls Try.prog 98 #[.slice A n c] w fun e w' => e = .returned (.bool (riseB l)) ∧ w = w' := by
  unfold maxLen at hn
  have hl := h.1
  have hge : n ≤ l.length := by omega
  go_enter Try.func98, Try.ntmps98
  go_wp2
  go_loopw [7] (fun i wr => RiseRel l w i wr) (fun i _ => n - (intOf i).toNat)
  case atStart => exact ⟨0, by omega, rfl, rfl, rfl⟩
  case round =>
    obtain ⟨k, hk, rfl, hs, rfl⟩ := hrel
    by_cases hlt : k < n
    · obtain ⟨ad, a, rfl, ha, hbk, hok, c0⟩ := h.ky hlt
      have hka := fun w => key_any a w
      have hd1 : decide ((k : Int) < (n : Int)) = true := by simp; omega
      have hk0 : (0 : Int) ≤ (k : Int) := by omega
      have hk1 : (k : Int) < (n : Int) := by omega
      rw [riseFrom_drop ha] at hs
      cases hkb : keyB a
      · rw [hkb] at hka hs
        have HF : RowKit.Hid (riseB l = false) := by unfold riseB; rw [← hs]; rfl
        clear hs ha hl
        go_wp2_with ((with_reducible refine (hka _).mono ?_); rintro e w1 ⟨rfl, rfl⟩)
        go_ret
        rw [HF.out]
        exact ⟨rfl, rfl⟩
      · rw [hkb] at hka hs
        by_cases hz : k = 0
        · have hd2 : ¬ (0 < k) := by omega
          have hs' : riseFrom (ahead l (k + 1)) (l.drop (k + 1)) = riseFrom none l := by rw [← hs, hz]; simp [ahead]
          have HS := Lib.hid hs'
          clear hs hs' hl ha hz
          go_wp2_with ((with_reducible refine (hka _).mono ?_); rintro e w1 ⟨rfl, rfl⟩)
          go_roundw
          case rel => exact ⟨k + 1, by omega, by go_num, HS.out, rfl⟩
          case measure => simp [intOf]; omega
        · obtain ⟨ad', b, e', hb, hbk', hok', d0⟩ := h.ky (k := k - 1) (by omega)
          injection e' with e'
          subst e'
          have hd2 : 0 < k := by omega
          have hj0 : (0 : Int) ≤ (k : Int) - 1 := by omega
          have hj1 : (k : Int) - 1 < (n : Int) := by omega
          have hj2 : ((k : Int) - 1).toNat = k - 1 := by omega
          have hah : ahead l k = some b := by
            cases k with
            | zero => omega
            | succ j => exact hb
          rw [hah] at hs
          cases hbl : bl b a
          · have HF := Lib.hid (show riseB l = false by unfold riseB; rw [← hs]; simp [hbl])
            unfold bl at hbl
            clear hs hl ha hb hz hah
            go_wp2_with ((with_reducible refine (hka _).mono ?_); rintro e w1 ⟨rfl, rfl⟩)
            go_ret
            rw [HF.out]
            exact ⟨rfl, rfl⟩
          · have hs' : riseFrom (ahead l (k + 1)) (l.drop (k + 1)) = riseFrom none l := by rw [← hs]; simp [hbl]
            have HS := Lib.hid hs'
            unfold bl at hbl
            clear hs hs' hl ha hb hz hah
            go_wp2_with ((with_reducible refine (hka _).mono ?_); rintro e w1 ⟨rfl, rfl⟩)
            go_roundw
            case rel => exact ⟨k + 1, by omega, by go_num, HS.out, rfl⟩
            case measure => simp [intOf]; omega
    · have hd1 : decide ((k : Int) < (n : Int)) = false := by simp; omega
      have hr : riseB l = decide ((n : Int) ≤ 16) := by
        unfold riseB
        rw [← hs, List.drop_of_length_le (by omega), hl]; rfl
      have HS := Lib.hid hr
      clear hs hr hl
      go_wp2
      go_ret
      rw [HS.out]
      exact ⟨rfl, rfl⟩

/-- the keys of writes -/
def KeysRel (l : List Wt) (w : World) (v i : Value) (wr : World) : Prop := ∃ k : Nat, k ≤ l.length ∧ i = .int .i64 (k : Int) ∧ OwnL keyCells 9 1 w.heap.size wr v ((l.take k).map (·.key)) ∧ Below w.heap.size w wr
theorem ky_info : (Try.prog.info? 9).map (fun i => (i.zero, i.size, i.bytes)) = some (some (.string ⟨#[]⟩), 1, 16) := by kernel_rfl
set_option maxRecDepth 100000 in
set_option maxHeartbeats 4000000 in
theorem writeKeys_any (A : Option Addr) (n c : Nat) (l : List Wt) (w : World) (h : Sl WtRel 4 w w.heap.size A n l) (hn : n ≤ 1000000) :
    Calls Try.prog 99 #[.slice A n c] w fun e w' => ∃ v, e = .returned v ∧ OwnL keyCells 9 1 w.heap.size w' v (l.map (·.key)) ∧ Below w.heap.size w w' := by
  obtain ⟨i0, hi0, hz0, hz1, hz2⟩ := info_parts ky_info
  have hl := h.1
  have hle : l.length ≤ n := by omega
  have hge : n ≤ l.length := by omega
  clear hl
  go_enter Try.func99, Try.ntmps99
  go_wp2
  go_loopw [3, 8] (fun v i wr => KeysRel l w v i wr) (fun _ i _ => n - (intOf i).toNat)
  case atStart => exact ⟨0, by omega, rfl, OwnL.nil _, Below.refl _ _⟩
  case round =>
    obtain ⟨k, hk, rfl, ho, hb⟩ := hrel
    have hzz := hb.size
    by_cases hlt : k < n
    · obtain ⟨ad, a, rfl, ha, hbk, hok, c0, c1, c2, c3⟩ := (h.below WtRel.kept hb).wt hlt
      have hd1 : decide ((k : Int) < (n : Int)) = true := by simp; omega
      have hsn : (l.take (k + 1)).map (·.key) = (l.take k).map (·.key) ++ [a.key] := by rw [List.take_add_one, ha]; simp
      have hln : ((l.take k).map (·.key)).length ≤ 1000000 := by simp; omega
      have HS := Lib.hid hsn
      clear hsn ha
      obtain ⟨A1, q1, rfl, hq1, hq1m⟩ := ho.form
      generalize (l.take k).map (·.key) = ks at *
      have hX : Below wr.heap.size wr ((wr.alloc (.cells a.cells.toArray 96)).alloc (.cells (keyCells a.key).toArray 9)) := ((Below.refl _ _).alloc (Nat.le_refl _) _).alloc (by simp) _
      have hown0 := ho.below hX
      have hrd0 := reads_new' (wr.alloc (.cells a.cells.toArray 96)) 9 (keyCells a.key) 1 rfl
      rw [show (wr.alloc (.cells a.cells.toArray 96)).heap.size = wr.heap.size + 1 from by simp] at hrd0
      have hsz0 : ((wr.alloc (.cells a.cells.toArray 96)).alloc (.cells (keyCells a.key).toArray 9)).heap.size = wr.heap.size + 2 := by simp
      go_wp2_with (first
        | (at_builtin
           refine wpList_append_any _ rfl (.tmp 12) (.tmp 15) _ rfl w.heap.size 9 i0 _ 1 16 Try.underlying44 hi0 hz0 hz1 hz2 rfl (by omega) (.slice A1 ks.length q1) _ (ks.flatMap keyCells) (by rfl) hown0 _ (some ⟨wr.heap.size + 1, 0, none⟩) 1 1 (keyCells a.key) (by rfl)
             hrd0 (ky_one a.key) (by unfold maxLen; omega) (by omega) (by simp; omega) ?_
           intro v3 w3 hown3 hg3 hat3
           obtain ⟨A3, q3, rfl, hq3, hq3m⟩ := own_form hown3))
      have hp := OwnL.push a.key hown3
      have hbw := (hb.trans (hX.mono hzz)).grown hg3 (by simp; omega) (fun q hq => (hown0.lt q hq).1)
      go_roundw
      case rel =>
        refine ⟨k + 1, by omega, by go_num, ?_⟩
        rw [HS.out]
        exact ⟨hp, hbw⟩
      case measure => simp [intOf]; omega
    · have hd1 : decide ((k : Int) < (n : Int)) = false := by simp; omega
      rw [List.take_of_length_le (by omega)] at ho
      obtain ⟨A1, q1, rfl, hq1, hq1m⟩ := ho.form
      go_wp2
      go_ret
      exact ⟨_, rfl, ho, hb⟩
end Go.Proofs.Ytipacjbegfingaa
