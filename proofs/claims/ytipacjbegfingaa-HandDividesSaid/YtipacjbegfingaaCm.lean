/- The walks of raceref's comparisons: Range, Value, Texts, Writes. -/
import Derived.Test.YtipacjbegfingaaDat
import Derived.Test.YtipacjbegfingaaPr
import Derived.Laws.StructEq
import Derived.Deep.RegionHeld3
namespace Go.Proofs.Ytipacjbegfingaa
open Go.RowKit Fl
attribute [local go_sem] run_store_float

def Rg.same (a b : Rg) : Bool := (a.id == b.id) && (a.ep == b.ep) && ((a.lo : Int) == b.lo) && ((a.hi : Int) == b.hi)
theorem Rg.same_self (a : Rg) : a.same a = true := by simp [Rg.same]
theorem Rg.same_eq {a b : Rg} (h : a.same b = true) : a = b := by
  unfold Rg.same at h
  simp only [Bool.and_eq_true, beq_iff_eq] at h
  obtain ⟨⟨⟨h1, h2⟩, h3⟩, h4⟩ := h
  cases a; cases b
  simp only at h1 h2 h3 h4
  simp only [Rg.mk.injEq]
  exact ⟨h1, h2, by omega, by omega⟩
set_option maxHeartbeats 1000000 in
theorem range_any (a b : Rg) (w : World) :
    Calls Try.prog 25 #[a.val, b.val] w fun e w' => e = .returned (.bool (a.same b)) ∧ Below w.heap.size w w' := by
  go_enter Try.func25, Try.ntmps25
  go_wp2_with ((with_reducible refine (rbits _ _ _).mono ?_); rintro e w1 ⟨rfl, rfl⟩)
  all_goals go_ret
  all_goals refine ⟨ret_bool ?_, ((Below.refl _ _).alloc (Nat.le_refl _) _).alloc (by simp) _⟩
  all_goals simp_all [Rg.same]

def Vl.same (a b : Vl) : Bool := (a.k == b.k) && (a.t.toList == b.t.toList) && ((a.n : Int) == b.n)
theorem bytes_toList {a b : ByteArray} (h : a.toList = b.toList) : a = b := by
  rw [ByteArray.toList_eq, ByteArray.toList_eq] at h
  exact Go.WideShapes.bytes_inj h
theorem Vl.same_self (a : Vl) : a.same a = true := by simp [Vl.same]
theorem Vl.same_eq {a b : Vl} (h : a.same b = true) : a = b := by
  unfold Vl.same at h
  simp only [Bool.and_eq_true, beq_iff_eq] at h
  cases a; cases b
  simp only [Vl.mk.injEq]
  exact ⟨h.1.1, by have := h.2; simp only at this; omega, bytes_toList h.1.2⟩
set_option maxHeartbeats 1000000 in
theorem value_any (a b : Vl) (w : World) :
    Calls Try.prog 17 #[a.val, b.val] w fun e w' => e = .returned (.bool (a.same b)) ∧ Below w.heap.size w w' := by
  go_enter Try.func17, Try.ntmps17
  go_wp2_with ((with_reducible refine (rbits _ _ _).mono ?_); rintro e w1 ⟨rfl, rfl⟩)
  all_goals go_ret
  all_goals refine ⟨ret_bool ?_, ((Below.refl _ _).alloc (Nat.le_refl _) _).alloc (by simp) _⟩
  all_goals simp_all [Vl.same]

def Wt.same (a b : Wt) : Bool := (a.key.toList == b.key.toList) && a.v.same b.v
theorem Wt.same_self (a : Wt) : a.same a = true := by simp [Wt.same, Vl.same_self]
theorem Wt.same_eq {a b : Wt} (h : a.same b = true) : a = b := by
  unfold Wt.same at h
  simp only [Bool.and_eq_true, beq_iff_eq] at h
  cases a; cases b
  simp only [Wt.mk.injEq]
  exact ⟨bytes_toList h.1, Vl.same_eq h.2⟩
/-- two lists, element by element -/
def sameL {α : Type} (f : α → α → Bool) : List α → List α → Bool
  | [], [] => true
  | a :: l, b :: m => f a b && sameL f l m
  | _, _ => false
theorem sameL_self {α : Type} {f : α → α → Bool} (h : ∀ a, f a a = true) : ∀ l : List α, sameL f l l = true := by
  intro l
  induction l with
  | nil => rfl
  | cons a l ih => show (f a a && sameL f l l) = true; rw [h, ih]; rfl
theorem sameL_eq {α : Type} {f : α → α → Bool} (h : ∀ a b, f a b = true → a = b) : ∀ l m : List α, sameL f l m = true → l = m := by
  intro l
  induction l with
  | nil => intro m; cases m with | nil => intro _; rfl | cons _ _ => intro h; cases h
  | cons a l ih =>
    intro m
    cases m with
    | nil => intro h; cases h
    | cons b m =>
      intro hs
      have hs' : (f a b && sameL f l m) = true := hs
      rw [Bool.and_eq_true] at hs'
      rw [h a b hs'.1, ih m hs'.2]
theorem sameL_len {α : Type} {f : α → α → Bool} : ∀ l m : List α, l.length ≠ m.length → sameL f l m = false := by
  intro l
  induction l with
  | nil => intro m h; cases m with | nil => exact absurd rfl h | cons _ _ => rfl
  | cons a l ih =>
    intro m h
    cases m with
    | nil => rfl
    | cons b m => show (f a b && sameL f l m) = false; rw [ih m (fun e => h (by simp [e]))]; simp
theorem sameL_drop {α : Type} {f : α → α → Bool} {l m : List α} {k : Nat} {a b : α} (ha : l[k]? = some a) (hb : m[k]? = some b) : sameL f (l.drop k) (m.drop k) = (f a b && sameL f (l.drop (k + 1)) (m.drop (k + 1))) := by
  have h1 := (List.getElem?_eq_some_iff.1 ha)
  have h2 := (List.getElem?_eq_some_iff.1 hb)
  rw [List.drop_eq_getElem_cons h1.1, List.drop_eq_getElem_cons h2.1, h1.2, h2.2]; rfl

/-- the loop of a comparison: so far all alike -/
def SameRel {α : Type} (f : α → α → Bool) (l m : List α) (w : World) (i : Value) (wr : World) : Prop :=
  ∃ k : Nat, k ≤ l.length ∧ i = .int .i64 (k : Int) ∧ sameL f (l.drop k) (m.drop k) = sameL f l m ∧ Below w.heap.size w wr

set_option maxHeartbeats 4000000 in
theorem texts_any (A A' : Option Addr) (n n' c c' : Nat) (l m : List ByteArray) (w : World) (h : Sl KyRel 1 w w.heap.size A n l) (h' : Sl KyRel 1 w w.heap.size A' n' m) (hn : n ≤ maxLen) (hn' : n' ≤ maxLen) :
    Calls Try.prog 90 #[.slice A n c, .slice A' n' c'] w fun e w' => e = .returned (.bool (sameL (fun a b => a.toList == b.toList) l m)) ∧ Below w.heap.size w w' := by
  unfold maxLen at hn hn'
  have hl := h.1
  have hl' := h'.1
  by_cases hne : n = n'
  · subst hne
    have hb0 : ((n : Int) != (n : Int)) = false := by simp
    have hle : l.length ≤ n := by omega
    have hge : n ≤ l.length := by omega
    have hle' : n ≤ m.length := by omega
    have hle2 : m.length ≤ n := by omega
    clear hl hl'
    go_enter Try.func90, Try.ntmps90
    go_wp2
    go_loopw [5] (fun i wr => SameRel (fun a b => a.toList == b.toList) l m w i wr) (fun i _ => n - (intOf i).toNat)
    case atStart => exact ⟨0, by omega, rfl, rfl, Below.refl _ _⟩
    case round =>
      obtain ⟨k, hk, rfl, hs, hb⟩ := hrel
      have hzz := hb.size
      by_cases hlt : k < n
      · obtain ⟨ad, a, rfl, ha, hbk, hok, c0⟩ := (h.below KyRel.kept hb).ky hlt
        obtain ⟨ad', a', rfl, ha', hbk', hok', c0'⟩ := (h'.below KyRel.kept hb).ky hlt
        have hd1 : decide ((k : Int) < (n : Int)) = true := by simp; omega
        have hk0 : (0 : Int) ≤ (k : Int) := by omega
        have hk1 : (k : Int) < (n : Int) := by omega
        rw [sameL_drop ha ha'] at hs
        have HS := Lib.hid hs
        clear ha ha' hs
        cases hq : (a.toList == a'.toList)
        · have HF : RowKit.Hid (sameL (fun a b : ByteArray => a.toList == b.toList) l m = false) := by have := HS.out; rw [hq] at this; exact this.symm
          go_wp2
          go_quiet (fail)
          go_wp2
          go_ret
          rw [HF.out]
          exact ⟨rfl, hb.trans ⟨rfl, rfl, rfl, Nat.le_refl _, fun _ _ => rfl⟩⟩
        · have HT : RowKit.Hid (sameL (fun a b : ByteArray => a.toList == b.toList) (l.drop (k + 1)) (m.drop (k + 1)) = sameL (fun a b : ByteArray => a.toList == b.toList) l m) := by have := HS.out; rw [hq] at this; exact this
          go_wp2
          go_quiet (fail)
          go_wp2
          go_roundw
          case rel => exact ⟨k + 1, by omega, by go_num, HT.out, hb.trans ⟨rfl, rfl, rfl, Nat.le_refl _, fun _ _ => rfl⟩⟩
          case measure => simp [intOf]; omega
      · have hd1 : decide ((k : Int) < (n : Int)) = false := by simp; omega
        have hs2 : sameL (fun a b : ByteArray => a.toList == b.toList) l m = true := by
          rw [← hs, List.drop_of_length_le (by omega), List.drop_of_length_le (by omega)]; rfl
        have HS := Lib.hid hs2
        clear hs hs2
        go_wp2
        go_ret
        rw [HS.out]
        exact ⟨rfl, hb⟩
  · have hb0 : ((n : Int) != (n' : Int)) = true := by simp; omega
    rw [sameL_len l m (by omega)]
    clear hl hl' hne
    go_enter Try.func90, Try.ntmps90
    go_wp2
    go_ret
    exact ⟨rfl, Below.refl _ _⟩

set_option maxHeartbeats 4000000 in
theorem wts_any (A A' : Option Addr) (n n' c c' : Nat) (l m : List Wt) (w : World) (h : Sl WtRel 4 w w.heap.size A n l) (h' : Sl WtRel 4 w w.heap.size A' n' m) (hn : n ≤ maxLen) (hn' : n' ≤ maxLen) :
    Calls Try.prog 23 #[.slice A n c, .slice A' n' c'] w fun e w' => e = .returned (.bool (sameL Wt.same l m)) ∧ Below w.heap.size w w' := by
  unfold maxLen at hn hn'
  have hl := h.1
  have hl' := h'.1
  by_cases hne : n = n'
  · subst hne
    have hb0 : ((n : Int) != (n : Int)) = false := by simp
    have hle : l.length ≤ n := by omega
    have hge : n ≤ l.length := by omega
    have hle' : n ≤ m.length := by omega
    have hle2 : m.length ≤ n := by omega
    clear hl hl'
    go_enter Try.func23, Try.ntmps23
    go_wp2
    go_loopw [5] (fun i wr => SameRel Wt.same l m w i wr) (fun i _ => n - (intOf i).toNat)
    case atStart => exact ⟨0, by omega, rfl, rfl, Below.refl _ _⟩
    case round =>
      obtain ⟨k, hk, rfl, hs, hb⟩ := hrel
      have hzz := hb.size
      by_cases hlt : k < n
      · obtain ⟨ad, a, rfl, ha, hbk, hok, c0, c1, c2, c3⟩ := (h.below WtRel.kept hb).wt hlt
        obtain ⟨ad', a', rfl, ha', hbk', hok', d0, d1, d2, d3⟩ := (h'.below WtRel.kept hb).wt hlt
        have hd1 : decide ((k : Int) < (n : Int)) = true := by simp; omega
        have hk0 : (0 : Int) ≤ (k : Int) := by omega
        have hk1 : (k : Int) < (n : Int) := by omega
        have hbw : (ad.add (k * 4)).block < wr.heap.size := by omega
        have hbw' : (ad'.add (k * 4)).block < wr.heap.size := by omega
        rw [sameL_drop ha ha'] at hs
        have HS := Lib.hid hs
        clear ha ha' hs hok hok'
        cases hq : (a.key.toList == a'.key.toList)
        · have HF : RowKit.Hid (sameL Wt.same l m = false) := by have := HS.out; rw [show Wt.same a a' = false from by unfold Wt.same; rw [hq]; rfl] at this; exact this.symm
          go_wp2
          go_quiet (fail)
          go_wp2
          go_ret
          rw [HF.out]
          exact ⟨rfl, hb.trans ⟨rfl, rfl, rfl, Nat.le_refl _, fun _ _ => rfl⟩⟩
        · have hsm : Wt.same a a' = a.v.same a'.v := by unfold Wt.same; rw [hq]; rfl
          have hv := fun w => value_any a.v a'.v w
          rw [hsm] at HS
          clear hsm
          generalize a.v.same a'.v = r at *
          go_wp2
          go_region_held3 (fun w' => (w'.cell? (ad.add (k * 4)) = some (.string a.key) ∧ w'.cell? ⟨(ad.add (k * 4)).block, (ad.add (k * 4)).off + 1, none⟩ = some (.int .i64 a.v.k) ∧ w'.cell? ⟨(ad.add (k * 4)).block, (ad.add (k * 4)).off + 2, none⟩ = some (.float .f64 a.v.n) ∧ w'.cell? ⟨(ad.add (k * 4)).block, (ad.add (k * 4)).off + 3, none⟩ = some (.string a.v.t)) ∧
              w'.cell? (ad'.add (k * 4)) = some (.string a'.key) ∧ w'.cell? ⟨(ad'.add (k * 4)).block, (ad'.add (k * 4)).off + 1, none⟩ = some (.int .i64 a'.v.k) ∧ w'.cell? ⟨(ad'.add (k * 4)).block, (ad'.add (k * 4)).off + 2, none⟩ = some (.float .f64 a'.v.n) ∧ w'.cell? ⟨(ad'.add (k * 4)).block, (ad'.add (k * 4)).off + 3, none⟩ = some (.string a'.v.t))
            (first | exact ⟨⟨c0, c1, c2, c3⟩, d0, d1, d2, d3⟩ | exact ⟨⟨(hb1.cell hbw).trans c0, (hb1.cell (p := ⟨_, _, none⟩) hbw).trans c1, (hb1.cell (p := ⟨_, _, none⟩) hbw).trans c2, (hb1.cell (p := ⟨_, _, none⟩) hbw).trans c3⟩, (hb1.cell hbw').trans d0, (hb1.cell (p := ⟨_, _, none⟩) hbw').trans d1, (hb1.cell (p := ⟨_, _, none⟩) hbw').trans d2, (hb1.cell (p := ⟨_, _, none⟩) hbw').trans d3⟩)
            (first | ((with_reducible refine (hv _).mono ?_); rintro e w1 ⟨rfl, hb1⟩))
          have hb2 : Below w.heap.size w w1 := hb.trans (Below.mono (w := wr) ⟨hb1.os, hb1.tape, hb1.output, hb1.size, hb1.block⟩ hzz)
          cases r
          · have HF : RowKit.Hid (sameL Wt.same l m = false) := by have := HS.out; rw [Bool.false_and] at this; exact this.symm
            go_wp2
            go_ret
            rw [HF.out]
            exact ⟨rfl, hb2⟩
          · have HT : RowKit.Hid (sameL Wt.same (l.drop (k + 1)) (m.drop (k + 1)) = sameL Wt.same l m) := by have := HS.out; rw [Bool.true_and] at this; exact this
            go_wp2
            go_roundw
            case rel => exact ⟨k + 1, by omega, by go_num, HT.out, hb2⟩
            case measure => simp [intOf]; omega
      · have hd1 : decide ((k : Int) < (n : Int)) = false := by simp; omega
        have hs2 : sameL Wt.same l m = true := by
          rw [← hs, List.drop_of_length_le (by omega), List.drop_of_length_le (by omega)]; rfl
        have HS := Lib.hid hs2
        clear hs hs2
        go_wp2
        go_ret
        rw [HS.out]
        exact ⟨rfl, hb⟩
  · have hb0 : ((n : Int) != (n' : Int)) = true := by simp; omega
    rw [sameL_len l m (by omega)]
    clear hl hl' hne
    go_enter Try.func23, Try.ntmps23
    go_wp2
    go_ret
    exact ⟨rfl, Below.refl _ _⟩
end Go.Proofs.Ytipacjbegfingaa
