/- The walks of mvcc's history and PendingMay. -/
import Derived.Test.YtipacjbegfingaaDb
namespace Go.Proofs.Ytipacjbegfingaa
open Go.RowKit Fl
attribute [local go_sem] run_store_float

theorem below_setRow {B : Nat} {a w : World} (h : Below B a w) {g : Nat} (hg : B ≤ g) (cs : Array Value) : Below B a (w.setRow g cs) :=
  ⟨h.os, h.tape, h.output, by rw [setRow_size]; exact h.size, fun k hk => (setRow_other w g k cs (by omega)).trans (h.block k hk)⟩
theorem Blk.setRow {w : World} {g : Nat} {t : TypeId} {cs : Array Value} (h : Blk w g t cs) (cs' : Array Value) : Blk (w.setRow g cs') g t cs' := by
  unfold Blk at h ⊢
  simp [World.setRow, Array.getElem?_modify, h]
theorem Blk.setRow_far {w : World} {g g' : Nat} {t : TypeId} {cs : Array Value} (h : Blk w g t cs) (cs' : Array Value) (hne : g' ≠ g) : Blk (w.setRow g' cs') g t cs := by
  unfold Blk at h ⊢
  simp [World.setRow, Array.getElem?_modify, hne, h]
theorem Blk.three {w : World} {g : Nat} {t : TypeId} {a b c : Value} (h : Blk w g t #[a, b, c]) : g < w.heap.size ∧ w.cell? ⟨g, 0, none⟩ = some a ∧ w.cell? ⟨g, 1, none⟩ = some b ∧ w.cell? ⟨g, 2, none⟩ = some c :=
  ⟨h.lt, h.cell 0, h.cell 1, h.cell 2⟩
theorem Blk.six {w : World} {g : Nat} {t : TypeId} {a b c d e f : Value} (h : Blk w g t #[a, b, c, d, e, f]) : g < w.heap.size ∧ w.cell? ⟨g, 0, none⟩ = some a ∧ w.cell? ⟨g, 1, none⟩ = some b ∧ w.cell? ⟨g, 2, none⟩ = some c ∧
    w.cell? ⟨g, 3, none⟩ = some d ∧ w.cell? ⟨g, 4, none⟩ = some e ∧ w.cell? ⟨g, 5, none⟩ = some f :=
  ⟨h.lt, h.cell 0, h.cell 1, h.cell 2, h.cell 3, h.cell 4, h.cell 5⟩

theorem Blk.eight {w : World} {g : Nat} {t : TypeId} {a b c d e f i j : Value} (h : Blk w g t #[a, b, c, d, e, f, i, j]) : g < w.heap.size ∧ w.cell? ⟨g, 0, none⟩ = some a ∧ w.cell? ⟨g, 1, none⟩ = some b ∧ w.cell? ⟨g, 2, none⟩ = some c ∧
    w.cell? ⟨g, 3, none⟩ = some d ∧ w.cell? ⟨g, 4, none⟩ = some e ∧ w.cell? ⟨g, 5, none⟩ = some f ∧ w.cell? ⟨g, 6, none⟩ = some i ∧ w.cell? ⟨g, 7, none⟩ = some j :=
  ⟨h.lt, h.cell 0, h.cell 1, h.cell 2, h.cell 3, h.cell 4, h.cell 5, h.cell 6, h.cell 7⟩

def leB (a b : ByteArray) : Bool := Op.bytesLess a.toList b.toList || a.toList == b.toList
def versB : Sp → List Vn → Bool
  | _, [] => true
  | p, v :: l => v.s.may && decide (0 < v.s.cmp p) && v.v.may && versB v.s l
def histB (p : ByteArray) (h : Hs) : Bool := keyB h.key && !leB h.key p && !decide (h.vs.length = 0) && versB ⟨0, 0, 0⟩ h.vs
theorem versB_drop {l : List Vn} {k : Nat} {a : Vn} (p : Sp) (h : l[k]? = some a) : versB p (l.drop k) = (a.s.may && decide (0 < a.s.cmp p) && a.v.may && versB a.s (l.drop (k + 1))) := by
  have h1 := List.getElem?_eq_some_iff.1 h
  rw [List.drop_eq_getElem_cons h1.1, h1.2]
  rfl
abbrev Sp.arr (s : Sp) : Array Value := #[.int .i64 s.w, .int .i64 s.l, .int .i64 s.n]
abbrev Hs.val (h : Hs) (v : Value) : Value := .agg #[.string h.key, v]
def HistRel (l : List Vn) (w : World) (i : Value) (wr : World) : Prop :=
  ∃ (k : Nat) (p : Sp), k ≤ l.length ∧ i = .int .i64 (k : Int) ∧ versB p (l.drop k) = versB ⟨0, 0, 0⟩ l ∧ Blk wr (w.heap.size + 1) 26 p.arr ∧ Below w.heap.size w wr

set_option maxRecDepth 100000 in
set_option maxHeartbeats 4000000 in
theorem history_good (A : Option Addr) (n c : Nat) (h : Hs) (p : ByteArray) (w : World) (hh : Sl VnRel 6 w w.heap.size A n h.vs) (hn : n ≤ maxLen) (h1 : keyB h.key = true) (h2 : leB h.key p = false) (h3 : h.vs.length ≠ 0) :
    Calls Try.prog 83 #[.agg #[.string h.key, .slice A n c], .string p] w fun e w' => e = .returned (.bool (versB ⟨0, 0, 0⟩ h.vs)) ∧ Below w.heap.size w w' := by
  unfold maxLen at hn
  have hl := hh.1
  have hge : n ≤ h.vs.length := by omega
  have hle : h.vs.length ≤ n := by omega
  have hk := fun w => key_any h.key w
  rw [h1] at hk
  have hn0 : ((n : Int) == 0) = false := by simp; omega
  have hn1 : (n == 0) = false := by simp; omega
  unfold leB at h2
  rw [Bool.or_eq_false_iff] at h2
  obtain ⟨h21, h22⟩ := h2
  clear hl h1 h3
  generalize h.vs = l at *
  go_enter Try.func83, Try.ntmps83
  go_wp2_with (first
    | ((with_reducible refine (hk _).mono ?_); rintro e w1 ⟨rfl, rfl⟩))
  go_loopw [28] (fun i wr => HistRel l w i wr) (fun i _ => n - (intOf i).toNat)
  case atStart => exact ⟨0, ⟨0, 0, 0⟩, by omega, rfl, rfl, Blk.new' _ _ (by simp), by go_grown⟩
  case round =>
    obtain ⟨k, q, hk', rfl, hs, b5, hb⟩ := hrel
    have hzz := hb.size
    by_cases hlt : k < n
    · obtain ⟨ad, a, rfl, ha, hbk, hok, c0, c1, c2, c3, c4, c5⟩ := (hh.below VnRel.kept hb).vn hlt
      have hd1 : decide ((k : Int) < (n : Int)) = true := by simp; omega
      have hm := fun w => hmay_any a.s w
      have hc := fun w => cmp_any a.s q w
      have hv := fun w => vmay_any a.v w
      rw [versB_drop q ha] at hs
      obtain ⟨g5, y0, y1, y2⟩ := b5.three
      have g55 : w.heap.size + 1 < wr.heap.size + 1 := by omega
      cases hmb : a.s.may
      · rw [hmb] at hm hs
        have HF := Lib.hid (show versB ⟨0, 0, 0⟩ l = false by rw [← hs]; rfl)
        clear hs ha hmb
        go_wp2_with ((with_reducible refine (hm _).mono ?_); rintro e w1 ⟨rfl, rfl⟩)
        go_ret
        rw [HF.out]
        exact ⟨rfl, hb.trans (((Below.refl _ _).alloc (by omega) _).alloc (by simp; omega) _)⟩
      rw [hmb] at hm hs
      generalize a.s.cmp q = cc at *
      by_cases hcc : cc ≤ 0
      · have HF := Lib.hid (show versB ⟨0, 0, 0⟩ l = false by rw [← hs]; simp; intro h; omega)
        clear hs ha hmb
        go_wp2_with (first
          | ((with_reducible refine (hm _).mono ?_); rintro e w1 ⟨rfl, rfl⟩)
          | ((with_reducible refine (hc _).mono ?_); rintro e w2 ⟨rfl, hb2⟩
             have b7 := ((Blk.new wr 79 a.cells.toArray).alloc _).below hb2 (by simp <;> omega)
             have b5' := ((b5.alloc _).alloc _).below hb2 (by simp; omega)
             obtain ⟨g7, x0, x1, x2, x3, x4, x5⟩ := b7.six
             obtain ⟨g5, y0, y1, y2⟩ := b5'.three
             have hw2 : Below w.heap.size w w2 := hb.trans ((((Below.refl _ _).alloc (by omega) _).alloc (by simp; omega) _).trans (hb2.mono (by simp; omega)))))
        go_ret
        rw [HF.out]
        exact ⟨rfl, hw2⟩
      cases hvb : a.v.may
      · rw [hvb] at hv hs
        have HF := Lib.hid (show versB ⟨0, 0, 0⟩ l = false by rw [← hs]; simp)
        clear hs ha hmb hvb
        go_wp2_with (first
          | ((with_reducible refine (hm _).mono ?_); rintro e w1 ⟨rfl, rfl⟩)
          | ((with_reducible refine (hc _).mono ?_); rintro e w2 ⟨rfl, hb2⟩
             have b7 := ((Blk.new wr 79 a.cells.toArray).alloc _).below hb2 (by simp <;> omega)
             have b5' := ((b5.alloc _).alloc _).below hb2 (by simp; omega)
             obtain ⟨g7, x0, x1, x2, x3, x4, x5⟩ := b7.six
             obtain ⟨g5, y0, y1, y2⟩ := b5'.three
             have hw2 : Below w.heap.size w w2 := hb.trans ((((Below.refl _ _).alloc (by omega) _).alloc (by simp; omega) _).trans (hb2.mono (by simp; omega))))
          | ((with_reducible refine (hv _).mono ?_); rintro e w3 ⟨rfl, hb3⟩
             have b7' := b7.below hb3 (by omega)
             have b5'' := b5'.below hb3 (by omega)
             obtain ⟨g7', x0', x1', x2', x3', x4', x5'⟩ := b7'.six
             obtain ⟨g5', y0', y1', y2'⟩ := b5''.three
             have hw3 : Below w.heap.size w w3 := hw2.trans (hb3.mono (by omega))))
        go_ret
        rw [HF.out]
        exact ⟨rfl, hw3⟩
      · rw [hvb] at hv hs
        have HT := Lib.hid (show versB a.s (l.drop (k + 1)) = versB ⟨0, 0, 0⟩ l by rw [← hs]; simp; intro h; omega)
        clear hs ha hmb hvb
        go_wp2_with (first
          | ((with_reducible refine (hm _).mono ?_); rintro e w1 ⟨rfl, rfl⟩)
          | ((with_reducible refine (hc _).mono ?_); rintro e w2 ⟨rfl, hb2⟩
             have b7 := ((Blk.new wr 79 a.cells.toArray).alloc _).below hb2 (by simp <;> omega)
             have b5' := ((b5.alloc _).alloc _).below hb2 (by simp; omega)
             obtain ⟨g7, x0, x1, x2, x3, x4, x5⟩ := b7.six
             obtain ⟨g5, y0, y1, y2⟩ := b5'.three
             have hw2 : Below w.heap.size w w2 := hb.trans ((((Below.refl _ _).alloc (by omega) _).alloc (by simp; omega) _).trans (hb2.mono (by simp; omega))))
          | ((with_reducible refine (hv _).mono ?_); rintro e w3 ⟨rfl, hb3⟩
             have b7' := b7.below hb3 (by omega)
             have b5'' := b5'.below hb3 (by omega)
             obtain ⟨g7', x0', x1', x2', x3', x4', x5'⟩ := b7'.six
             obtain ⟨g5', y0', y1', y2'⟩ := b5''.three
             have hw3 : Below w.heap.size w w3 := hw2.trans (hb3.mono (by omega)))
          | (refine wpList_store_row rfl 26 _ _ rfl _ _ rfl rfl _ _ b5'' (by kernel_rfl) (by kernel_rfl) (by kernel_rfl) ?_))
        go_roundw
        case rel => exact ⟨k + 1, a.s, by omega, by go_num, HT.out, b5''.setRow _, below_setRow hw3 (by omega) _⟩
        case measure => simp [intOf]; omega
    · have hd1 : decide ((k : Int) < (n : Int)) = false := by simp; omega
      rw [List.drop_of_length_le (by omega)] at hs
      have HS := Lib.hid hs
      clear hs
      go_wp2
      go_ret
      rw [← HS.out]
      exact ⟨rfl, hb⟩

set_option maxRecDepth 100000 in
set_option maxHeartbeats 4000000 in
theorem history_any (A : Option Addr) (n c : Nat) (h : Hs) (p : ByteArray) (w : World) (hh : Sl VnRel 6 w w.heap.size A n h.vs) (hn : n ≤ maxLen) :
    Calls Try.prog 83 #[.agg #[.string h.key, .slice A n c], .string p] w fun e w' => e = .returned (.bool (histB p h)) ∧ Below w.heap.size w w' := by
  have hk := fun w => key_any h.key w
  have hl := hh.1
  cases h1 : keyB h.key
  · rw [h1] at hk
    have HF := Lib.hid (show histB p h = false by unfold histB; rw [h1]; rfl)
    clear h1
    go_enter Try.func83, Try.ntmps83
    go_wp2_with ((with_reducible refine (hk _).mono ?_); rintro e w1 ⟨rfl, rfl⟩)
    go_ret
    rw [HF.out]
    exact ⟨rfl, by go_grown⟩
  cases h2 : leB h.key p
  · by_cases h3 : h.vs.length = 0
    · have hn0 : n = 0 := by omega
      have HF := Lib.hid (show histB p h = false by unfold histB; rw [h3]; simp)
      subst hn0
      rw [h1] at hk
      unfold leB at h2
      rw [Bool.or_eq_false_iff] at h2
      obtain ⟨h21, h22⟩ := h2
      clear h1 h3 hh hl
      go_enter Try.func83, Try.ntmps83
      go_wp2_with ((with_reducible refine (hk _).mono ?_); rintro e w1 ⟨rfl, rfl⟩)
      go_ret
      rw [HF.out]
      exact ⟨rfl, by go_grown⟩
    · have e : histB p h = versB ⟨0, 0, 0⟩ h.vs := by unfold histB; rw [h1, h2]; simp [h3]
      rw [e]
      exact history_good A n c h p w hh hn h1 h2 h3
  · rw [h1] at hk
    have HF := Lib.hid (show histB p h = false by unfold histB; rw [h2]; simp)
    unfold leB at h2
    clear h1
    go_enter Try.func83, Try.ntmps83
    go_wp2_with ((with_reducible refine (hk _).mono ?_); rintro e w1 ⟨rfl, rfl⟩)
    all_goals go_ret
    all_goals rw [HF.out]
    all_goals exact ⟨rfl, by go_grown⟩

abbrev Pn.val (p : Pn) (r q : Value) : Value := .agg #[.int .i64 p.t.c, .int .i64 p.t.l, .int .i64 p.t.s, .int .i64 p.s.w, .int .i64 p.s.l, .int .i64 p.s.n, r, q]
def Sp.zero (s : Sp) : Bool := (s.w == 0) && (s.l == 0) && (s.n == 0)
def allMay : List Wt → Bool
  | [] => true
  | a :: l => a.v.may && allMay l
def pendE (p : Pn) : Int := if !p.t.may then 4 else if !p.s.may || p.s.zero then 17 else if !riseB p.r || !riseB (p.w.map (·.key)) then 4 else if allMay p.w then 0 else 4
theorem allMay_drop {l : List Wt} {k : Nat} {a : Wt} (h : l[k]? = some a) : allMay (l.drop k) = (a.v.may && allMay (l.drop (k + 1))) := by
  have h1 := List.getElem?_eq_some_iff.1 h
  rw [List.drop_eq_getElem_cons h1.1, h1.2]
  rfl
def MayRel (l : List Wt) (w : World) (i : Value) (wr : World) : Prop := ∃ k : Nat, k ≤ l.length ∧ i = .int .i64 (k : Int) ∧ allMay (l.drop k) = allMay l ∧ Below w.heap.size w wr
theorem zero_run (s : Sp) (w : World) : (Op.equalIn 10000 26 (.agg #[.int .i64 s.w, .int .i64 s.l, .int .i64 s.n]) (.agg #[.int .i64 0, .int .i64 0, .int .i64 0])).run Try.prog w = .ok s.zero w := by
  unfold Sp.zero
  cases h1 : (s.w == 0) <;> cases h2 : (s.l == 0) <;> cases h3 : (s.n == 0)
  all_goals simp [go_sem, h1, h2, h3]

set_option maxRecDepth 100000 in
set_option maxHeartbeats 4000000 in
theorem pend_any (p : Pn) (A1 A2 : Option Addr) (n1 n2 c1 c2 : Nat) (w : World) (hr : Sl KyRel 1 w w.heap.size A1 n1 p.r) (hw : Sl WtRel 4 w w.heap.size A2 n2 p.w) (hn1 : n1 ≤ maxLen) (hn2 : n2 ≤ 1000000) :
    Calls Try.prog 84 #[p.val (.slice A1 n1 c1) (.slice A2 n2 c2)] w fun e w' => e = .returned (.int .i64 (pendE p)) ∧ Below w.heap.size w w' := by
  have ht' := fun w => txnMay_any p.t w
  have hs' := fun w => hmay_any p.s w
  have hzr := fun w => zero_run p.s w
  have hB := Blk.new w 47 #[.int .i64 p.t.c, .int .i64 p.t.l, .int .i64 p.t.s, .int .i64 p.s.w, .int .i64 p.s.l, .int .i64 p.s.n, .slice A1 n1 c1, .slice A2 n2 c2]
  cases ht : p.t.may
  · have HF := Lib.hid (show pendE p = 4 by unfold pendE; rw [ht]; rfl)
    rw [ht] at ht'
    clear ht
    go_enter Try.func84, Try.ntmps84
    go_wp2_with ((with_reducible refine (ht' _).mono ?_); rintro e w1 ⟨rfl, hb1⟩)
    go_ret
    rw [HF.out]
    exact ⟨rfl, ((Below.refl _ _).alloc (Nat.le_refl _) _).trans (hb1.mono (by simp))⟩
  rw [ht] at ht'
  cases hs : p.s.may
  · have HF := Lib.hid (show pendE p = 17 by unfold pendE; rw [ht, hs]; rfl)
    rw [hs] at hs'
    clear ht hs
    go_enter Try.func84, Try.ntmps84
    go_wp2_with (first
      | ((with_reducible refine (ht' _).mono ?_); rintro e w1 ⟨rfl, hb1⟩
         have hB1 := hB.below hb1 (by simp)
         obtain ⟨g1, x0, x1, x2, x3, x4, x5, x6, x7⟩ := hB1.eight)
      | ((with_reducible refine (hs' _).mono ?_); rintro e w2 ⟨rfl, rfl⟩))
    go_ret
    rw [HF.out]
    exact ⟨rfl, (((Below.refl _ _).alloc (Nat.le_refl _) _).trans (hb1.mono (by simp))).alloc (by omega) _⟩
  rw [hs] at hs'
  cases hz : p.s.zero
  · have hE : pendE p = if !riseB p.r || !riseB (p.w.map (·.key)) then 4 else if allMay p.w then 0 else 4 := by unfold pendE; rw [ht, hs, hz]; rfl
    rw [hz] at hzr
    clear ht hs hz
    cases hr1 : riseB p.r
    · have HF := Lib.hid (show pendE p = 4 by rw [hE, hr1]; rfl)
      clear hE
      go_enter Try.func84, Try.ntmps84
      go_wp2_with (first
        | ((with_reducible refine (ht' _).mono ?_); rintro e w1 ⟨rfl, hb1⟩
           have hB1 := hB.below hb1 (by simp)
           obtain ⟨g1, x0, x1, x2, x3, x4, x5, x6, x7⟩ := hB1.eight
           have hw1 : Below w.heap.size w w1 := ((Below.refl _ _).alloc (Nat.le_refl _) _).trans (hb1.mono (by simp)))
        | ((with_reducible refine (hs' _).mono ?_); rintro e w2 ⟨rfl, rfl⟩
           have hw2 : Below w.heap.size w (w1.alloc (.cells p.s.arr 26)) := hw1.alloc (by omega) _
           have hR := rise_any A1 n1 c1 p.r _ (hr.below KyRel.kept hw2 |>.more KyRel.kept hw2.size) hn1
           rw [hr1] at hR)
        | ((with_reducible refine hR.mono ?_); rintro e w3 ⟨rfl, rfl⟩))
      go_ret
      rw [HF.out]
      exact ⟨rfl, hw2⟩
    go_enter Try.func84, Try.ntmps84
    go_wp2_with (first
      | ((with_reducible refine (ht' _).mono ?_); rintro e w1 ⟨rfl, hb1⟩
         have hB1 := hB.below hb1 (by simp)
         obtain ⟨g1, x0, x1, x2, x3, x4, x5, x6, x7⟩ := hB1.eight
         have hw1 : Below w.heap.size w w1 := ((Below.refl _ _).alloc (Nat.le_refl _) _).trans (hb1.mono (by simp)))
      | ((with_reducible refine (hs' _).mono ?_); rintro e w2 ⟨rfl, rfl⟩
         have hw2 : Below w.heap.size w (w1.alloc (.cells p.s.arr 26)) := hw1.alloc (by omega) _
         have hR := rise_any A1 n1 c1 p.r _ (hr.below KyRel.kept hw2 |>.more KyRel.kept hw2.size) hn1
         rw [hr1] at hR)
      | ((with_reducible refine hR.mono ?_); rintro e w3 ⟨rfl, rfl⟩)
      | (go_at_call 99; fail))
    refine (writeKeys_any A2 n2 c2 p.w _ (hw.below WtRel.kept hw2 |>.more WtRel.kept hw2.size) hn2).mono ?_
    rintro e w4 ⟨v, rfl, ho, hb4⟩
    have hw4 : Below w.heap.size w w4 := hw2.trans (hb4.mono hw2.size)
    have hB4 := (hB1.alloc (.cells p.s.arr 26)).below hb4 (by simp; omega)
    obtain ⟨A3, n3, c3, rfl, hn3, hc3, hs3⟩ := ho.sl (ok := fun k => k.size ≤ 140737488351232) (by omega) ky_len (fun k hk => by
      obtain ⟨a, ha, rfl⟩ := List.mem_map.1 hk
      obtain ⟨i, hi⟩ := List.getElem?_of_mem ha
      obtain ⟨ad, cs, e, hb, hl, hc, hr⟩ := hw.2 i a hi
      exact hr.2.1)
    have hR4 := rise_any A3 n3 c3 _ w4 hs3 (by omega)
    clear x0 x1 x2 x3 x4 x5 x6 x7 hR ht' hs' hzr g1
    obtain ⟨g1, x0, x1, x2, x3, x4, x5, x6, x7⟩ := hB4.eight
    cases hr2 : riseB (p.w.map (·.key))
    · have HF := Lib.hid (show pendE p = 4 by rw [hE, hr1, hr2]; rfl)
      rw [hr2] at hR4
      clear hE
      go_wp2_with ((with_reducible refine hR4.mono ?_); rintro e w3 ⟨rfl, rfl⟩)
      go_ret
      rw [HF.out]
      exact ⟨rfl, hw4⟩
    · rw [hr2] at hR4
      rw [hr1, hr2] at hE
      have hE' : pendE p = if allMay p.w then 0 else 4 := hE
      have HE := Lib.hid hE'
      clear hE hE'
      go_wp2_with ((with_reducible refine hR4.mono ?_); rintro e w3 ⟨rfl, rfl⟩)
      have hww : Sl WtRel 4 w4 w4.heap.size A2 n2 p.w := hw.below WtRel.kept hw4 |>.more WtRel.kept hw4.size
      have hl := hw.1
      have hge : n2 ≤ p.w.length := by omega
      have hle : p.w.length ≤ n2 := by omega
      clear hl hw hr x0 x1 x2 x3 x4 x5 x6 x7 hB hB1 hB4 hs3 ho hR4 hr1 hr2
      go_loopw [36] (fun i wr => MayRel p.w w4 i wr) (fun i _ => n2 - (intOf i).toNat)
      case atStart => exact ⟨0, by omega, rfl, rfl, Below.refl _ _⟩
      case round =>
        obtain ⟨k, hk, rfl, hs, hb⟩ := hrel
        have hzz := hb.size
        by_cases hlt : k < n2
        · obtain ⟨ad, a, rfl, ha, hbk, hok, c0, c1, c2, c3⟩ := (hww.below WtRel.kept hb).wt hlt
          have hd1 : decide ((k : Int) < (n2 : Int)) = true := by simp; omega
          have hk0 : (0 : Int) ≤ (k : Int) := by omega
          have hk1 : (k : Int) < (n2 : Int) := by omega
          have hv := fun w => vmay_any a.v w
          rw [allMay_drop ha] at hs
          cases hm : a.v.may
          · rw [hm] at hv hs
            have HF := Lib.hid (show pendE p = 4 by rw [HE.out, ← hs]; rfl)
            clear hs ha hm HE
            go_wp2_with ((with_reducible refine (hv _).mono ?_); rintro e w5 ⟨rfl, hb5⟩)
            go_ret
            rw [HF.out]
            exact ⟨rfl, hw4.trans (Below.mono (hb.trans (((Below.refl _ _).alloc hzz _).trans (hb5.mono (by simp; omega)))) hw4.size)⟩
          · rw [hm] at hv hs
            have HT := Lib.hid hs
            clear hs ha hm
            go_wp2_with ((with_reducible refine (hv _).mono ?_); rintro e w5 ⟨rfl, hb5⟩)
            go_roundw
            case rel => exact ⟨k + 1, by omega, by go_num, HT.out, hb.trans (((Below.refl _ _).alloc hzz _).trans (hb5.mono (by simp; omega)))⟩
            case measure => simp [intOf]; omega
        · have hd1 : decide ((k : Int) < (n2 : Int)) = false := by simp; omega
          have HF := Lib.hid (show pendE p = 0 by rw [HE.out, ← hs, List.drop_of_length_le (by omega)]; rfl)
          clear hs HE
          go_wp2
          go_ret
          rw [HF.out]
          exact ⟨rfl, hw4.trans (hb.mono hw4.size)⟩
  · have HF := Lib.hid (show pendE p = 17 by unfold pendE; rw [ht, hs, hz]; rfl)
    rw [hz] at hzr
    clear ht hs hz
    go_enter Try.func84, Try.ntmps84
    go_wp2_with (first
      | ((with_reducible refine (ht' _).mono ?_); rintro e w1 ⟨rfl, hb1⟩
         have hB1 := hB.below hb1 (by simp)
         obtain ⟨g1, x0, x1, x2, x3, x4, x5, x6, x7⟩ := hB1.eight)
      | ((with_reducible refine (hs' _).mono ?_); rintro e w2 ⟨rfl, rfl⟩))
    go_ret
    rw [HF.out]
    exact ⟨rfl, (((Below.refl _ _).alloc (Nat.le_refl _) _).trans (hb1.mono (by simp))).alloc (by omega) _⟩
end Go.Proofs.Ytipacjbegfingaa
