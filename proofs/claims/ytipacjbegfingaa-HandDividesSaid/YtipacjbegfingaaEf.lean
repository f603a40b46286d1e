/- The document's store in memory; the walks of its at and where. -/
import Derived.Test.YtipacjbegfingaaCo
import Derived.Test.YtipacjbegfingaaEa
namespace Go.Proofs.Ytipacjbegfingaa
set_option linter.unusedVariables false
open Go.RowKit Fl
attribute [local go_sem] run_store_float

/-- all blocks but g -/
def nb (g : Nat) : Nat → Bool := fun k => decide (k ≠ g)
theorem nb_iff {g k : Nat} : nb g k = true ↔ k ≠ g := by unfold nb; rw [decide_eq_true_eq]
/-- the document's store: its two lists, and the stamp up to which was read -/
structure RSt (w : World) (g : Nat) (B1 : Option Addr) (m1 d1 : Nat) (B2 : Option Addr) (m2 d2 : Nat) (L : Sp) (Hl : List Hs) (Pl : List Pn) : Prop where
  blk : Blk w g 86 #[.slice B1 m1 d1, .slice B2 m2 d2, .int .i64 L.w, .int .i64 L.l, .int .i64 L.n]
  hs : Sl HsRel 2 (only (nb g) w) w.heap.size B1 m1 Hl
  ps : Sl PnRel 8 (only (nb g) w) w.heap.size B2 m2 Pl
  le2 : m2 ≤ d2
  d2m : d2 ≤ maxLen
  m1 : m1 ≤ maxLen
  m2 : m2 ≤ maxLen
section
variable {w w' : World} {g : Nat} {B1 B2 : Option Addr} {m1 d1 m2 d2 : Nat} {L : Sp} {Hl : List Hs} {Pl : List Pn}
theorem RSt.below (h : RSt w g B1 m1 d1 B2 m2 d2 L Hl Pl) (hb : Below w.heap.size w w') : RSt w' g B1 m1 d1 B2 m2 d2 L Hl Pl := by
  have hk : ∀ p : Addr, p.block < w.heap.size → (only (nb g) w').cell? p = (only (nb g) w).cell? p := fun p hp => by
    cases hn : nb g p.block
    · rw [only_cell_out hn, only_cell_out hn]
    · rw [only_cell_in hn, only_cell_in hn]; exact hb.cell hp
  exact ⟨h.blk.below hb h.blk.lt, (h.hs.keep HsRel.kept hk).more HsRel.kept hb.size, (h.ps.keep PnRel.kept hk).more PnRel.kept hb.size, h.le2, h.d2m, h.m1, h.m2⟩
theorem RSt.hist (h : RSt w g B1 m1 d1 B2 m2 d2 L Hl Pl) : Sl HsRel 2 w w.heap.size B1 m1 Hl := h.hs.mono HsRel.mono fun p u _ hc => (only_cell hc).2
theorem RSt.pend (h : RSt w g B1 m1 d1 B2 m2 d2 L Hl Pl) : Sl PnRel 8 w w.heap.size B2 m2 Pl := h.ps.mono PnRel.mono fun p u _ hc => (only_cell hc).2
end

/-- the first place of a key from i on; -1: none -/
def atFrom (key : ByteArray) : Nat → List Hs → Int
  | _, [] => -1
  | i, h :: l => if h.key.toList == key.toList then (i : Int) else atFrom key (i + 1) l
theorem atFrom_drop {key : ByteArray} {l : List Hs} {k : Nat} {a : Hs} (h : l[k]? = some a) : atFrom key k (l.drop k) = if a.key.toList == key.toList then (k : Int) else atFrom key (k + 1) (l.drop (k + 1)) := by
  have h1 := List.getElem?_eq_some_iff.1 h
  rw [List.drop_eq_getElem_cons h1.1, h1.2]; rfl
def AtRel (key : ByteArray) (l : List Hs) (w : World) (i : Value) (wr : World) : Prop := ∃ k : Nat, k ≤ l.length ∧ i = .int .i64 (k : Int) ∧ atFrom key k (l.drop k) = atFrom key 0 l ∧ Below w.heap.size w wr
set_option maxRecDepth 100000 in
set_option maxHeartbeats 4000000 in
theorem rat_any (g : Nat) (B1 B2 : Option Addr) (m1 d1 m2 d2 : Nat) (L : Sp) (Hl : List Hs) (Pl : List Pn) (key : ByteArray) (w : World) (h : RSt w g B1 m1 d1 B2 m2 d2 L Hl Pl) :
    Calls Try.prog 77 #[.pointer (some ⟨g, 0, none⟩), .string key] w fun e w' => e = .returned (.int .i64 (atFrom key 0 Hl)) ∧ Below w.heap.size w w' := by
  have hm := h.m1
  unfold maxLen at hm
  have hl := h.hs.1
  have hge : m1 ≤ Hl.length := by omega
  have hle : Hl.length ≤ m1 := by omega
  clear hl
  go_enter Try.func77, Try.ntmps77
  go_wp2
  go_loopw [5] (fun i wr => AtRel key Hl w i wr) (fun i _ => m1 - (intOf i).toNat)
  case atStart => exact ⟨0, by omega, rfl, rfl, Below.refl _ _⟩
  case round =>
    obtain ⟨k, hk, rfl, hs, hb⟩ := hrel
    have hzz := hb.size
    have hr := h.below hb
    obtain ⟨gl, k0, k1, -, -, -⟩ := hr.blk.fiveC
    by_cases hlt : k < m1
    · obtain ⟨ad, a, A', n', c', rfl, ha, hbk, hok, c0, c1, hn', hc', hsv⟩ := hr.hist.hs hlt
      have hd1 : decide ((k : Int) < (m1 : Int)) = true := by simp; omega
      have hk0 : (0 : Int) ≤ (k : Int) := by omega
      have hk1 : (k : Int) < (m1 : Int) := by omega
      rw [atFrom_drop ha] at hs
      clear ha
      cases he : (a.key.toList == key.toList)
      · rw [he] at hs
        have HS := Lib.hid (show atFrom key (k + 1) (Hl.drop (k + 1)) = atFrom key 0 Hl from hs)
        clear hs
        go_wp2
        go_roundw
        case rel => exact ⟨k + 1, by omega, by go_num, HS.out, hb⟩
        case measure => simp [intOf]; omega
      · rw [he] at hs
        have HS := Lib.hid (show (k : Int) = atFrom key 0 Hl from hs)
        clear hs
        go_wp2
        go_ret
        rw [← HS.out]
        exact ⟨rfl, hb⟩
    · have hd1 : decide ((k : Int) < (m1 : Int)) = false := by simp; omega
      rw [List.drop_of_length_le (by omega)] at hs
      have HS := Lib.hid (show (-1 : Int) = atFrom key 0 Hl from hs)
      clear hs
      go_wp2
      go_ret
      rw [← HS.out]
      exact ⟨rfl, hb⟩

/-- the first place of a transaction from i on; -1: none -/
def whFrom (t : Tx) : Nat → List Pn → Int
  | _, [] => -1
  | i, p :: l => if decide (p.t = t) then (i : Int) else whFrom t (i + 1) l
theorem whFrom_drop {t : Tx} {l : List Pn} {k : Nat} {a : Pn} (h : l[k]? = some a) : whFrom t k (l.drop k) = if decide (a.t = t) then (k : Int) else whFrom t (k + 1) (l.drop (k + 1)) := by
  have h1 := List.getElem?_eq_some_iff.1 h
  rw [List.drop_eq_getElem_cons h1.1, h1.2]; rfl
theorem txn_run (a t : Tx) (w : World) : (Op.equalIn 10000 43 (.agg #[.int .i64 a.c, .int .i64 a.l, .int .i64 a.s]) (.agg #[.int .i64 t.c, .int .i64 t.l, .int .i64 t.s])).run Try.prog w = .ok (decide (a = t)) w := by
  have e : decide (a = t) = ((a.c == t.c) && (a.l == t.l) && (a.s == t.s)) := by
    obtain ⟨a1, a2, a3⟩ := a
    obtain ⟨b1, b2, b3⟩ := t
    rw [Bool.eq_iff_iff]
    simp [and_assoc]
  rw [e]
  cases h1 : (a.c == t.c) <;> cases h2 : (a.l == t.l) <;> cases h3 : (a.s == t.s)
  all_goals simp [go_sem, h1, h2, h3]
def WhRel (t : Tx) (l : List Pn) (w : World) (i : Value) (wr : World) : Prop := ∃ k : Nat, k ≤ l.length ∧ i = .int .i64 (k : Int) ∧ whFrom t k (l.drop k) = whFrom t 0 l ∧ Below w.heap.size w wr ∧ Blk wr w.heap.size 43 #[.int .i64 t.c, .int .i64 t.l, .int .i64 t.s]
set_option maxRecDepth 100000 in
set_option maxHeartbeats 4000000 in
theorem rwhere_any (g : Nat) (B1 B2 : Option Addr) (m1 d1 m2 d2 : Nat) (L : Sp) (Hl : List Hs) (Pl : List Pn) (t : Tx) (w : World) (h : RSt w g B1 m1 d1 B2 m2 d2 L Hl Pl) :
    Calls Try.prog 45 #[.pointer (some ⟨g, 0, none⟩), t.val] w fun e w' => e = .returned (.int .i64 (whFrom t 0 Pl)) ∧ Below w.heap.size w w' := by
  have hm := h.m2
  unfold maxLen at hm
  have hl := h.ps.1
  have hge : m2 ≤ Pl.length := by omega
  have hle : Pl.length ≤ m2 := by omega
  clear hl
  go_enter Try.func45, Try.ntmps45
  go_wp2
  go_loopw [5] (fun i wr => WhRel t Pl w i wr) (fun i _ => m2 - (intOf i).toNat)
  case atStart => exact ⟨0, by omega, rfl, rfl, by go_grown, Blk.new _ _ _⟩
  case round =>
    obtain ⟨k, hk, rfl, hs, hb, i3⟩ := hrel
    have hzz := hb.size
    have hr := h.below hb
    obtain ⟨gl, k0, k1, -, -, -⟩ := hr.blk.fiveC
    obtain ⟨g3, s0, s1, s2⟩ := i3.three
    by_cases hlt : k < m2
    · obtain ⟨ad, a, A1, n1, c1, A2, n2, c2, rfl, ha, hbk, hxt, hxs, e0, e1, e2, e3, e4, e5, e6, e7, hn1, hc1, hs1, hn2, hc2, hs2⟩ := hr.pend.pn hlt
      have hd1 : decide ((k : Int) < (m2 : Int)) = true := by simp; omega
      have hk0 : (0 : Int) ≤ (k : Int) := by omega
      have hk1 : (k : Int) < (m2 : Int) := by omega
      have hrun := fun w => txn_run a.t t w
      rw [whFrom_drop ha] at hs
      clear ha
      cases he : decide (a.t = t)
      · rw [he] at hs hrun
        have HS := Lib.hid (show whFrom t (k + 1) (Pl.drop (k + 1)) = whFrom t 0 Pl from hs)
        clear hs he
        go_wp2
        go_quiet (fail)
        all_goals go_wp2
        all_goals go_roundw
        case rel => exact ⟨k + 1, by omega, by go_num, HS.out, hb.trans ((belowN _).mono hzz), i3⟩
        case measure => simp [intOf]; omega
      · rw [he] at hs hrun
        have HS := Lib.hid (show (k : Int) = whFrom t 0 Pl from hs)
        clear hs he
        go_wp2
        go_quiet (fail)
        all_goals go_wp2
        all_goals go_ret
        rw [← HS.out]
        exact ⟨rfl, hb.trans ((belowN _).mono hzz)⟩
    · have hd1 : decide ((k : Int) < (m2 : Int)) = false := by simp; omega
      rw [List.drop_of_length_le (by omega)] at hs
      have HS := Lib.hid (show (-1 : Int) = whFrom t 0 Pl from hs)
      clear hs
      go_wp2
      go_ret
      rw [← HS.out]
      exact ⟨rfl, hb⟩
end Go.Proofs.Ytipacjbegfingaa
