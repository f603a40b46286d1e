/- The walks of the document's small functions: order, Compare, Less; its number's bits; its May of a value. -/
import Derived.Test.YtipacjbegfingaaGreatYaac
import Derived.Test.YtipacjbegfingaaGreatYaaf
import Derived.Test.YtipacjbegfingaaGreatYaaj
namespace Go.Proofs.YtipacjbegfingaaGreat
open Go.RowKit Fl
attribute [local go_sem] run_store_float

set_option maxHeartbeats 1000000 in
theorem rord_any (a b : Int) (w : World) : Calls Tryz.prog 122 #[.int .i64 a, .int .i64 b] w fun e w' => e = .returned (.int .i64 (ordI a b)) ∧ w = w' := by
  go_enter Tryz.func122, Tryz.ntmps122
  go_wp2
  all_goals go_ret
  all_goals refine ⟨ret_int ?_, rfl⟩
  all_goals simp_all [ordI]
  all_goals omega
theorem Sp.cmp_steps (a b : Sp) : a.cmp b = if ordI a.w b.w = 0 then (if ordI a.l b.l = 0 then ordI a.n b.n else ordI a.l b.l) else ordI a.w b.w := by
  have h : ∀ x y : Int, ordI x y = 0 ↔ x = y := fun x y => by unfold ordI; split <;> (try split) <;> omega
  unfold Sp.cmp
  simp only [h]
  by_cases h1 : a.w = b.w
  · by_cases h2 : a.l = b.l
    · simp [h1, h2]
    · simp [h1, h2]
  · simp [h1]
set_option maxHeartbeats 2000000 in
theorem rcmp_any (a b : Sp) (w : World) : Calls Tryz.prog 94 #[a.val, b.val] w fun e w' => e = .returned (.int .i64 (a.cmp b)) ∧ Below w.heap.size w w' := by
  rw [Sp.cmp_steps]
  have h1 := fun w => rord_any a.w b.w w
  have h2 := fun w => rord_any a.l b.l w
  have h3 := fun w => rord_any a.n b.n w
  generalize ordI a.w b.w = x at *
  generalize ordI a.l b.l = y at *
  generalize ordI a.n b.n = z at *
  by_cases hx : x = 0
  · by_cases hy : y = 0
    · rw [if_pos hx, if_pos hy]
      have hx0 : (x == 0) = true := by simp [hx]
      have hy0 : (y == 0) = true := by simp [hy]
      clear hx hy
      go_enter Tryz.func94, Tryz.ntmps94
      go_wp2_with (first
        | ((with_reducible refine (h1 _).mono ?_); rintro e w1 ⟨rfl, rfl⟩)
        | ((with_reducible refine (h2 _).mono ?_); rintro e w1 ⟨rfl, rfl⟩)
        | ((with_reducible refine (h3 _).mono ?_); rintro e w1 ⟨rfl, rfl⟩))
      go_ret
      exact ⟨rfl, by go_grown⟩
    · rw [if_pos hx, if_neg hy]
      have hx0 : (x == 0) = true := by simp [hx]
      have hy0 : (y == 0) = false := by simp [hy]
      clear hx hy
      go_enter Tryz.func94, Tryz.ntmps94
      go_wp2_with (first
        | ((with_reducible refine (h1 _).mono ?_); rintro e w1 ⟨rfl, rfl⟩)
        | ((with_reducible refine (h2 _).mono ?_); rintro e w1 ⟨rfl, rfl⟩))
      go_ret
      exact ⟨rfl, by go_grown⟩
  · rw [if_neg hx]
    have hx0 : (x == 0) = false := by simp [hx]
    clear hx
    go_enter Tryz.func94, Tryz.ntmps94
    go_wp2_with ((with_reducible refine (h1 _).mono ?_); rintro e w1 ⟨rfl, rfl⟩)
    go_ret
    exact ⟨rfl, by go_grown⟩
set_option maxHeartbeats 1000000 in
theorem rless_any (a b : Sp) (w : World) : Calls Tryz.prog 65 #[a.val, b.val] w fun e w' => e = .returned (.bool (decide (a.cmp b < 0))) ∧ Below w.heap.size w w' := by
  have h := fun w => rcmp_any a b w
  generalize a.cmp b = x at *
  go_enter Tryz.func65, Tryz.ntmps65
  go_wp2_with ((with_reducible refine (h _).mono ?_); rintro e w1 ⟨rfl, hb⟩)
  go_ret
  exact ⟨rfl, (by go_grown : Below w.heap.size w ((w.alloc (.cells #[.int .i64 a.w, .int .i64 a.l, .int .i64 a.n] 26)).alloc (.cells #[.int .i64 b.w, .int .i64 b.l, .int .i64 b.n] 26))).trans (hb.mono (by simp; omega))⟩

set_option maxHeartbeats 400000 in
theorem rnbits (a : Nat) (w : World) : Calls Tryz.prog 124 #[.float .f64 a] w fun e w' => e = .returned (.int .u64 (canonB a)) ∧ w = w' := by
  by_cases h : dnan a = true
  · have e : canonB a = 9221120237041090560 := by simp [canonB, h]
    have h' : (FloatKind.f64.format.order a a != some Ordering.eq) = true := h
    rw [e]
    clear e h
    go_enter Tryz.func124, Tryz.ntmps124
    go_wp2
    go_ret
    exact ⟨rfl, rfl⟩
  · have e : canonB a = a := by simp [canonB, h]
    have h' : (FloatKind.f64.format.order a a != some Ordering.eq) = false := by simpa [dnan] using h
    rw [e]
    clear e h
    go_enter Tryz.func124, Tryz.ntmps124
    go_wp2
    go_ret
    exact ⟨rfl, rfl⟩
set_option maxHeartbeats 400000 in
theorem rcanon (a : Nat) (w : World) : Calls Tryz.prog 95 #[.float .f64 a] w fun e w' => e = .returned (.float .f64 (canonB a)) ∧ w = w' := by
  go_enter Tryz.func95, Tryz.ntmps95
  go_wp2_with ((with_reducible refine (rnbits _ _).mono ?_); rintro e w' ⟨rfl, rfl⟩)
  go_ret
  exact ⟨rfl, rfl⟩
set_option maxRecDepth 100000 in
set_option maxHeartbeats 2000000 in
theorem rvmay_any (v : Vl) (w : World) : Calls Tryz.prog 66 #[v.val] w fun e w' => e = .returned (.bool v.may) ∧ Below w.heap.size w w' := by
  have hb := fun w => rbits v.n 0 w
  have hb2 := fun w => rbits v.n (canonB v.n) w
  have hz : ((v.n : Int) == ((0 : Nat) : Int)) = ((v.n : Int) == 0) := rfl
  rw [hz] at hb
  by_cases h0 : v.k = 0
  · have hk : (v.k == 0) = true := by simp [h0]
    rw [Vl.may0 h0]
    clear h0
    cases ht : emptyB v.t <;> cases hn : ((v.n : Int) == 0)
    all_goals unfold emptyB at ht
    all_goals rw [hn] at hb
    all_goals go_enter Tryz.func66, Tryz.ntmps66
    all_goals go_wp2_with ((with_reducible refine (hb _).mono ?_); rintro e w' ⟨rfl, rfl⟩)
    all_goals go_ret
    all_goals exact ⟨rfl, by go_grown⟩
  by_cases h1 : v.k = 1
  · have hk : (v.k == 0) = false := by simp [h0]
    have hk2 : (v.k == 1) = true := by simp [h1]
    rw [Vl.may1 h1]
    clear h0 h1
    cases ht : emptyB v.t <;> cases hn : ((v.n : Int) == canonB v.n)
    all_goals unfold emptyB at ht
    all_goals rw [hn] at hb2
    all_goals go_enter Tryz.func66, Tryz.ntmps66
    all_goals go_wp2
    all_goals go_quiet (first | (go_at_call 95; exact quietSame (rcanon _ _)) | (go_at_call 27; exact quietSame (hb2 _)))
    all_goals go_wp2
    all_goals go_ret
    all_goals exact ⟨rfl, (by go_grown : Below w.heap.size w (w.alloc _)).trans ((belowN _).mono (by simp))⟩
  by_cases h2 : v.k = 2
  · have hk : (v.k == 0) = false := by simp [h0]
    have hk2 : (v.k == 1) = false := by simp [h1]
    have hk3 : (v.k == 2) = true := by simp [h2]
    rw [Vl.may2 h2]
    clear h0 h1 h2
    cases ht : decide ((v.t.size : Int) ≤ 64) <;> cases hn : ((v.n : Int) == 0)
    all_goals rw [hn] at hb
    all_goals go_enter Tryz.func66, Tryz.ntmps66
    all_goals go_wp2_with ((with_reducible refine (hb _).mono ?_); rintro e w' ⟨rfl, rfl⟩)
    all_goals go_ret
    all_goals exact ⟨rfl, by go_grown⟩
  · have hk : (v.k == 0) = false := by simp [h0]
    have hk2 : (v.k == 1) = false := by simp [h1]
    have hk3 : (v.k == 2) = false := by simp [h2]
    rw [Vl.may3 h0 h1 h2]
    clear h0 h1 h2
    go_enter Tryz.func66, Tryz.ntmps66
    go_wp2
    go_ret
    exact ⟨rfl, by go_grown⟩
end Go.Proofs.YtipacjbegfingaaGreat
/- The document's store in memory; the walks of its at and where. -/
namespace Go.Proofs.YtipacjbegfingaaGreat
set_option linter.unusedVariables false
open Go.RowKit Fl
attribute [local go_sem] run_store_float

/-- all blocks but g -/
def nb (g : Nat) : Nat → Bool := fun k => decide (k ≠ g)
theorem nb_iff {g k : Nat} : nb g k = true ↔ k ≠ g := by unfold nb; rw [decide_eq_true_eq]
/-- the document's store: its two lists, and the stamp up to which was read -/
structure RSt (w : World) (g : Nat) (B1 : Option Addr) (m1 d1 : Nat) (B2 : Option Addr) (m2 d2 : Nat) (L : Sp) (Hl : List Hs) (Pl : List Pn) : Prop where
  blk : Blk w g 111 #[.slice B1 m1 d1, .slice B2 m2 d2, .int .i64 L.w, .int .i64 L.l, .int .i64 L.n]
  hs : Sl HsRel 2 (only (nb g) w) w.heap.size B1 m1 Hl
  ps : Sl PnRel 8 (only (nb g) w) w.heap.size B2 m2 Pl
  le2 : m2 ≤ d2
  d2m : d2 ≤ maxLen
  m1 : m1 ≤ maxLen
  m2 : m2 ≤ maxLen
section
variable {w w' : World} {g : Nat} {B1 B2 : Option Addr} {m1 d1 m2 d2 : Nat} {L : Sp} {Hl : List Hs} {Pl : List Pn}
theorem RSt.below (h : RSt w g B1 m1 d1 B2 m2 d2 L Hl Pl) (hb : Below w.heap.size w w') : RSt w' g B1 m1 d1 B2 m2 d2 L Hl Pl := by
  have hk : ∀ p : Addr, p.block < w.heap.size → (only (nb g) w').cell? p = (only (nb g) w).cell? p := fun p hp => by
    cases hn : nb g p.block
    · rw [only_cell_out hn, only_cell_out hn]
    · rw [only_cell_in hn, only_cell_in hn]; exact hb.cell hp
  exact ⟨h.blk.below hb h.blk.lt, (h.hs.keep HsRel.kept hk).more HsRel.kept hb.size, (h.ps.keep PnRel.kept hk).more PnRel.kept hb.size, h.le2, h.d2m, h.m1, h.m2⟩
theorem RSt.hist (h : RSt w g B1 m1 d1 B2 m2 d2 L Hl Pl) : Sl HsRel 2 w w.heap.size B1 m1 Hl := h.hs.mono HsRel.mono fun p u _ hc => (only_cell hc).2
theorem RSt.pend (h : RSt w g B1 m1 d1 B2 m2 d2 L Hl Pl) : Sl PnRel 8 w w.heap.size B2 m2 Pl := h.ps.mono PnRel.mono fun p u _ hc => (only_cell hc).2
end

/-- the first place of a key from i on; -1: none -/
def atFrom (key : ByteArray) : Nat → List Hs → Int
  | _, [] => -1
  | i, h :: l => if h.key.toList == key.toList then (i : Int) else atFrom key (i + 1) l
theorem atFrom_drop {key : ByteArray} {l : List Hs} {k : Nat} {a : Hs} (h : l[k]? = some a) : atFrom key k (l.drop k) = if a.key.toList == key.toList then (k : Int) else atFrom key (k + 1) (l.drop (k + 1)) := by
  have h1 := List.getElem?_eq_some_iff.1 h
  rw [List.drop_eq_getElem_cons h1.1, h1.2]; rfl
def AtRel (key : ByteArray) (l : List Hs) (w : World) (i : Value) (wr : World) : Prop := ∃ k : Nat, k ≤ l.length ∧ i = .int .i64 (k : Int) ∧ atFrom key k (l.drop k) = atFrom key 0 l ∧ Below w.heap.size w wr
set_option maxRecDepth 100000 in
set_option maxHeartbeats 4000000 in
theorem rat_any (g : Nat) (B1 B2 : Option Addr) (m1 d1 m2 d2 : Nat) (L : Sp) (Hl : List Hs) (Pl : List Pn) (key : ByteArray) (w : World) (h : RSt w g B1 m1 d1 B2 m2 d2 L Hl Pl) :
    Calls Tryz.prog 102 #[.pointer (some ⟨g, 0, none⟩), .string key] w fun e w' => e = .returned (.int .i64 (atFrom key 0 Hl)) ∧ Below w.heap.size w w' := by
  have hm := h.m1
  unfold maxLen at hm
  have hl := h.hs.1
  have hge : m1 ≤ Hl.length := by omega
  have hle : Hl.length ≤ m1 := by omega
  clear hl
  go_enter Tryz.func102, Tryz.ntmps102
  go_wp2
  go_loopw [5] (fun i wr => AtRel key Hl w i wr) (fun i _ => m1 - (intOf i).toNat)
  case atStart => exact ⟨0, by omega, rfl, rfl, Below.refl _ _⟩
  case round =>
    obtain ⟨k, hk, rfl, hs, hb⟩ := hrel
    have hzz := hb.size
    have hr := h.below hb
    obtain ⟨gl, k0, k1, -, -, -⟩ := hr.blk.fiveC
    by_cases hlt : k < m1
    · obtain ⟨ad, a, A', n', c', rfl, ha, hbk, hok, c0, c1, hn', hc', hsv⟩ := hr.hist.hs hlt
      have hd1 : decide ((k : Int) < (m1 : Int)) = true := by simp; omega
      have hk0 : (0 : Int) ≤ (k : Int) := by omega
      have hk1 : (k : Int) < (m1 : Int) := by omega
      rw [atFrom_drop ha] at hs
      clear ha
      cases he : (a.key.toList == key.toList)
      · rw [he] at hs
        have HS := Lib.hid (show atFrom key (k + 1) (Hl.drop (k + 1)) = atFrom key 0 Hl from hs)
        clear hs
        go_wp2
        go_roundw
        case rel => exact ⟨k + 1, by omega, by go_num, HS.out, hb⟩
        case measure => simp [intOf]; omega
      · rw [he] at hs
        have HS := Lib.hid (show (k : Int) = atFrom key 0 Hl from hs)
        clear hs
        go_wp2
        go_ret
        rw [← HS.out]
        exact ⟨rfl, hb⟩
    · have hd1 : decide ((k : Int) < (m1 : Int)) = false := by simp; omega
      rw [List.drop_of_length_le (by omega)] at hs
      have HS := Lib.hid (show (-1 : Int) = atFrom key 0 Hl from hs)
      clear hs
      go_wp2
      go_ret
      rw [← HS.out]
      exact ⟨rfl, hb⟩

/-- the first place of a transaction from i on; -1: none -/
def whFrom (t : Tx) : Nat → List Pn → Int
  | _, [] => -1
  | i, p :: l => if decide (p.t = t) then (i : Int) else whFrom t (i + 1) l
theorem whFrom_drop {t : Tx} {l : List Pn} {k : Nat} {a : Pn} (h : l[k]? = some a) : whFrom t k (l.drop k) = if decide (a.t = t) then (k : Int) else whFrom t (k + 1) (l.drop (k + 1)) := by
  have h1 := List.getElem?_eq_some_iff.1 h
  rw [List.drop_eq_getElem_cons h1.1, h1.2]; rfl
theorem txn_run (a t : Tx) (w : World) : (Op.equalIn 10000 41 (.agg #[.int .i64 a.c, .int .i64 a.l, .int .i64 a.s]) (.agg #[.int .i64 t.c, .int .i64 t.l, .int .i64 t.s])).run Tryz.prog w = .ok (decide (a = t)) w := by
  have e : decide (a = t) = ((a.c == t.c) && (a.l == t.l) && (a.s == t.s)) := by
    obtain ⟨a1, a2, a3⟩ := a
    obtain ⟨b1, b2, b3⟩ := t
    rw [Bool.eq_iff_iff]
    simp [and_assoc]
  rw [e]
  cases h1 : (a.c == t.c) <;> cases h2 : (a.l == t.l) <;> cases h3 : (a.s == t.s)
  all_goals simp [go_sem, h1, h2, h3]
def WhRel (t : Tx) (l : List Pn) (w : World) (i : Value) (wr : World) : Prop := ∃ k : Nat, k ≤ l.length ∧ i = .int .i64 (k : Int) ∧ whFrom t k (l.drop k) = whFrom t 0 l ∧ Below w.heap.size w wr ∧ Blk wr w.heap.size 41 #[.int .i64 t.c, .int .i64 t.l, .int .i64 t.s]
set_option maxRecDepth 100000 in
set_option maxHeartbeats 4000000 in
theorem rwhere_any (g : Nat) (B1 B2 : Option Addr) (m1 d1 m2 d2 : Nat) (L : Sp) (Hl : List Hs) (Pl : List Pn) (t : Tx) (w : World) (h : RSt w g B1 m1 d1 B2 m2 d2 L Hl Pl) :
    Calls Tryz.prog 68 #[.pointer (some ⟨g, 0, none⟩), t.val] w fun e w' => e = .returned (.int .i64 (whFrom t 0 Pl)) ∧ Below w.heap.size w w' := by
  have hm := h.m2
  unfold maxLen at hm
  have hl := h.ps.1
  have hge : m2 ≤ Pl.length := by omega
  have hle : Pl.length ≤ m2 := by omega
  clear hl
  go_enter Tryz.func68, Tryz.ntmps68
  go_wp2
  go_loopw [5] (fun i wr => WhRel t Pl w i wr) (fun i _ => m2 - (intOf i).toNat)
  case atStart => exact ⟨0, by omega, rfl, rfl, by go_grown, Blk.new _ _ _⟩
  case round =>
    obtain ⟨k, hk, rfl, hs, hb, i3⟩ := hrel
    have hzz := hb.size
    have hr := h.below hb
    obtain ⟨gl, k0, k1, -, -, -⟩ := hr.blk.fiveC
    obtain ⟨g3, s0, s1, s2⟩ := i3.three
    by_cases hlt : k < m2
    · obtain ⟨ad, a, A1, n1, c1, A2, n2, c2, rfl, ha, hbk, hxt, hxs, e0, e1, e2, e3, e4, e5, e6, e7, hn1, hc1, hs1, hn2, hc2, hs2⟩ := hr.pend.pn hlt
      have hd1 : decide ((k : Int) < (m2 : Int)) = true := by simp; omega
      have hk0 : (0 : Int) ≤ (k : Int) := by omega
      have hk1 : (k : Int) < (m2 : Int) := by omega
      have hrun := fun w => txn_run a.t t w
      rw [whFrom_drop ha] at hs
      clear ha
      cases he : decide (a.t = t)
      · rw [he] at hs hrun
        have HS := Lib.hid (show whFrom t (k + 1) (Pl.drop (k + 1)) = whFrom t 0 Pl from hs)
        clear hs he
        go_wp2
        go_quiet (fail)
        all_goals go_wp2
        all_goals go_roundw
        case rel => exact ⟨k + 1, by omega, by go_num, HS.out, hb.trans ((belowN _).mono hzz), i3⟩
        case measure => simp [intOf]; omega
      · rw [he] at hs hrun
        have HS := Lib.hid (show (k : Int) = whFrom t 0 Pl from hs)
        clear hs he
        go_wp2
        go_quiet (fail)
        all_goals go_wp2
        all_goals go_ret
        rw [← HS.out]
        exact ⟨rfl, hb.trans ((belowN _).mono hzz)⟩
    · have hd1 : decide ((k : Int) < (m2 : Int)) = false := by simp; omega
      rw [List.drop_of_length_le (by omega)] at hs
      have HS := Lib.hid (show (-1 : Int) = whFrom t 0 Pl from hs)
      clear hs
      go_wp2
      go_ret
      rw [← HS.out]
      exact ⟨rfl, hb⟩
end Go.Proofs.YtipacjbegfingaaGreat
/- The walks of the document's upto (of all), Newest, old. -/
namespace Go.Proofs.YtipacjbegfingaaGreat
set_option linter.unusedVariables false
open Go.RowKit Fl
attribute [local go_sem] run_store_float

/-- the versions of the first history of a key -/
def rvers (key : ByteArray) (l : List Hs) : List Vn := match l.find? fun h => h.key.toList == key.toList with | some h => h.vs | none => []
theorem at_find (key : ByteArray) : ∀ (l : List Hs) (k : Nat), (atFrom key k l < 0 ∧ (l.find? fun h => h.key.toList == key.toList) = none) ∨ ∃ (i : Nat) (h : Hs), atFrom key k l = ((k + i : Nat) : Int) ∧ l[i]? = some h ∧ (l.find? fun h => h.key.toList == key.toList) = some h := by
  intro l
  induction l with
  | nil => intro k; exact .inl ⟨by show (-1 : Int) < 0; omega, rfl⟩
  | cons a l ih =>
    intro k
    by_cases he : (a.key.toList == key.toList) = true
    · refine .inr ⟨0, a, ?_, rfl, ?_⟩
      · show (if a.key.toList == key.toList then (k : Int) else _) = _; rw [if_pos he]; simp
      · rw [List.find?_cons, he]
    · have e1 : atFrom key k (a :: l) = atFrom key (k + 1) l := by show (if a.key.toList == key.toList then (k : Int) else _) = _; rw [if_neg he]
      have e2 : (a.key.toList == key.toList) = false := by simpa using he
      rw [e1, List.find?_cons, e2]
      rcases ih (k + 1) with ⟨h1, h2⟩ | ⟨i, h, h1, h2, h3⟩
      · exact .inl ⟨h1, h2⟩
      · exact .inr ⟨i + 1, h, by rw [h1]; omega, h2, h3⟩
theorem at_vers (key : ByteArray) (l : List Hs) : (atFrom key 0 l < 0 ∧ rvers key l = []) ∨ ∃ (i : Nat) (h : Hs), atFrom key 0 l = (i : Int) ∧ l[i]? = some h ∧ rvers key l = h.vs := by
  unfold rvers
  rcases at_find key l 0 with ⟨h1, h2⟩ | ⟨i, h, h1, h2, h3⟩
  · exact .inl ⟨h1, by rw [h2]⟩
  · exact .inr ⟨i, h, by rw [h1]; omega, h2, by rw [h3]⟩

set_option maxRecDepth 100000 in
set_option maxHeartbeats 8000000 in
theorem rupto_any (g : Nat) (B1 B2 : Option Addr) (m1 d1 m2 d2 : Nat) (L : Sp) (Hl : List Hs) (Pl : List Pn) (key : ByteArray) (s : Sp) (w : World) (h : RSt w g B1 m1 d1 B2 m2 d2 L Hl Pl) :
    Calls Tryz.prog 125 #[.pointer (some ⟨g, 0, none⟩), .string key, s.val, .bool true] w fun e w' => e = .returned (.agg (seenArr key (lastV (rvers key Hl)))) ∧ Below w.heap.size w w' := by
  have hm := h.m1
  unfold maxLen at hm
  have hl := h.hs.1
  have hX : Below w.heap.size w (((w.alloc (.cells s.arr 26)).alloc (.cells (seenArr ⟨#[]⟩ zeroVn) 147)).alloc (.cells (seenArr key zeroVn) 147)) := by go_grown
  have i8 : Blk (((w.alloc (.cells s.arr 26)).alloc (.cells (seenArr ⟨#[]⟩ zeroVn) 147)).alloc (.cells (seenArr key zeroVn) 147)) (w.heap.size + 1) 147 (seenArr ⟨#[]⟩ zeroVn) := (Blk.new' _ _ (by simp)).alloc _
  have i9 : Blk (((w.alloc (.cells s.arr 26)).alloc (.cells (seenArr ⟨#[]⟩ zeroVn) 147)).alloc (.cells (seenArr key zeroVn) 147)) (w.heap.size + 1 + 1) 147 (seenArr key zeroVn) := Blk.new' _ _ (by simp)
  have hA := rat_any g B1 B2 m1 d1 m2 d2 L Hl Pl key _ (h.below hX)
  rcases at_vers key Hl with ⟨hneg, hv⟩ | ⟨i, hh, hat, hi, hv⟩
  · have HV := Lib.hid hv
    clear hv hl
    generalize atFrom key 0 Hl = z at *
    have hz : decide (z < 0) = true := by simp; omega
    go_enter Tryz.func125, Tryz.ntmps125
    go_wp2_with (go_at_call 102; fail)
    refine hA.mono ?_
    rintro e w1 ⟨rfl, hb1⟩
    have b8 := i8.below hb1 i8.lt
    have b9 := i9.below hb1 i9.lt
    have hb := hX.trans (hb1.mono hX.size)
    obtain ⟨g9, x0, x1, x2, x3, x4, x5, x6⟩ := b9.sevenC
    have l8 := b8.lt
    go_wp2_with (refine wpList_store_row rfl 147 _ _ rfl _ _ rfl rfl _ _ b8 (by kernel_rfl) (by kernel_rfl) (by kernel_rfl) ?_)
    refine post_cell rfl (by rfl) (b8.setRow _) rfl rfl (by kernel_rfl) ?_
    rw [HV.out]
    exact ⟨rfl, below_setRow hb (by omega) _⟩
  · have HV := Lib.hid hv
    have hilt : i < m1 := by have := (List.getElem?_eq_some_iff.1 hi).1; omega
    rw [hat] at hA
    have HI := Lib.hid hi
    have hz : decide ((i : Int) < 0) = false := by simp
    have hi0 : (0 : Int) ≤ (i : Int) := by omega
    have hi1 : (i : Int) < (m1 : Int) := by omega
    clear hv hl hat hi
    go_enter Tryz.func125, Tryz.ntmps125
    go_wp2_with (go_at_call 102; fail)
    refine hA.mono ?_
    rintro e w1 ⟨rfl, hb1⟩
    have b8 := i8.below hb1 i8.lt
    have b9 := i9.below hb1 i9.lt
    have hb0 := hX.trans (hb1.mono hX.size)
    clear hb1 i8 i9 hX hA
    go_wp2
    go_loopw [11] (fun j wr => NewestRel key hh.vs w j wr) (fun j _ => hh.vs.length - (intOf j).toNat)
    case atStart => exact ⟨0, by omega, rfl, b8, b9, hb0⟩
    case round =>
      clear b8 b9 hb0
      obtain ⟨k, hk', rfl, b8, b9, hb⟩ := hrel
      have hzz := hb.size
      have hr := h.below hb
      obtain ⟨gl, k0, k1', -, -, -⟩ := hr.blk.fiveC
      obtain ⟨ad, a1, A', n', c', rfl, ha1, hbk, hok, d0, d1', hn', hc', hsv⟩ := hr.hist.hs hilt
      obtain rfl : hh = a1 := Option.some.inj (HI.out.symm.trans ha1)
      have hll := hsv.1
      have hge : n' ≤ hh.vs.length := by omega
      have hle : hh.vs.length ≤ n' := by omega
      unfold maxLen at hc'
      clear hll ha1
      by_cases hlt : k < n'
      · obtain ⟨bd, a, rfl, ha, hbk2, hok2, c0, c1, c2, c3, c4, c5⟩ := hsv.vn hlt
        have hd1 : decide ((k : Int) < (n' : Int)) = true := by simp; omega
        have hk0 : (0 : Int) ≤ (k : Int) := by omega
        have hk1 : (k : Int) < (n' : Int) := by omega
        have HS := Lib.hid (lastV_take ha)
        have b11 := Blk.new wr 64 #[.int .i64 a.s.w, .int .i64 a.s.l, .int .i64 a.s.n, .int .i64 a.v.k, .float .f64 a.v.n, .string a.v.t]
        have b9' := b9.alloc (.cells #[.int .i64 a.s.w, .int .i64 a.s.l, .int .i64 a.s.n, .int .i64 a.v.k, .float .f64 a.v.n, .string a.v.t] 64)
        have b8' := b8.alloc (.cells #[.int .i64 a.s.w, .int .i64 a.s.l, .int .i64 a.s.n, .int .i64 a.v.k, .float .f64 a.v.n, .string a.v.t] 64)
        have hb' := hb.alloc hzz (.cells #[.int .i64 a.s.w, .int .i64 a.s.l, .int .i64 a.s.n, .int .i64 a.v.k, .float .f64 a.v.n, .string a.v.t] 64)
        clear ha
        go_wp2
        generalize hg11 : wr.heap.size = g11 at *
        generalize (wr.alloc (.cells #[.int .i64 a.s.w, .int .i64 a.s.l, .int .i64 a.s.n, .int .i64 a.v.k, .float .f64 a.v.n, .string a.v.t] 64)) = wz at *
        obtain ⟨l11, x0, x1, x2, x3, x4, x5⟩ := b11.six
        obtain ⟨g9, y0, y1, y2, y3, y4, y5, y6⟩ := b9'.sevenC
        have ne9 : g11 ≠ w.heap.size + 1 + 1 := by have := b9.lt; omega
        have ne10 : ¬ w.heap.size + 1 + 1 = g11 := fun e => ne9 e.symm
        clear c0 c1 c2 c3 c4 c5
        refine wp_region_held_drew (S := fun w' => Blk w' g11 64 #[.int .i64 a.s.w, .int .i64 a.s.l, .int .i64 a.s.n, .int .i64 a.v.k, .float .f64 a.v.n, .string a.v.t]) (by kernel_rfl) b11 (fun hHeld => ?_)
        refine wpAnyH_take (i := 0) (oi := ⟨some 53, _, _, _, _, _⟩) (v := .pointer (some ⟨g11, 3, none⟩)) rfl (by kernel_rfl) (by kernel_rfl) (by kernel_rfl) (fun _ _ _ h => h) (Or.inl ⟨by kernel_rfl, fun w hSw => by clear hSw; go_simp⟩) hHeld ?_
        go_frame
        refine wpAnyH_take (i := 1) (oi := ⟨some 54, _, _, _, _, _⟩) rfl (by kernel_rfl) (by kernel_rfl) (by kernel_rfl) (fun _ _ _ h => h) (yieldsIf_load_mid (by kernel_rfl) _ _ rfl g11 3 rfl [.int .i64 a.v.k, .float .f64 a.v.n, .string a.v.t] _ (fun w h => h.range 3 _ (three_of rfl rfl rfl)) rfl rfl (by kernel_rfl)) hHeld ?_
        go_frame
        refine wpAnyH_take (i := 2) (oi := ⟨some 55, _, _, _, _, _⟩) (v := .pointer (some ⟨g11, 0, none⟩)) rfl (by kernel_rfl) (by kernel_rfl) (by kernel_rfl) (fun _ _ _ h => h) (Or.inl ⟨by kernel_rfl, fun w hSw => by clear hSw; go_simp⟩) hHeld ?_
        go_frame
        refine wpAnyH_take (i := 3) (oi := ⟨some 56, _, _, _, _, _⟩) rfl (by kernel_rfl) (by kernel_rfl) (by kernel_rfl) (fun _ _ _ h => h) (yieldsIf_load_mid (by kernel_rfl) _ _ rfl g11 0 rfl [.int .i64 a.s.w, .int .i64 a.s.l, .int .i64 a.s.n] _ (fun w h => h.range 0 _ (three_of rfl rfl rfl)) rfl rfl (by kernel_rfl)) hHeld ?_
        go_frame
        refine wpAnyH_take (i := 4) (oi := ⟨some 57, _, _, _, _, _⟩) (v := .pointer (some ⟨w.heap.size + 1 + 1, 1, none⟩)) rfl (by kernel_rfl) (by kernel_rfl) (by kernel_rfl) (fun _ _ _ h => h) (Or.inl ⟨by kernel_rfl, fun w hSw => by clear hSw; go_simp⟩) hHeld ?_
        go_frame
        have b9a := b9'.drew.setCells3 (x := .int .i64 a.v.k) (y := .float .f64 a.v.n) (z := .string a.v.t)
        have b11a := b11.drew.setCells3_far (o := 1) (x := .int .i64 a.v.k) (y := .float .f64 a.v.n) (z := .string a.v.t) ne9
        have b8a := b8'.drew.setCells3_far (b := w.heap.size + 1 + 1) (o := 1) (x := .int .i64 a.v.k) (y := .float .f64 a.v.n) (z := .string a.v.t) (by omega)
        have hba := below_setCells3 (b := w.heap.size + 1 + 1) (o := 1) (x := .int .i64 a.v.k) (y := .float .f64 a.v.n) (z := .string a.v.t) hb'.drew (by omega)
        refine wpAnyH_store_mid (i := 5) (by kernel_rfl) rfl rfl _ _ _ rfl (w.heap.size + 1 + 1) 1 #[.int .i64 a.v.k, .float .f64 a.v.n, .string a.v.t] rfl rfl (b9'.drew.there 1 3 (by simp)) (by kernel_rfl) (by kernel_rfl) b11a ?_
        go_frame
        generalize (wz.drew.setCells (w.heap.size + 1 + 1) 1 [.int .i64 a.v.k, .float .f64 a.v.n, .string a.v.t]) = wq at *
        refine wpAnyH_take (i := 6) (oi := ⟨some 58, _, _, _, _, _⟩) (v := .pointer (some ⟨w.heap.size + 1 + 1, 4, none⟩)) rfl (by kernel_rfl) (by kernel_rfl) (by kernel_rfl) (fun _ _ _ h => h) (Or.inl ⟨by kernel_rfl, fun w hSw => by clear hSw; go_simp⟩) b11a ?_
        go_frame
        have b9c := b9a.setCells3' (x := .int .i64 a.s.w) (y := .int .i64 a.s.l) (z := .int .i64 a.s.n)
        have b11c := b11a.setCells3_far (b := w.heap.size + 1 + 1) (o := 4) (x := .int .i64 a.s.w) (y := .int .i64 a.s.l) (z := .int .i64 a.s.n) ne9
        have b8c := b8a.setCells3_far (b := w.heap.size + 1 + 1) (o := 4) (x := .int .i64 a.s.w) (y := .int .i64 a.s.l) (z := .int .i64 a.s.n) (by omega)
        have hbc := below_setCells3 (b := w.heap.size + 1 + 1) (o := 4) (x := .int .i64 a.s.w) (y := .int .i64 a.s.l) (z := .int .i64 a.s.n) hba (by omega)
        refine wpAnyH_store_mid (i := 7) (by kernel_rfl) rfl rfl _ _ _ rfl (w.heap.size + 1 + 1) 4 #[.int .i64 a.s.w, .int .i64 a.s.l, .int .i64 a.s.n] rfl rfl (b9a.there 4 3 (by simp)) (by kernel_rfl) (by kernel_rfl) b11c ?_
        generalize (wq.setCells (w.heap.size + 1 + 1) 4 [.int .i64 a.s.w, .int .i64 a.s.l, .int .i64 a.s.n]) = wp at *
        refine wpAnyH_done (by kernel_rfl) ?_ _
        go_frame
        go_wp2
        go_roundw
        case rel =>
          refine ⟨k + 1, by omega, by go_num, b8c, ?_, hbc⟩
          rw [HS.out]
          exact b9c
        case measure => simp [intOf]; omega
      · have hd1 : decide ((k : Int) < (n' : Int)) = false := by simp; omega
        rw [List.take_of_length_le (by omega)] at b9
        obtain ⟨g9, x0, x1, x2, x3, x4, x5, x6⟩ := b9.sevenC
        have l8 := b8.lt
        go_wp2_with (refine wpList_store_row rfl 147 _ _ rfl _ _ rfl rfl _ _ b8 (by kernel_rfl) (by kernel_rfl) (by kernel_rfl) ?_)
        refine post_cell rfl (by rfl) (b8.setRow _) rfl rfl (by kernel_rfl) ?_
        rw [HV.out]
        exact ⟨rfl, below_setRow hb (by omega) _⟩

set_option maxRecDepth 100000 in
set_option maxHeartbeats 1000000 in
theorem rnewest_any (g : Nat) (B1 B2 : Option Addr) (m1 d1 m2 d2 : Nat) (L : Sp) (Hl : List Hs) (Pl : List Pn) (key : ByteArray) (w : World) (h : RSt w g B1 m1 d1 B2 m2 d2 L Hl Pl) :
    Calls Tryz.prog 101 #[.pointer (some ⟨g, 0, none⟩), .string key] w fun e w' => e = .returned (.agg (seenArr key (lastV (rvers key Hl)))) ∧ Below w.heap.size w w' := by
  have hX : Below w.heap.size w (w.alloc (.cells (seenArr ⟨#[]⟩ zeroVn) 147)) := by go_grown
  have i4 := Blk.new w 147 (seenArr ⟨#[]⟩ zeroVn)
  have hN := rupto_any g B1 B2 m1 d1 m2 d2 L Hl Pl key ⟨0, 0, 0⟩ _ (h.below hX)
  go_enter Tryz.func101, Tryz.ntmps101
  go_wp2_with (go_at_call 125; fail)
  refine hN.mono ?_
  rintro e w1 ⟨rfl, hb⟩
  have j4 := i4.below hb i4.lt
  go_wp2_with (refine wpList_store_row rfl 147 _ _ rfl _ _ rfl rfl _ _ j4 (by kernel_rfl) (by kernel_rfl) (by kernel_rfl) ?_)
  refine post_cell rfl (by rfl) (j4.setRow _) rfl rfl (by kernel_rfl) ?_
  exact ⟨rfl, below_setRow (hX.trans (hb.mono hX.size)) (by omega) _⟩
end Go.Proofs.YtipacjbegfingaaGreat
