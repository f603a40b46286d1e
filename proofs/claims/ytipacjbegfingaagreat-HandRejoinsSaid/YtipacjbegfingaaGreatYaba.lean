/- The walk of Split. -/
import Derived.Sort.Walk0
import Derived.Test.YtipacjbegfingaaGreatYaac
import Derived.Test.YtipacjbegfingaaGreatYaaj
namespace Go.Proofs.YtipacjbegfingaaGreat
open Go.RowKit Fl
attribute [local go_sem] run_store_float
def splitBad (r : Rg) (x : Nat) (child : Int) : Bool := decide (r.ep = 9223372036854775807) || !mayR r || decide (child < 1) || decide (12 < child) || decide (child = r.id) || !ptB x
def splitE (r : Rg) (x : Nat) (child : Int) : Int := if splitBad r x child then 1 else if flt r.lo x && flt x r.hi then 0 else 24
def splitL (r : Rg) (x : Nat) (child : Int) : Rg := if splitE r x child = 0 then ⟨r.id, r.ep + 1, r.lo, x⟩ else ⟨0, 0, 0, 0⟩
def splitU (r : Rg) (x : Nat) (child : Int) : Rg := if splitE r x child = 0 then ⟨child, 0, x, r.hi⟩ else ⟨0, 0, 0, 0⟩

theorem split1 {r : Rg} {x : Nat} {child : Int} (h : splitBad r x child = true) : splitL r x child = ⟨0, 0, 0, 0⟩ ∧ splitU r x child = ⟨0, 0, 0, 0⟩ ∧ splitE r x child = 1 := by
  have e : splitE r x child = 1 := by unfold splitE; rw [h]; rfl
  unfold splitL splitU; rw [e]; exact ⟨rfl, rfl, rfl⟩
theorem split24 {r : Rg} {x : Nat} {child : Int} (h : splitBad r x child = false) (h2 : (flt r.lo x && flt x r.hi) = false) : splitL r x child = ⟨0, 0, 0, 0⟩ ∧ splitU r x child = ⟨0, 0, 0, 0⟩ ∧ splitE r x child = 24 := by
  have e : splitE r x child = 24 := by unfold splitE; rw [h, h2]; rfl
  unfold splitL splitU; rw [e]; exact ⟨rfl, rfl, rfl⟩
theorem split0 {r : Rg} {x : Nat} {child : Int} (h : splitBad r x child = false) (h2 : (flt r.lo x && flt x r.hi) = true) : splitL r x child = ⟨r.id, r.ep + 1, r.lo, x⟩ ∧ splitU r x child = ⟨child, 0, x, r.hi⟩ ∧ splitE r x child = 0 := by
  have e : splitE r x child = 0 := by unfold splitE; rw [h, h2]; rfl
  unfold splitL splitU; rw [e]; exact ⟨rfl, rfl, rfl⟩

theorem sp1 {r : Rg} {x : Nat} {child : Int} {w w' : World} (h : splitBad r x child = true) (hb : Below w.heap.size w w') :
    Ending.returned (.tuple #[Rg.val ⟨0, 0, 0, 0⟩, Rg.val ⟨0, 0, 0, 0⟩, .int .i64 1]) = Ending.returned (.tuple #[(splitL r x child).val, (splitU r x child).val, .int .i64 (splitE r x child)]) ∧ Below w.heap.size w w' := by
  obtain ⟨a, b, c⟩ := split1 h; rw [a, b, c]; exact ⟨rfl, hb⟩
theorem sp24 {r : Rg} {x : Nat} {child : Int} {w w' : World} (h : splitBad r x child = false) (h2 : (flt r.lo x && flt x r.hi) = false) (hb : Below w.heap.size w w') :
    Ending.returned (.tuple #[Rg.val ⟨0, 0, 0, 0⟩, Rg.val ⟨0, 0, 0, 0⟩, .int .i64 24]) = Ending.returned (.tuple #[(splitL r x child).val, (splitU r x child).val, .int .i64 (splitE r x child)]) ∧ Below w.heap.size w w' := by
  obtain ⟨a, b, c⟩ := split24 h h2; rw [a, b, c]; exact ⟨rfl, hb⟩
theorem sp0 {r : Rg} {x : Nat} {child : Int} {w w' : World} (h : splitBad r x child = false) (h2 : (flt r.lo x && flt x r.hi) = true) (hb : Below w.heap.size w w') :
    Ending.returned (.tuple #[Rg.val ⟨r.id, r.ep + 1, r.lo, x⟩, Rg.val ⟨child, 0, x, r.hi⟩, .int .i64 0]) = Ending.returned (.tuple #[(splitL r x child).val, (splitU r x child).val, .int .i64 (splitE r x child)]) ∧ Below w.heap.size w w' := by
  obtain ⟨a, b, c⟩ := split0 h h2; rw [a, b, c]; exact ⟨rfl, hb⟩
/-- the tests of Split, as the walk leaves them -/
theorem sbad {r : Rg} {x : Nat} {child : Int} (h : ((((r.ep == 9223372036854775807) = true ∨ child < 1) ∨ 12 < child) ∨ (child == r.id) = true) ∨ (!ptB x) = true) : splitBad r x child = true := by
  unfold splitBad; simp at h ⊢; rcases h with (((h | h) | h) | h) | h <;> simp [h]
theorem sgood {r : Rg} {x : Nat} {child : Int} (hm : mayR r = true) (h : ((((r.ep == 9223372036854775807) = false ∧ 1 ≤ child) ∧ child ≤ 12) ∧ (child == r.id) = false) ∧ (!ptB x) = false) : splitBad r x child = false := by
  unfold splitBad; simp at h ⊢; simp [hm, h]
theorem fgl {x y : Nat} (h : FloatKind.f64.format.order x y = some Ordering.gt) : flt y x = true := by rw [← fgt_flt]; unfold fgt; rw [h]; rfl
theorem fngl {x y : Nat} (h : ¬ FloatKind.f64.format.order x y = some Ordering.gt) : flt y x = false := by rw [← fgt_flt]; unfold fgt; simpa using h

set_option maxHeartbeats 2000000 in
theorem split_any (r : Rg) (x : Nat) (child : Int) (w : World) (hok : r.ok) (hx : x < 18446744073709551616) :
    Calls Tryz.prog 34 #[r.val, .float .f64 x, .int .i64 child] w fun e w' => e = .returned (.tuple #[(splitL r x child).val, (splitU r x child).val, .int .i64 (splitE r x child)]) ∧ Below w.heap.size w w' := by
  have HX := Lib.hid hx; clear hx
  have hep := hok.2.1.2
  have hep0 := hok.2.1.1
  go_enter Tryz.func34, Tryz.ntmps34
  go_wp2_with (first
    | ((with_reducible refine (may_any r _ hok).mono ?_); rintro e w1 ⟨rfl, rfl⟩)
    | ((with_reducible refine (point_any x _ HX.out).mono ?_); rintro e w1 ⟨rfl, rfl⟩))
  · go_returns
    exact sp1 (by simp [splitBad, *]) (by go_grown)
  · go_returns
    exact sp1 (by simp [splitBad, *]) (by go_grown)
  · go_returns
    exact sp1 (sbad ‹_›) (by go_grown)
  · go_returns
    rename_i h
    exact sp24 (sgood ‹_› ‹_›) (by rw [Bool.and_eq_false_iff]; right; unfold flt; simpa using h) (by go_grown)
  · go_region
    all_goals go_wp2
    all_goals go_returns
    exact sp0 (sgood ‹_› ‹_›) (by rename_i h; rw [fgl ‹_›]; unfold flt; simpa using h) (by go_grown)
  · go_returns
    exact sp24 (sgood ‹_› ‹_›) (by rw [fngl ‹_›]; rfl) (by go_grown)
  · go_returns
    exact sp1 (by simp [splitBad, *]) (by go_grown)
  · go_returns
    exact sp1 (by simp [splitBad, *]) (by go_grown)
  · go_returns
    exact sp1 (by simp [splitBad, *]) (by go_grown)
end Go.Proofs.YtipacjbegfingaaGreat
/- Plain law: the parts of a state that may be, by any choice of keys, may be; what Divide tells; a state divided at two points. -/
namespace Go.Proofs.YtipacjbegfingaaGreat
set_option linter.unusedVariables false
open Go.RowKit Fl

theorem bl_trans {a b c : ByteArray} (h1 : bl a b = true) (h2 : bl b c = true) : bl a c = true := by
  unfold bl at *
  rw [bytesLess_eq, decide_eq_true_eq] at *
  exact List.lt_trans h1 h2
theorem riseFrom_weak {p : Option ByteArray} {k : ByteArray} {l : List ByteArray} (hp : ∀ q, p = some q → bl q k = true) (h : riseFrom (some k) l = true) : riseFrom p l = true := by
  cases l with
  | nil => rfl
  | cons a l =>
    have h' : (keyB a && bl k a && riseFrom (some a) l) = true := h
    simp only [Bool.and_eq_true] at h'
    obtain ⟨⟨h1, h2⟩, h3⟩ := h'
    cases p with
    | none => show (keyB a && true && riseFrom (some a) l) = true; rw [h1, h3]; rfl
    | some q => show (keyB a && bl q a && riseFrom (some a) l) = true; rw [h1, h3, bl_trans (hp q rfl) h2]; rfl
theorem riseFrom_filter (f : ByteArray → Bool) : ∀ (l : List ByteArray) (p : Option ByteArray), riseFrom p l = true → riseFrom p (l.filter f) = true := by
  intro l
  induction l with
  | nil => intro p _; rfl
  | cons a l ih =>
    intro p h
    by_cases hf : f a = true
    · rw [List.filter_cons_of_pos hf]
      cases p with
      | none =>
        have h' : (keyB a && true && riseFrom (some a) l) = true := h
        rw [Bool.and_eq_true] at h'
        show (keyB a && true && riseFrom (some a) (l.filter f)) = true
        rw [Bool.and_eq_true]
        exact ⟨h'.1, ih _ h'.2⟩
      | some q =>
        have h' : (keyB a && bl q a && riseFrom (some a) l) = true := h
        rw [Bool.and_eq_true] at h'
        show (keyB a && bl q a && riseFrom (some a) (l.filter f)) = true
        rw [Bool.and_eq_true]
        exact ⟨h'.1, ih _ h'.2⟩
    · rw [List.filter_cons_of_neg hf]
      cases p with
      | none =>
        have h' : (keyB a && true && riseFrom (some a) l) = true := h
        rw [Bool.and_eq_true] at h'
        exact ih _ (riseFrom_weak (fun q e => by cases e) h'.2)
      | some q =>
        have h' : (keyB a && bl q a && riseFrom (some a) l) = true := h
        rw [Bool.and_eq_true, Bool.and_eq_true] at h'
        exact ih _ (riseFrom_weak (fun q' e => by injection e with e; subst e; exact h'.1.2) h'.2)
theorem riseB_filter (f : ByteArray → Bool) {l : List ByteArray} (h : riseB l = true) : riseB (l.filter f) = true := by
  unfold riseB at *
  rw [Bool.and_eq_true, decide_eq_true_eq] at *
  exact ⟨riseFrom_filter f l none h.1, by have := List.length_filter_le f l; omega⟩

def hsF (f : ByteArray → Bool) (H : List Hs) : List Hs := H.filter fun h => f h.key
def wtF (f : ByteArray → Bool) (l : List Wt) : List Wt := l.filter fun a => f a.key
def pnF (f : ByteArray → Bool) (p : Pn) : Pn := ⟨p.t, p.s, p.r.filter f, wtF f p.w⟩
theorem wtF_keys (f : ByteArray → Bool) : ∀ l : List Wt, (wtF f l).map (·.key) = (l.map (·.key)).filter f := by
  intro l
  unfold wtF
  induction l with
  | nil => rfl
  | cons a l ih =>
    by_cases hf : f a.key = true
    · rw [List.filter_cons_of_pos (by exact hf), List.map_cons, List.map_cons, List.filter_cons_of_pos hf, ih]
    · rw [List.filter_cons_of_neg (by exact hf), List.map_cons, List.filter_cons_of_neg hf, ih]
theorem allMay_mem : ∀ {l : List Wt}, allMay l = true ↔ ∀ a ∈ l, a.v.may = true := by
  intro l
  induction l with
  | nil => simp [allMay]
  | cons a l ih =>
    show (a.v.may && allMay l) = true ↔ _
    rw [Bool.and_eq_true, ih]
    simp
theorem pendE_zero {p : Pn} : pendE p = 0 ↔ p.t.may = true ∧ p.s.may = true ∧ p.s.zero = false ∧ riseB p.r = true ∧ riseB (p.w.map (·.key)) = true ∧ allMay p.w = true := by
  unfold pendE
  cases p.t.may <;> cases p.s.may <;> cases p.s.zero <;> cases riseB p.r <;> cases riseB (p.w.map (·.key)) <;> cases allMay p.w <;> simp
theorem pendE_pnF (f : ByteArray → Bool) {p : Pn} (h : pendE p = 0) : pendE (pnF f p) = 0 := by
  rw [pendE_zero] at *
  obtain ⟨h1, h2, h3, h4, h5, h6⟩ := h
  refine ⟨h1, h2, h3, riseB_filter f h4, ?_, ?_⟩
  · show riseB ((wtF f p.w).map (·.key)) = true
    rw [wtF_keys]
    exact riseB_filter f h5
  · rw [allMay_mem] at *
    exact fun a ha => h6 a (List.mem_filter.1 ha).1
theorem wrL_F {f : ByteArray → Bool} {k : ByteArray} {l : List Wt} (h : wrL k (wtF f l) = true) : wrL k l = true := by
  unfold wrL at *
  rw [List.any_eq_true] at *
  obtain ⟨a, ha, e⟩ := h
  exact ⟨a, (List.mem_filter.1 ha).1, e⟩
theorem inL_F {f : ByteArray → Bool} {k : ByteArray} {l : List ByteArray} (h : inL k (l.filter f) = true) : inL k l = true := by
  unfold inL at *
  rw [List.any_eq_true] at *
  obtain ⟨a, ha, e⟩ := h
  exact ⟨a, (List.mem_filter.1 ha).1, e⟩
theorem clashB_F {f : ByteArray → Bool} {p x : Pn} (h : clashB (pnF f p) (pnF f x) = true) : clashB p x = true := by
  unfold clashB at *
  rw [Bool.or_eq_true, List.any_eq_true, List.any_eq_true] at *
  rcases h with ⟨a, ha, h⟩ | ⟨k, hk, h⟩
  · refine .inl ⟨a, (List.mem_filter.1 ha).1, ?_⟩
    rw [Bool.or_eq_true] at *
    rcases h with h | h
    · exact .inl (wrL_F h)
    · exact .inr (inL_F h)
  · exact .inr ⟨k, (List.mem_filter.1 hk).1, wrL_F h⟩
theorem versOf_F {f : ByteArray → Bool} {key : ByteArray} (hf : f key = true) (H : List Hs) : versOf (hsF f H) key = versOf H key := by
  unfold versOf hsF
  generalize ([] : List Vn) = acc
  induction H generalizing acc with
  | nil => rfl
  | cons h H ih =>
    rw [List.foldl_cons]
    by_cases hk : f h.key = true
    · rw [List.filter_cons_of_pos (by exact hk), List.foldl_cons]
      exact ih _
    · rw [List.filter_cons_of_neg (by exact hk)]
      have hne : (h.key.toList == key.toList) = false := by
        rw [Bool.eq_false_iff]
        intro e
        exact hk (by rw [bytes_toList (beq_iff_eq.1 e)]; exact hf)
      rw [hne]
      exact ih _
theorem oldB_F {f : ByteArray → Bool} {H : List Hs} {x : Pn} (h : oldB (hsF f H) (pnF f x) = true) : oldB H x = true := by
  unfold oldB at *
  rw [List.any_eq_true] at *
  obtain ⟨a, ha, e⟩ := h
  obtain ⟨h1, h2⟩ := List.mem_filter.1 ha
  rw [versOf_F h2] at e
  exact ⟨a, h1, e⟩
theorem pendsE_cons {H : List Hs} {m l : List Pn} {x : Pn} : pendsE H m (x :: l) = 0 ↔ pendE x = 0 ∧ (m.any fun y => decide (y.t = x.t)) = false ∧ lockedB m x = false ∧ oldB H x = false ∧ pendsE H (m ++ [x]) l = 0 := by
  show (if pendE x ≠ 0 then pendE x else if (m.any fun y => decide (y.t = x.t)) then 9 else if lockedB m x then 18 else if oldB H x then 20 else pendsE H (m ++ [x]) l) = 0 ↔ _
  by_cases h : pendE x = 0
  · rw [if_neg (fun hn => hn h)]
    cases (m.any fun y => decide (y.t = x.t)) <;> cases lockedB m x <;> cases oldB H x <;> simp [h]
  · rw [if_pos h]
    simp [h]
theorem pends_F (f : ByteArray → Bool) (g : Pn → Bool) (H : List Hs) : ∀ (l m : List Pn), pendsE H m l = 0 → pendsE (hsF f H) ((m.map (pnF f)).filter g) ((l.map (pnF f)).filter g) = 0 := by
  intro l
  induction l with
  | nil => intro m _; rfl
  | cons x l ih =>
    intro m h
    rw [pendsE_cons] at h
    obtain ⟨h1, h2, h3, h4, h5⟩ := h
    have ih' := ih _ h5
    rw [List.map_append, List.filter_append] at ih'
    rw [List.map_cons]
    by_cases hg : g (pnF f x) = true
    · rw [List.filter_cons_of_pos hg, pendsE_cons]
      refine ⟨pendE_pnF f h1, ?_, ?_, ?_, ?_⟩
      · rw [List.any_eq_false] at *
        intro y hy
        obtain ⟨hy1, _⟩ := List.mem_filter.1 hy
        obtain ⟨z, hz, rfl⟩ := List.mem_map.1 hy1
        exact h2 z hz
      · unfold lockedB at *
        rw [List.any_eq_false] at *
        intro y hy
        obtain ⟨hy1, _⟩ := List.mem_filter.1 hy
        obtain ⟨z, hz, rfl⟩ := List.mem_map.1 hy1
        exact fun e => h3 z hz (clashB_F e)
      · rw [Bool.eq_false_iff]
        intro e
        rw [oldB_F e] at h4
        cases h4
      · have e : ([x].map (pnF f)).filter g = [pnF f x] := by rw [List.map_cons, List.map_nil, List.filter_cons_of_pos hg]; rfl
        rw [e] at ih'
        exact ih'
    · rw [List.filter_cons_of_neg hg]
      have e : ([x].map (pnF f)).filter g = [] := by rw [List.map_cons, List.map_nil, List.filter_cons_of_neg hg]; rfl
      rw [e, List.append_nil] at ih'
      exact ih'
theorem histB_weak {p k : ByteArray} {h : Hs} (hp : bl p k = true) (hh : histB k h = true) : histB p h = true := by
  unfold histB at *
  simp only [← bl_le] at *
  simp only [Bool.and_eq_true] at *
  exact ⟨⟨⟨hh.1.1.1, bl_trans hp hh.1.1.2⟩, hh.1.2⟩, hh.2⟩
theorem histB_lt {p : ByteArray} {h : Hs} (hh : histB p h = true) : bl p h.key = true := by
  unfold histB at hh
  simp only [← bl_le] at hh
  simp only [Bool.and_eq_true] at hh
  exact hh.1.1.2
theorem histsB_weak {p k : ByteArray} {l : List Hs} (hp : bl p k = true) (h : histsB k l = true) : histsB p l = true := by
  cases l with
  | nil => rfl
  | cons a l =>
    have h' : (histB k a && histsB a.key l) = true := h
    rw [Bool.and_eq_true] at h'
    show (histB p a && histsB a.key l) = true
    rw [histB_weak hp h'.1, h'.2]; rfl
theorem histsB_F (f : ByteArray → Bool) : ∀ (l : List Hs) (p : ByteArray), histsB p l = true → histsB p (hsF f l) = true := by
  intro l
  unfold hsF
  induction l with
  | nil => intro p _; rfl
  | cons a l ih =>
    intro p h
    have h' : (histB p a && histsB a.key l) = true := h
    rw [Bool.and_eq_true] at h'
    by_cases hf : f a.key = true
    · rw [List.filter_cons_of_pos (by exact hf)]
      show (histB p a && histsB a.key _) = true
      rw [h'.1, ih _ h'.2]; rfl
    · rw [List.filter_cons_of_neg (by exact hf)]
      exact ih p (histsB_weak (histB_lt h'.1) h'.2)
theorem load_F (f : ByteArray → Bool) (g : Pn → Bool) {H : List Hs} {Q : List Pn} (h : loadE H Q = 0) : loadE (hsF f H) ((Q.map (pnF f)).filter g) = 0 := by
  unfold loadE at *
  by_cases hh : histsB ⟨#[]⟩ H = true
  · rw [if_pos hh] at h
    rw [if_pos (histsB_F f H _ hh)]
    exact pends_F f g H Q [] h
  · rw [if_neg hh] at h; cases h

/-- does it read or write something? -/
def fullP (p : Pn) : Bool := decide (0 < p.r.length + p.w.length)
/-- a state's part -/
def partS (f : ByteArray → Bool) (g : Pn → Bool) (r : Rg) (a b : Sp) (s : Stt) : Stt := ⟨r, a, b, hsF f s.h, (s.p.map (pnF f)).filter g⟩
theorem mayS_part (f : ByteArray → Bool) (g : Pn → Bool) (r : Rg) (a b : Sp) {s : Stt} (h : mayS s = true) (hr : mayR r = true) (ha : a.may = true) (hb : b.may = true) (hin : ∀ k, inK s.r k = true → f k = true → inK r k = true) : mayS (partS f g r a b s) = true := by
  unfold mayS at *
  simp only [Bool.and_eq_true, decide_eq_true_eq, List.all_eq_true] at *
  obtain ⟨⟨⟨⟨⟨h1, h2⟩, h3⟩, h4⟩, h5⟩, h6⟩ := h
  refine ⟨⟨⟨⟨⟨hr, ha⟩, hb⟩, load_F f g h4⟩, ?_⟩, ?_⟩
  · intro x hx
    obtain ⟨hx1, hx2⟩ := List.mem_filter.1 hx
    exact hin _ (h5 x hx1) hx2
  · intro x hx
    obtain ⟨hx1, _⟩ := List.mem_filter.1 hx
    obtain ⟨y, hy, rfl⟩ := List.mem_map.1 hx1
    have h7 := h6 y hy
    unfold inP at *
    simp only [Bool.and_eq_true, List.all_eq_true] at *
    refine ⟨fun k hk => ?_, fun a ha => ?_⟩
    · obtain ⟨k1, k2⟩ := List.mem_filter.1 hk
      exact hin _ (h7.1 k k1) k2
    · obtain ⟨k1, k2⟩ := List.mem_filter.1 ha
      exact hin _ (h7.2 a k1) k2
def yesP (_ : Pn) : Bool := true
def zeroS : Stt := ⟨⟨0, 0, 0, 0⟩, ⟨0, 0, 0⟩, ⟨0, 0, 0⟩, [], []⟩
def leftS (s : Stt) (x : Nat) (child : Int) : Stt := ⟨splitL s.r x child, s.f, s.c, hsF (fun k => belowB k x) s.h, s.p.map (pnF fun k => belowB k x)⟩
def rightS (s : Stt) (x : Nat) (child : Int) (st fl : Sp) : Stt := ⟨splitU s.r x child, fl, st, hsF (fun k => !belowB k x) s.h, (s.p.map (pnF fun k => !belowB k x)).filter fullP⟩
theorem filter_yes : ∀ l : List Pn, l.filter yesP = l := fun l => by
  rw [List.filter_eq_self]; intro _ _; rfl
theorem leftS_part (s : Stt) (x : Nat) (child : Int) : leftS s x child = partS (fun k => belowB k x) yesP (splitL s.r x child) s.f s.c s := by
  unfold leftS partS; rw [filter_yes]
theorem rightS_part (s : Stt) (x : Nat) (child : Int) (st fl : Sp) : rightS s x child st fl = partS (fun k => !belowB k x) fullP (splitU s.r x child) fl st s := rfl
theorem split_zero {r : Rg} {x : Nat} {child : Int} (h : splitE r x child = 0) : r.ep ≠ 9223372036854775807 ∧ mayR r = true ∧ 1 ≤ child ∧ child ≤ 12 ∧ child ≠ r.id ∧ ptB x = true ∧ flt r.lo x = true ∧ flt x r.hi = true ∧
    splitL r x child = ⟨r.id, r.ep + 1, r.lo, x⟩ ∧ splitU r x child = ⟨child, 0, x, r.hi⟩ := by
  have hL : splitL r x child = ⟨r.id, r.ep + 1, r.lo, x⟩ := by unfold splitL; rw [if_pos h]
  have hU : splitU r x child = ⟨child, 0, x, r.hi⟩ := by unfold splitU; rw [if_pos h]
  unfold splitE at h
  by_cases hb : splitBad r x child = true
  · rw [if_pos hb] at h; omega
  · rw [if_neg hb] at h
    by_cases hf : (flt r.lo x && flt x r.hi) = true
    · rw [Bool.and_eq_true] at hf
      unfold splitBad at hb
      simp at hb
      obtain ⟨⟨⟨⟨⟨b1, b2⟩, b3⟩, b4⟩, b5⟩, b6⟩ := hb
      exact ⟨b1, b2, by omega, by omega, b5, b6, hf.1, hf.2, hL, hU⟩
    · rw [if_neg hf] at h; omega
theorem mayS_r {s : Stt} (h : mayS s = true) : mayR s.r = true ∧ s.f.may = true ∧ s.c.may = true := by
  unfold mayS at h
  simp only [Bool.and_eq_true] at h
  exact ⟨h.1.1.1.1.1, h.1.1.1.1.2, h.1.1.1.2⟩
theorem mayR_mk {i e : Int} {a b : Nat} (h1 : 1 ≤ i) (h2 : i ≤ 12) (h3 : 0 ≤ e) (h4 : ptB a = true) (h5 : ptB b = true) (h6 : flt a b = true) : mayR ⟨i, e, a, b⟩ = true := by
  unfold mayR
  simp only [Bool.and_eq_true, decide_eq_true_eq]
  exact ⟨⟨⟨⟨⟨h1, h2⟩, h3⟩, h4⟩, h5⟩, h6⟩
theorem mayR_of {r : Rg} (h : mayR r = true) : 1 ≤ r.id ∧ r.id ≤ 12 ∧ 0 ≤ r.ep ∧ ptB r.lo = true ∧ ptB r.hi = true ∧ flt r.lo r.hi = true := by
  unfold mayR at h
  simp only [Bool.and_eq_true, decide_eq_true_eq] at h
  obtain ⟨⟨⟨⟨⟨h1, h2⟩, h3⟩, h4⟩, h5⟩, h6⟩ := h
  exact ⟨h1, h2, h3, h4, h5, h6⟩
theorem inR_left {r : Rg} {x y : Nat} {i e : Int} (h : inR r y = true) (hx : flt y x = true) : inR ⟨i, e, r.lo, x⟩ y = true := by
  unfold inR at *
  rw [Bool.and_eq_true] at *
  exact ⟨h.1, hx⟩
theorem inR_right {r : Rg} {x y : Nat} {i e : Int} (h : inR r y = true) (hp : ptB x = true) (hx : flt y x = false) : inR ⟨i, e, x, r.hi⟩ y = true := by
  unfold inR at *
  rw [Bool.and_eq_true] at *
  refine ⟨?_, h.2⟩
  have hx1 : x ≤ 9218868437227405312 := by unfold ptB at hp; rw [decide_eq_true_eq] at hp; omega
  have h2 := h.2
  simp only at *
  rw [flt_K] at hx h2
  rw [fgt_K, feq_K]
  rw [K_pos hx1] at *
  cases hk : K y with
  | none => rw [hk] at h2; simp at h2
  | some z =>
    rw [hk] at hx
    simp only [decide_eq_false_iff_not] at hx
    simp only [Bool.or_eq_true, decide_eq_true_eq]
    omega
/-- the halves may be -/
theorem left_may {s : Stt} {x : Nat} {child : Int} (h : mayS s = true) (he : splitE s.r x child = 0) : mayS (leftS s x child) = true := by
  obtain ⟨r1, r2, r3⟩ := mayS_r h
  obtain ⟨b1, b2, b3, b4, b5, b6, b7, b8, hL, hU⟩ := split_zero he
  obtain ⟨m1, m2, m3, m4, m5, m6⟩ := mayR_of r1
  rw [leftS_part]
  refine mayS_part _ _ _ _ _ h ?_ r2 r3 ?_
  · rw [hL]; exact mayR_mk m1 m2 (by omega) m4 b6 b7
  · intro k hk hb
    rw [hL]
    exact inR_left hk hb
theorem right_may {s : Stt} {x : Nat} {child : Int} {st fl : Sp} (h : mayS s = true) (he : splitE s.r x child = 0) (h1 : st.may = true) (h2 : fl.may = true) : mayS (rightS s x child st fl) = true := by
  obtain ⟨r1, r2, r3⟩ := mayS_r h
  obtain ⟨b1, b2, b3, b4, b5, b6, b7, b8, hL, hU⟩ := split_zero he
  obtain ⟨m1, m2, m3, m4, m5, m6⟩ := mayR_of r1
  rw [rightS_part]
  refine mayS_part _ _ _ _ _ h ?_ h2 h1 ?_
  · rw [hU]; exact mayR_mk b3 b4 (by omega) b6 m5 b8
  · intro k hk hb
    rw [hU]
    exact inR_right hk b6 (by unfold belowB at hb; simpa using hb)
end Go.Proofs.YtipacjbegfingaaGreat
