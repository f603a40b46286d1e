/- slices.IndexFunc over what is pending, with the closure that compares numbers and stamps. -/
import Derived.Test.YtipacjbegfingaaGreatYaag
import Derived.Test.YtipacjbegfingaaGreatYabe
import Derived.Test.YtipacjbegfingaaGreatYaci
import Derived.Test.YtipacjbegfingaaGreatYacj
import Derived.Test.YtipacjbegfingaaGreatYada
import Derived.Test.YtipacjbegfingaaGreatYade
namespace Go.Proofs.YtipacjbegfingaaGreat
set_option linter.unusedVariables false
open Go.RowKit
attribute [local go_sem] run_store_float

theorem spE_run (a t : Sp) (w : World) : (Op.equalIn 10000 26 (.agg #[.int .i64 a.w, .int .i64 a.l, .int .i64 a.n]) (.agg #[.int .i64 t.w, .int .i64 t.l, .int .i64 t.n])).run Tryz.prog w = .ok (decide (a = t)) w := by
  have e : decide (a = t) = ((a.w == t.w) && (a.l == t.l) && (a.n == t.n)) := by
    obtain ⟨a1, a2, a3⟩ := a
    obtain ⟨b1, b2, b3⟩ := t
    rw [Bool.eq_iff_iff]
    simp [and_assoc]
  rw [e]
  cases h1 : (a.w == t.w) <;> cases h2 : (a.l == t.l) <;> cases h3 : (a.n == t.n)
  all_goals simp [go_sem, h1, h2, h3]
def alikeP (x p : Pn) : Bool := decide (x.t = p.t) && decide (x.s = p.s)
set_option maxRecDepth 100000 in
set_option maxHeartbeats 2000000 in
theorem alike_clo (x p : Pn) (A1 A2 A3 A4 : Option Addr) (n1 n2 n3 n4 c1 c2 c3 c4 : Nat) (bx : Nat) (w : World) (hb : Blk w bx 45 (p.arr (.slice A3 n3 c3) (.slice A4 n4 c4))) :
    Calls Tryz.prog 21 #[x.val (.slice A1 n1 c1) (.slice A2 n2 c2), .pointer (some ⟨bx, 0, none⟩)] w fun e w' => e = .returned (.bool (alikeP x p)) ∧ Below w.heap.size w w' := by
  have hX : Below w.heap.size w (w.alloc (.cells (x.arr (.slice A1 n1 c1) (.slice A2 n2 c2)) 45)) := by go_grown
  have b1 := hb.below hX hb.lt
  have b0 : Blk (w.alloc (.cells (x.arr (.slice A1 n1 c1) (.slice A2 n2 c2)) 45)) w.heap.size 45 (x.arr (.slice A1 n1 c1) (.slice A2 n2 c2)) := Blk.new _ _ _
  have x0 : (w.alloc (.cells (x.arr (.slice A1 n1 c1) (.slice A2 n2 c2)) 45)).cell? ⟨w.heap.size, 0, none⟩ = some (.int .i64 x.t.c) := b0.cell 0
  have x1 : (w.alloc (.cells (x.arr (.slice A1 n1 c1) (.slice A2 n2 c2)) 45)).cell? ⟨w.heap.size, 1, none⟩ = some (.int .i64 x.t.l) := b0.cell 1
  have x2 : (w.alloc (.cells (x.arr (.slice A1 n1 c1) (.slice A2 n2 c2)) 45)).cell? ⟨w.heap.size, 2, none⟩ = some (.int .i64 x.t.s) := b0.cell 2
  have x3 : (w.alloc (.cells (x.arr (.slice A1 n1 c1) (.slice A2 n2 c2)) 45)).cell? ⟨w.heap.size, 3, none⟩ = some (.int .i64 x.s.w) := b0.cell 3
  have x4 : (w.alloc (.cells (x.arr (.slice A1 n1 c1) (.slice A2 n2 c2)) 45)).cell? ⟨w.heap.size, 4, none⟩ = some (.int .i64 x.s.l) := b0.cell 4
  have x5 : (w.alloc (.cells (x.arr (.slice A1 n1 c1) (.slice A2 n2 c2)) 45)).cell? ⟨w.heap.size, 5, none⟩ = some (.int .i64 x.s.n) := b0.cell 5
  have y0 : (w.alloc (.cells (x.arr (.slice A1 n1 c1) (.slice A2 n2 c2)) 45)).cell? ⟨bx, 0, none⟩ = some (.int .i64 p.t.c) := b1.cell 0
  have y1 : (w.alloc (.cells (x.arr (.slice A1 n1 c1) (.slice A2 n2 c2)) 45)).cell? ⟨bx, 1, none⟩ = some (.int .i64 p.t.l) := b1.cell 1
  have y2 : (w.alloc (.cells (x.arr (.slice A1 n1 c1) (.slice A2 n2 c2)) 45)).cell? ⟨bx, 2, none⟩ = some (.int .i64 p.t.s) := b1.cell 2
  have y3 : (w.alloc (.cells (x.arr (.slice A1 n1 c1) (.slice A2 n2 c2)) 45)).cell? ⟨bx, 3, none⟩ = some (.int .i64 p.s.w) := b1.cell 3
  have y4 : (w.alloc (.cells (x.arr (.slice A1 n1 c1) (.slice A2 n2 c2)) 45)).cell? ⟨bx, 4, none⟩ = some (.int .i64 p.s.l) := b1.cell 4
  have y5 : (w.alloc (.cells (x.arr (.slice A1 n1 c1) (.slice A2 n2 c2)) 45)).cell? ⟨bx, 5, none⟩ = some (.int .i64 p.s.n) := b1.cell 5
  have hr1 := fun w => txn_run x.t p.t w
  have hr2 := fun w => spE_run x.s p.s w
  have HA := Lib.hid (show alikeP x p = (decide (x.t = p.t) && decide (x.s = p.s)) from rfl)
  clear hb b0 b1
  generalize decide (x.t = p.t) = d1 at *
  generalize decide (x.s = p.s) = d2 at *
  cases d1 <;> cases d2
  all_goals
    go_enter Tryz.func21, Tryz.ntmps21
    go_upto_region 1 with fail
    generalize (w.alloc (.cells (x.arr (.slice A1 n1 c1) (.slice A2 n2 c2)) 45)) = W at *
    go_wp2
    go_ret
    rw [HA.out]
    exact ⟨rfl, hX⟩
def idxP (p : Pn) : Nat → List Pn → Int
  | _, [] => -1
  | k, x :: l => if alikeP x p = true then (k : Int) else idxP p (k + 1) l
theorem idxP_drop {p a : Pn} {l : List Pn} {k : Nat} (h : l[k]? = some a) : idxP p k (l.drop k) = if alikeP a p = true then (k : Int) else idxP p (k + 1) (l.drop (k + 1)) := by
  obtain ⟨h1, h2⟩ := List.getElem?_eq_some_iff.1 h
  rw [List.drop_eq_getElem_cons h1, h2]; rfl
def IdxR (p : Pn) (l : List Pn) (w : World) (i : Value) (wr : World) : Prop := ∃ k : Nat, k ≤ l.length ∧ i = .int .i64 (k : Int) ∧ idxP p k (l.drop k) = idxP p 0 l ∧ Below w.heap.size w wr
set_option maxRecDepth 100000 in
set_option maxHeartbeats 2000000 in
theorem indexP_any (p : Pn) (A A3 A4 : Option Addr) (n n3 n4 c c3 c4 : Nat) (l : List Pn) (bx : Nat) (w : World) (hb : Blk w bx 45 (p.arr (.slice A3 n3 c3) (.slice A4 n4 c4))) (h : Sl PnRel 8 w w.heap.size A n l) (hn : n ≤ 100000000) :
    Calls Tryz.prog 20 #[.slice A n c, .func (.func 21) #[] #[.pointer (some ⟨bx, 0, none⟩)]] w fun e w' => e = .returned (.int .i64 (idxP p 0 l)) ∧ Below w.heap.size w w' := by
  have hl := h.1
  have hge : n ≤ l.length := by omega
  have hle : l.length ≤ n := by omega
  clear hl
  go_enter Tryz.func20, Tryz.ntmps20
  go_wp2
  go_loopw [8] (fun i wr => IdxR p l w i wr) (fun i _ => n - (intOf i).toNat)
  case atStart => exact ⟨0, Nat.zero_le _, rfl, rfl, Below.refl _ _⟩
  case round =>
    obtain ⟨k, hk, rfl, hs, hbw⟩ := hrel
    by_cases hlt : k < n
    · obtain ⟨ad, a, A1, n1, c1, A2, n2, c2, rfl, ha, hbk, hxt, hxs, e0, e1, e2, e3, e4, e5, e6, e7, hn1, hc1, hs1, hn2, hc2, hs2⟩ := (h.below PnRel.kept hbw).pn hlt
      have hd1 : decide ((k : Int) < (n : Int)) = true := by simp; omega
      have hk0 : (0 : Int) ≤ (k : Int) := by omega
      have hk1 : (k : Int) < (n : Int) := by omega
      have hC := alike_clo a p A1 A2 A3 A4 n1 n2 n3 n4 c1 c2 c3 c4 bx wr (hb.below hbw hb.lt)
      rw [idxP_drop ha] at hs
      clear ha
      cases hq : alikeP a p
      · rw [hq] at hs hC
        have HS := Lib.hid (show idxP p (k + 1) (l.drop (k + 1)) = idxP p 0 l from hs)
        clear hs hq
        go_wp2_with ((with_reducible refine hC.mono ?_); rintro e w5 ⟨rfl, hb5⟩)
        go_roundw
        case rel => exact ⟨k + 1, by omega, by go_num, HS.out, hbw.trans (hb5.mono hbw.size)⟩
        case measure => simp [intOf]; omega
      · rw [hq] at hs hC
        have HS := Lib.hid (show (k : Int) = idxP p 0 l from hs)
        clear hs hq
        go_wp2_with ((with_reducible refine hC.mono ?_); rintro e w5 ⟨rfl, hb5⟩)
        go_ret
        rw [← HS.out]
        exact ⟨rfl, hbw.trans (hb5.mono hbw.size)⟩
    · have hd1 : decide ((k : Int) < (n : Int)) = false := by simp; omega
      rw [List.drop_of_length_le (by omega)] at hs
      have HS := Lib.hid (show (-1 : Int) = idxP p 0 l from hs)
      clear hs
      go_wp2
      go_ret
      rw [← HS.out]
      exact ⟨rfl, hbw⟩
end Go.Proofs.YtipacjbegfingaaGreat
/- Plain law of Rejoin: what it tells; two states beside one another hold no key in common. -/
namespace Go.Proofs.YtipacjbegfingaaGreat
set_option linter.unusedVariables false
open Go.RowKit Fl

/-- one of each number alone -/
def OneT (l : List Pn) : Prop := ∀ a ∈ l, ∀ b ∈ l, a.t = b.t → a = b
theorem pendsE_one {H : List Hs} : ∀ (l m : List Pn), pendsE H m l = 0 → OneT m → OneT (m ++ l) := by
  intro l
  induction l with
  | nil => intro m _ hm; rw [List.append_nil]; exact hm
  | cons x l ih =>
    intro m h hm
    obtain ⟨h1, h2, h3, h4, h5⟩ := pendsE_cons.1 h
    have hx : ∀ y ∈ m, ¬ y.t = x.t := fun y hy e => by
      have : (m.any fun y => decide (y.t = x.t)) = true := List.any_eq_true.2 ⟨y, hy, by simpa using e⟩
      rw [h2] at this; cases this
    have hm' : OneT (m ++ [x]) := fun a ha b hb e => by
      rcases List.mem_append.1 ha with a1 | a1 <;> rcases List.mem_append.1 hb with b1 | b1
      · exact hm a a1 b b1 e
      · rw [List.mem_singleton] at b1; rw [b1] at e; exact absurd e (hx a a1)
      · rw [List.mem_singleton] at a1; rw [a1] at e; exact absurd e.symm (hx b b1)
      · rw [List.mem_singleton] at a1 b1; rw [a1, b1]
    have := ih (m ++ [x]) h5 hm'
    rwa [List.append_assoc] at this
theorem load_parts {H : List Hs} {Q : List Pn} (h : loadE H Q = 0) : OneT Q ∧ histsB ⟨#[]⟩ H = true ∧ ∀ p ∈ Q, pendE p = 0 := by
  unfold loadE at h
  by_cases hh : histsB ⟨#[]⟩ H = true
  · rw [if_pos hh] at h
    have h1 := pendsE_one Q [] h (fun a ha => by cases ha)
    rw [List.nil_append] at h1
    refine ⟨h1, hh, ?_⟩
    clear h1 hh
    suffices hq : ∀ (l m : List Pn), pendsE H m l = 0 → ∀ p ∈ l, pendE p = 0 from hq Q [] h
    intro l
    induction l with
    | nil => intro m _ p hp; cases hp
    | cons x l ih =>
      intro m h p hp
      obtain ⟨h1, -, -, -, h5⟩ := pendsE_cons.1 h
      rcases List.mem_cons.1 hp with rfl | hp
      · exact h1
      · exact ih _ h5 p hp
  · rw [if_neg hh] at h; cases h
theorem mayS_parts {s : Stt} (h : mayS s = true) : mayR s.r = true ∧ loadE s.h s.p = 0 ∧ (∀ a ∈ s.h, inK s.r a.key = true) ∧ ∀ p ∈ s.p, (∀ k ∈ p.r, inK s.r k = true) ∧ ∀ a ∈ p.w, inK s.r a.key = true := by
  unfold mayS at h
  simp only [Bool.and_eq_true, decide_eq_true_eq, List.all_eq_true] at h
  obtain ⟨⟨⟨⟨⟨h1, h2⟩, h3⟩, h4⟩, h5⟩, h6⟩ := h
  refine ⟨h1, h4, h5, fun p hp => ?_⟩
  have := h6 p hp
  unfold inP at this
  simp only [Bool.and_eq_true, List.all_eq_true] at this
  exact this
/-- no key lies in two ranges, one beside the other -/
theorem inK_apart {r1 r2 : Rg} (h : r1.hi = r2.lo) {a b : ByteArray} (ha : inK r1 a = true) (hb : inK r2 b = true) : a ≠ b := by
  intro e
  subst e
  unfold inK inR at ha hb
  rw [Bool.and_eq_true] at ha hb
  have h1 := ha.2
  have h2 := hb.1
  rw [← h] at h2
  rw [flt_K] at h1
  rw [fgt_K, feq_K] at h2
  cases k1 : K (ofB a) with
  | none => rw [k1] at h1; simp at h1
  | some x =>
    cases k2 : K r1.hi with
    | none => rw [k1, k2] at h1; simp at h1
    | some y =>
      rw [k1, k2] at h1 h2
      simp only [decide_eq_true_eq, Bool.or_eq_true] at h1 h2
      omega
/-- two states beside one another: nothing in common -/
theorem rej_apart {l r : Stt} (hl : mayS l = true) (hr : mayS r = true) (h : l.r.hi = r.r.lo) : RiseK Hs.key l.h ∧ RiseK Hs.key r.h ∧ (∀ a ∈ l.h, ∀ b ∈ r.h, a.key ≠ b.key) ∧ (∀ x ∈ l.p, ∀ p ∈ r.p, Apart2 x p) ∧ OneT l.p ∧ OneT r.p ∧ ∀ x ∈ l.p, RiseK id x.r ∧ RiseK Wt.key x.w := by
  obtain ⟨-, a2, a3, a4⟩ := mayS_parts hl
  obtain ⟨-, b2, b3, b4⟩ := mayS_parts hr
  obtain ⟨a5, a6, a7⟩ := load_parts a2
  obtain ⟨b5, b6, b7⟩ := load_parts b2
  refine ⟨(histsB_riseK _ _ a6).1, (histsB_riseK _ _ b6).1, fun a ha b hb => inK_apart h (a3 a ha) (b3 b hb), fun x hx p hp => ?_, a5, b5, fun x hx => pend_riseK (a7 x hx)⟩
  obtain ⟨u1, u2⟩ := pend_riseK (a7 x hx)
  obtain ⟨v1, v2⟩ := pend_riseK (b7 p hp)
  exact ⟨u1, v1, u2, v2, fun a ha b hb => inK_apart h ((a4 x hx).1 a ha) ((b4 p hp).1 b hb), fun a ha b hb => inK_apart h ((a4 x hx).2 a ha) ((b4 p hp).2 b hb)⟩
/-- a pending one and its other half, if there is one -/
def joinP (x : Pn) : Option Pn → Pn
  | none => x
  | some p => ⟨x.t, x.s, mergeL id x.r p.r, mergeL Wt.key x.w p.w⟩
/-- what Rejoin tells -/
def rejE (l r : Stt) : Int := if !mayS l || !mayS r then 4 else if decide (l.r.hi ≠ r.r.lo) || decide (l.r.ep < 1) || decide (l.r.id = r.r.id) then 14 else if r.p.all fun p => l.p.any fun x => alikeP x p then 0 else 14
def rejS (l r : Stt) : Stt := ⟨⟨l.r.id, l.r.ep - 1, l.r.lo, r.r.hi⟩, l.f, l.c, mergeL Hs.key l.h r.h, l.p.map fun x => joinP x (r.p.find? fun p => decide (p.t = x.t))⟩
theorem idxP_neg (p : Pn) : ∀ (l : List Pn) (k : Nat), decide (idxP p k l < 0) = !l.any fun x => alikeP x p := by
  intro l
  induction l with
  | nil => intro k; rfl
  | cons a l ih =>
    intro k
    show decide ((if alikeP a p = true then (k : Int) else idxP p (k + 1) l) < 0) = _
    rw [List.any_cons]
    cases e : alikeP a p
    · rw [if_neg Bool.false_ne_true, ih (k + 1)]; rfl
    · rw [if_pos rfl]; simp
end Go.Proofs.YtipacjbegfingaaGreat
/- Plain law: numbers of what is pending are all apart. -/
namespace Go.Proofs.YtipacjbegfingaaGreat
set_option linter.unusedVariables false
open Go.RowKit Fl

theorem pends_pair {H : List Hs} : ∀ (l m : List Pn), pendsE H m l = 0 → (m.Pairwise fun a b => a.t ≠ b.t) → (m ++ l).Pairwise fun a b => a.t ≠ b.t := by
  intro l
  induction l with
  | nil => intro m _ hm; rw [List.append_nil]; exact hm
  | cons x l ih =>
    intro m h hm
    obtain ⟨h1, h2, h3, h4, h5⟩ := pendsE_cons.1 h
    have hx : ∀ y ∈ m, y.t ≠ x.t := fun y hy e => by
      have : (m.any fun y => decide (y.t = x.t)) = true := List.any_eq_true.2 ⟨y, hy, by simpa using e⟩
      rw [h2] at this; cases this
    have := ih (m ++ [x]) h5 (List.pairwise_append.2 ⟨hm, List.pairwise_singleton _ _, fun a ha b hb => by rw [List.mem_singleton] at hb; rw [hb]; exact hx a ha⟩)
    rwa [List.append_assoc] at this
theorem mayS_pair {s : Stt} (h : mayS s = true) : s.p.Pairwise fun a b => a.t ≠ b.t := by
  obtain ⟨-, h0, -⟩ := mayS_parts h
  unfold loadE at h0
  by_cases hh : histsB ⟨#[]⟩ s.h = true
  · rw [if_pos hh] at h0
    have := pends_pair s.p [] h0 List.Pairwise.nil
    rwa [List.nil_append] at this
  · rw [if_neg hh] at h0; cases h0
/-- what Rejoin tells, part by part -/
theorem rejE_may {l r : Stt} (h : mayS l = false ∨ mayS l = true ∧ mayS r = false) : rejE l r = 4 := by
  unfold rejE
  rcases h with h | ⟨h, h2⟩
  · rw [h]; rfl
  · rw [h, h2]; rfl
theorem rejE_meet {l r : Stt} (h : mayS l = true) (h2 : mayS r = true) (hb : l.r.hi ≠ r.r.lo ∨ l.r.hi = r.r.lo ∧ l.r.ep < 1 ∨ l.r.hi = r.r.lo ∧ 1 ≤ l.r.ep ∧ l.r.id = r.r.id) : rejE l r = 14 := by
  unfold rejE
  rw [h, h2]
  rcases hb with e | ⟨e, e2⟩ | ⟨e, e2, e3⟩
  · simp [e]
  · simp [e2]
  · simp [e3]
theorem rejE_like {l r : Stt} (h : mayS l = true) (h2 : mayS r = true) (hg : l.r.hi = r.r.lo ∧ 1 ≤ l.r.ep ∧ l.r.id ≠ r.r.id) : rejE l r = if (r.p.all fun p => l.p.any fun x => alikeP x p) = true then 0 else 14 := by
  unfold rejE
  have h3 : ¬ l.r.ep < 1 := by omega
  rw [h, h2]
  simp [hg.1, hg.2.2, h3]
end Go.Proofs.YtipacjbegfingaaGreat
/- The halves by their numbers: a map that Rejoin makes. -/
namespace Go.Proofs.YtipacjbegfingaaGreat
set_option linter.unusedVariables false
open Go.RowKit Fl
attribute [local go_sem] run_store_float

/-- a map of the call's own holds these, by their numbers -/
structure HalfM (w : World) (B base b : Nat) (m : List Pn) : Prop where
  lo : base ≤ b
  hi : B ≤ b
  lt : b < w.heap.size
  one : OneT m
  ps : ∃ D, w.ownsMap Tryz.prog 41 anyE b m.length D ∧ PendD w B D m
section
variable {w w' : World} {B base b : Nat} {m : List Pn}
theorem HalfM.keep (h : HalfM w B base b m) (hs : w.heap.size ≤ w'.heap.size) (hc : ∀ p : Addr, p.block < B → w'.cell? p = w.cell? p) (ho : ∀ D, w.ownsMap Tryz.prog 41 anyE b m.length D → w'.ownsMap Tryz.prog 41 anyE b m.length D) : HalfM w' B base b m := by
  obtain ⟨D, o, k⟩ := h.ps
  exact ⟨h.lo, h.hi, Nat.lt_of_lt_of_le h.lt hs, h.one, D, ho D o, k.keep hc⟩
theorem HalfM.below (h : HalfM w B base b m) (hb : Below w.heap.size w w') : HalfM w' B base b m :=
  h.keep hb.size (fun p hp => hb.cell (by have := h.hi; have := h.lt; omega)) fun D o => o.kept (grownBy_below hb none) (by simp)
theorem HalfM.new (w : World) {B : Nat} (hB : B ≤ w.heap.size) : HalfM (w.alloc (.map #[] 0)) B w.heap.size w.heap.size [] :=
  ⟨Nat.le_refl _, hB, by simp, (fun a ha => by cases ha), .map [], World.ownsMap_made w _ _ _, PendD.nil⟩
set_option maxRecDepth 100000 in
theorem HalfM.put (h : HalfM w B base b m) {x : Pn} {r q : Value} (ht : x.t.ok) (hs0 : x.s.ok) (hl : m.length < maxLen) (hr : HdRel KyRel 1 w B r x.r) (hq : HdRel WtRel 4 w B q x.w) (hn : ∀ y ∈ m, y.t ≠ x.t) :
    ∃ w', (Instr.mapUpdate 54 (.map (some b)) x.t.val (x.val r q)).run Tryz.prog w = .ok () w' ∧ HalfM w' B base b (m ++ [x]) ∧ w.grownBy w' (some b) ∧ (∀ p : Addr, p.block < w.heap.size → w'.cell? p = w.cell? p) := by
  obtain ⟨D2, o2, k2⟩ := h.ps
  obtain ⟨w1, hrun, ho, hg⟩ := o2.update kTxn Tryz.underlying54 hl (txl_of ht) (val := x.val r q) (d := .held (x.val r q)) (ps := []) rfl
  have hc := cell_map_kept o2 ho hg
  have hs := hg.size
  refine ⟨w1, hrun, ⟨h.lo, h.hi, Nat.lt_of_lt_of_le h.lt hs, ?_, ⟨_, by rw [List.length_append]; exact ho, ?_⟩⟩, hg, hc⟩
  · intro p hp p' hp' e
    rcases List.mem_append.1 hp with hq1 | hq1 <;> rcases List.mem_append.1 hp' with hq2 | hq2
    · exact h.one p hq1 p' hq2 e
    · simp only [List.mem_cons, List.not_mem_nil, or_false] at hq2
      rw [hq2] at e
      exact absurd e (hn p hq1)
    · simp only [List.mem_cons, List.not_mem_nil, or_false] at hq1
      rw [hq1] at e
      exact absurd e.symm (hn p' hq2)
    · simp only [List.mem_cons, List.not_mem_nil, or_false] at hq1 hq2
      rw [hq1, hq2]
  · exact (k2.put o2.isMap ht hs0 hr hq hn).keep fun p hp => hc p (by have := h.hi; have := h.lt; omega)
set_option maxRecDepth 100000 in
/-- the half of that number, or nothing -/
theorem HalfM.look (h : HalfM w B base b m) {t : Tx} (ht : t.ok) :
    ∃ (D : DataW Value) (v : Value), w.ownsMap Tryz.prog 41 anyE b m.length D ∧ (∀ w' : World, w'.ownsMap Tryz.prog 41 anyE b m.length D → (Instr.lookup 54 (.map (some b)) t.val false).run Tryz.prog w' = .ok v w') ∧
      match m.find? fun p => decide (p.t = t) with
      | none => v = .agg zeroPn
      | some p => ∃ r q, v = p.val r q ∧ HdRel KyRel 1 w B r p.r ∧ HdRel WtRel 4 w B q p.w := by
  obtain ⟨D, o, k1, k2⟩ := h.ps
  have run : ∀ v : Value, D.atKey (txl t) (.held (.agg zeroPn)) = .held v → ∀ w' : World, w'.ownsMap Tryz.prog 41 anyE b m.length D → (Instr.lookup 54 (.map (some b)) t.val false).run Tryz.prog w' = .ok v w' := by
    intro v hv w' hb
    obtain ⟨v', ps, hrun, hat⟩ := hb.lookup kTxn Tryz.underlying54 (z := .agg zeroPn) (by rfl) rfl (txl_of ht)
    injection hat with hat
    injection hat with hat _
    rw [hv] at hat
    injection hat with hat
    rw [hat] at hrun
    exact hrun
  cases hf : m.find? fun p => decide (p.t = t) with
  | none =>
    refine ⟨D, .agg zeroPn, o, run _ (Maps.atKey_of_not_has ?_ _), rfl⟩
    cases hd : Maps.has D (txl t)
    · rfl
    · obtain ⟨p, hp, e⟩ := k1 _ hd
      have := List.find?_eq_none.1 hf p hp
      simp [txl_inj (k2 p hp).1 ht e.symm] at this
  | some p =>
    have hp := List.mem_of_find?_eq_some hf
    have e3 : p.t = t := by simpa using List.find?_some hf
    obtain ⟨_, _, r, q, e2, h1, h2⟩ := k2 p hp
    rw [e3] at e2
    exact ⟨D, p.val r q, o, run _ (e2 _), r, q, rfl, h1, h2⟩
end
end Go.Proofs.YtipacjbegfingaaGreat
/- Plain law of HandWhole: what was divided, rejoined, is what it was. -/
namespace Go.Proofs.YtipacjbegfingaaGreat
set_option linter.unusedVariables false
open Go.RowKit Fl

section
variable {α : Type} {k : α → ByteArray}
/-- a row that rises, parted and merged, is itself -/
theorem merge_filter (f : α → Bool) : ∀ l : List α, RiseK k l → mergeL k (l.filter f) (l.filter fun a => !f a) = l := by
  intro l
  induction l with
  | nil => intro _; rw [List.filter_nil, List.filter_nil, nil_merge]
  | cons a l ih =>
    intro h
    obtain ⟨h1, h2⟩ := List.pairwise_cons.1 h
    have i := ih h2
    cases e : f a
    · rw [List.filter_cons_of_neg (by rw [e]; exact Bool.false_ne_true), List.filter_cons_of_pos (by rw [e]; rfl)]
      cases hl : l.filter f with
      | nil => rw [hl, nil_merge] at i; rw [nil_merge, i]
      | cons b m =>
        rw [hl] at i
        have hb : b ∈ l := (List.mem_filter.1 (hl ▸ List.mem_cons_self .. : b ∈ l.filter f)).1
        rw [merge_right _ _ (bl_not (h1 b hb)), i]
    · rw [List.filter_cons_of_pos e, List.filter_cons_of_neg (by rw [e]; exact Bool.false_ne_true)]
      cases hl : l.filter fun a => !f a with
      | nil => rw [hl, merge_nil] at i; rw [merge_nil, i]
      | cons b m =>
        rw [hl] at i
        have hb : b ∈ l := (List.mem_filter.1 (hl ▸ List.mem_cons_self .. : b ∈ l.filter fun a => !f a)).1
        rw [merge_left _ _ (h1 b hb), i]
end
/-- a pending one, its parts joined -/
theorem joinP_whole (f : ByteArray → Bool) {p : Pn} (h1 : RiseK id p.r) (h2 : RiseK Wt.key p.w) : joinP (pnF f p) (some (pnF (fun k => !f k) p)) = p := by
  have e1 := merge_filter f p.r h1
  have e2 := merge_filter (fun a : Wt => f a.key) p.w h2
  show (⟨p.t, p.s, mergeL id (p.r.filter f) (p.r.filter fun k => !f k), mergeL Wt.key (p.w.filter fun a => f a.key) (p.w.filter fun a => !f a.key)⟩ : Pn) = p
  rw [e1, e2]
theorem joinP_left (f : ByteArray → Bool) {p : Pn} (h1 : RiseK id p.r) (h2 : RiseK Wt.key p.w) (h : fullP (pnF (fun k => !f k) p) = false) : pnF f p = p := by
  have e1 := merge_filter f p.r h1
  have e2 := merge_filter (fun a : Wt => f a.key) p.w h2
  unfold fullP at h
  have h' := of_decide_eq_false h
  have z1 : (p.r.filter fun k => !f k) = [] := List.length_eq_zero_iff.1 (by have : (pnF (fun k => !f k) p).r = p.r.filter fun k => !f k := rfl; rw [← this]; omega)
  have z2 : (p.w.filter fun a => !f a.key) = [] := List.length_eq_zero_iff.1 (by have : (pnF (fun k => !f k) p).w = p.w.filter fun a => !f a.key := rfl; rw [← this]; omega)
  rw [z1, merge_nil] at e1
  rw [z2, merge_nil] at e2
  show (⟨p.t, p.s, p.r.filter f, p.w.filter fun a => f a.key⟩ : Pn) = p
  rw [e1, e2]
theorem find_half (g : ByteArray → Bool) : ∀ (l : List Pn), (l.Pairwise fun a b => a.t ≠ b.t) → ∀ x ∈ l, (((l.map (pnF g)).filter fullP).find? fun p => decide (p.t = x.t)) = if fullP (pnF g x) = true then some (pnF g x) else none := by
  intro l
  induction l with
  | nil => intro _ x hx; cases hx
  | cons a l ih =>
    intro h x hx
    obtain ⟨h1, h2⟩ := List.pairwise_cons.1 h
    rw [List.map_cons]
    rcases List.mem_cons.1 hx with rfl | hx
    · cases e : fullP (pnF g x)
      · rw [List.filter_cons_of_neg (by rw [e]; exact Bool.false_ne_true), if_neg Bool.false_ne_true]
        refine List.find?_eq_none.2 fun p hp => ?_
        obtain ⟨y, hy, rfl⟩ := List.mem_map.1 (List.mem_filter.1 hp).1
        have := h1 y hy
        simp only [decide_eq_true_eq]
        exact fun e => this e.symm
      · rw [List.filter_cons_of_pos e, if_pos rfl, List.find?_cons_of_pos (by simp [pnF])]
    · have hne : ¬ a.t = x.t := h1 x hx
      rw [← ih h2 x hx]
      cases e : fullP (pnF g a)
      · rw [List.filter_cons_of_neg (by rw [e]; exact Bool.false_ne_true)]
      · rw [List.filter_cons_of_pos e, List.find?_cons_of_neg (by show ¬ (decide (a.t = x.t)) = true; simpa using hne)]
/-- divided and rejoined -/
theorem whole {s : Stt} {x : Nat} {child : Int} {st fl : Sp} (hm : mayS s = true) (he : splitE s.r x child = 0) (h1 : st.may = true) (h2 : fl.may = true) :
    rejE (leftS s x child) (rightS s x child st fl) = 0 ∧ rejS (leftS s x child) (rightS s x child st fl) = s := by
  obtain ⟨r1, r2, r3⟩ := mayS_r hm
  obtain ⟨b1, b2, b3, b4, b5, b6, b7, b8, hL, hU⟩ := split_zero he
  obtain ⟨m1, m2, m3, m4, m5, m6⟩ := mayR_of r1
  obtain ⟨-, a2, -, -⟩ := mayS_parts hm
  obtain ⟨-, a6, a7⟩ := load_parts a2
  have hp := mayS_pair hm
  have hlr : (leftS s x child).r = ⟨s.r.id, s.r.ep + 1, s.r.lo, x⟩ := hL
  have hrr : (rightS s x child st fl).r = ⟨child, 0, x, s.r.hi⟩ := hU
  refine ⟨?_, ?_⟩
  · rw [rejE_like (left_may hm he) (right_may hm he h1 h2) ⟨by rw [hlr, hrr], by rw [hlr]; show 1 ≤ s.r.ep + 1; omega, by rw [hlr, hrr]; show s.r.id ≠ child; exact fun e => b5 e.symm⟩, if_pos]
    refine List.all_eq_true.2 fun p hpr => ?_
    obtain ⟨y, hy, rfl⟩ := List.mem_map.1 (List.mem_filter.1 (show p ∈ (s.p.map (pnF fun k => !belowB k x)).filter fullP from hpr)).1
    exact List.any_eq_true.2 ⟨pnF (fun k => belowB k x) y, List.mem_map.2 ⟨y, hy, rfl⟩, by unfold alikeP; simp [pnF]⟩
  · have e1 : mergeL Hs.key (hsF (fun k => belowB k x) s.h) (hsF (fun k => !belowB k x) s.h) = s.h := merge_filter (fun h : Hs => belowB h.key x) s.h (histsB_riseK _ _ a6).1
    have e2 : (s.p.map (pnF fun k => belowB k x)).map (fun y => joinP y (((s.p.map (pnF fun k => !belowB k x)).filter fullP).find? fun p => decide (p.t = y.t))) = s.p := by
      rw [List.map_map]
      refine (List.map_congr_left fun y hy => ?_).trans (List.map_id s.p)
      obtain ⟨u1, u2⟩ := pend_riseK (a7 y hy)
      show joinP (pnF (fun k => belowB k x) y) (((s.p.map (pnF fun k => !belowB k x)).filter fullP).find? fun p => decide (p.t = y.t)) = y
      rw [find_half (fun k => !belowB k x) s.p hp y hy]
      cases e : fullP (pnF (fun k => !belowB k x) y)
      · rw [if_neg Bool.false_ne_true]
        exact joinP_left _ u1 u2 e
      · rw [if_pos rfl]
        exact joinP_whole _ u1 u2
    show (⟨⟨(leftS s x child).r.id, (leftS s x child).r.ep - 1, (leftS s x child).r.lo, (rightS s x child st fl).r.hi⟩, s.f, s.c, _, _⟩ : Stt) = s
    rw [hlr, hrr]
    show (⟨⟨s.r.id, s.r.ep + 1 - 1, s.r.lo, s.r.hi⟩, s.f, s.c, mergeL Hs.key (hsF (fun k => belowB k x) s.h) (hsF (fun k => !belowB k x) s.h), (s.p.map (pnF fun k => belowB k x)).map (fun y => joinP y (((s.p.map (pnF fun k => !belowB k x)).filter fullP).find? fun p => decide (p.t = y.t)))⟩ : Stt) = s
    rw [e1, e2, show s.r.ep + 1 - 1 = s.r.ep by omega]
end Go.Proofs.YtipacjbegfingaaGreat
