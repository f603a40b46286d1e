/- Words for memory: a slice that reads as a list of data; kept where nothing below has turned. Plain lemmas over any program. -/
import Derived.WalkKit
import Derived.Deep.Slices
import Derived.Deep.Draws
import Derived.Laws.Cover2
namespace Go.Proofs.Ytipacjbegfingaa
open Go.RowKit

theorem block_of_add (a : Addr) (n : Nat) : (a.add n).block = a.block := by unfold Addr.add; split <;> rfl
theorem add_of_add (a : Addr) (i j : Nat) : (a.add i).add j = a.add (i + j) := by
  unfold Addr.add
  by_cases hi : i = 0 <;> by_cases hj : j = 0 <;> simp [hi, hj, Nat.add_assoc]

/-- how an element's cells read, in a world, below a block -/
abbrev Rel (α : Type) := World → Nat → List Value → α → Prop
/-- a relation that is kept where nothing below B has turned, and for greater B -/
def Rel.Kept {α : Type} (R : Rel α) : Prop := (∀ w w' B cs a, R w B cs a → (∀ p : Addr, p.block < B → w'.cell? p = w.cell? p) → R w' B cs a) ∧ (∀ w B B' cs a, R w B cs a → B ≤ B' → R w B' cs a)

/-- the slice (A, n) reads as the list l: element i lies in the cells from i * size on -/
def Sl {α : Type} (R : Rel α) (size : Nat) (w : World) (B : Nat) (A : Option Addr) (n : Nat) (l : List α) : Prop :=
  l.length = n ∧ ∀ i a, l[i]? = some a → ∃ ad cs, A = some ad ∧ ad.block < B ∧ cs.length = size ∧ (∀ j u, cs[j]? = some u → w.cell? (ad.add (i * size + j)) = some u) ∧ R w B cs a

section
variable {α : Type} {R : Rel α} {size : Nat} {w w' : World} {B B' n : Nat} {A : Option Addr} {l : List α}
theorem Sl.nil : Sl R size w B A 0 [] := ⟨rfl, fun i a h => by simp at h⟩
theorem Sl.keep (hR : R.Kept) (h : Sl R size w B A n l) (hk : ∀ p : Addr, p.block < B → w'.cell? p = w.cell? p) : Sl R size w' B A n l :=
  ⟨h.1, fun i a hi => by
    obtain ⟨ad, cs, e, hb, hl, hc, hr⟩ := h.2 i a hi
    exact ⟨ad, cs, e, hb, hl, fun j u hu => (hk _ (by rw [block_of_add]; exact hb)).trans (hc j u hu), hR.1 _ _ _ _ _ hr hk⟩⟩
theorem Sl.more (hR : R.Kept) (h : Sl R size w B A n l) (hB : B ≤ B') : Sl R size w B' A n l :=
  ⟨h.1, fun i a hi => by
    obtain ⟨ad, cs, e, hb, hl, hc, hr⟩ := h.2 i a hi
    exact ⟨ad, cs, e, by omega, hl, hc, hR.2 _ _ _ _ _ hr hB⟩⟩
theorem Sl.below (hR : R.Kept) (h : Sl R size w B A n l) (hb : Below B w w') : Sl R size w' B A n l := h.keep hR fun _ hp => hb.cell hp
theorem Sl.alloc (hR : R.Kept) (h : Sl R size w B A n l) (hB : B ≤ w.heap.size) (o : Obj) : Sl R size (w.alloc o) B A n l := h.keep hR fun p hp => World.cell?_alloc_lt w o p (by omega)
theorem Sl.setCell (hR : R.Kept) (h : Sl R size w B A n l) {p : Addr} (hB : B ≤ p.block) (u : Value) : Sl R size (w.setCell p u) B A n l :=
  h.keep hR fun q hq => World.cell?_setCell_other w p q u (fun e => by subst e; omega)
theorem Sl.at_ (h : Sl R size w B A n l) {k : Nat} (hk : k < n) : ∃ ad cs a, A = some ad ∧ l[k]? = some a ∧ ad.block < B ∧ cs.length = size ∧ (∀ j u, cs[j]? = some u → w.cell? (ad.add (k * size + j)) = some u) ∧ R w B cs a := by
  have hl : k < l.length := by rw [h.1]; exact hk
  obtain ⟨ad, cs, e, hb, h2, hc, hr⟩ := h.2 k l[k] (List.getElem?_eq_getElem hl)
  exact ⟨ad, cs, l[k], e, List.getElem?_eq_getElem hl, hb, h2, hc, hr⟩
end

/-- what the walk uses of a callee that left all old blocks as they were -/
theorem bcell {W w1 : World} (hb : Below W.heap.size W w1) : (∀ b o, b < W.heap.size → w1.cell? ⟨b, o, none⟩ = W.cell? ⟨b, o, none⟩) ∧ (∀ b o, b < W.heap.size → w1.frozen? ⟨b, o, none⟩ = W.frozen? ⟨b, o, none⟩) ∧ W.heap.size ≤ w1.heap.size :=
  ⟨fun b o h => hb.cell (p := ⟨b, o, none⟩) h, fun b o h => hb.frozen (p := ⟨b, o, none⟩) h, hb.size⟩
/-- block g is known whole -/
def Blk (w : World) (g : Nat) (t : TypeId) (cs : Array Value) : Prop := w.heap[g]? = some (.cells cs t (0, 0))
section
variable {w w' : World} {g : Nat} {t : TypeId} {cs : Array Value}
theorem Blk.lt (h : Blk w g t cs) : g < w.heap.size := by
  rcases Nat.lt_or_ge g w.heap.size with hlt | hge
  · exact hlt
  · unfold Blk at h; rw [Array.getElem?_eq_none hge] at h; cases h
theorem Blk.cell (h : Blk w g t cs) (i : Nat) : w.cell? ⟨g, i, none⟩ = cs[i]? := cell_of_row w g i cs t (0, 0) h
theorem Blk.frozen (h : Blk w g t cs) (i : Nat) : w.frozen? ⟨g, i, none⟩ = false := by
  unfold Blk at h
  simp [World.frozen?, h]
theorem Blk.new (w : World) (t : TypeId) (cs : Array Value) : Blk (w.alloc (.cells cs t)) w.heap.size t cs := heap_alloc_new w _
theorem Blk.new' {w : World} {g : Nat} (t : TypeId) (cs : Array Value) (h : g = w.heap.size) : Blk (w.alloc (.cells cs t)) g t cs := by subst h; exact Blk.new w t cs
theorem Blk.alloc (h : Blk w g t cs) (o : Obj) : Blk (w.alloc o) g t cs := (Below.heap_alloc w o g h.lt).trans h
theorem Blk.set_ (h : Blk w g t cs) (i : Nat) (u : Value) : Blk (w.setCell ⟨g, i, none⟩ u) g t (cs.setIfInBounds i u) := by
  unfold Blk at h ⊢
  simp [World.setCell, Array.getElem?_modify, h]
theorem Blk.far (h : Blk w g t cs) {p : Addr} (hp : g ≠ p.block) (u : Value) : Blk (w.setCell p u) g t cs := (Below.heap_setCell w p u g hp).trans h
theorem Blk.below {B : Nat} (h : Blk w g t cs) (hb : Below B w w') (hg : g < B) : Blk w' g t cs := (hb.block g hg).trans h
theorem Blk.grown {row : Option Nat} (h : Blk w g t cs) (hb : w.grownBy w' row) (hg : some g ≠ row) : Blk w' g t cs := (hb.block g h.lt hg).trans h
/-- a block of four cells: all that the walk asks of it -/
theorem Blk.four {a b c d : Value} (h : Blk w g t #[a, b, c, d]) : g < w.heap.size ∧ w.cell? ⟨g, 0, none⟩ = some a ∧ w.cell? ⟨g, 1, none⟩ = some b ∧ w.cell? ⟨g, 2, none⟩ = some c ∧ w.cell? ⟨g, 3, none⟩ = some d ∧
    w.frozen? ⟨g, 0, none⟩ = false ∧ w.frozen? ⟨g, 1, none⟩ = false ∧ w.frozen? ⟨g, 2, none⟩ = false ∧ w.frozen? ⟨g, 3, none⟩ = false :=
  ⟨h.lt, h.cell 0, h.cell 1, h.cell 2, h.cell 3, h.frozen 0, h.frozen 1, h.frozen 2, h.frozen 3⟩
end

section
variable {P : Program} {fn : Func} {R : Ending → World → Prop} {tmps : Array Value} {w : World}
theorem run_loadVar_blk {g : Nat} {t ty : TypeId} {cs : Array Value} {d : TypeDesc} (hb : Blk w g t cs) (hu : P.underlying ty = some d) (hd : (match d with | .struct _ | .array _ _ => true | _ => false) = true) (hi : (P.info? ty).map (·.size) = some cs.size) :
    (loadVar ty ⟨g, 0, none⟩).run P w = .ok (.agg cs) w := run_loadVar_row w g t ty cs (0, 0) d hb hu hd hi
/-- a return of one struct, of a struct and a value, of two structs and a value: the structs lie in blocks that are known whole -/
theorem post_cell {p : Tmp} {g : Nat} {t ty : TypeId} {cs : Array Value} {d : TypeDesc} (h : fn.results = #[.cell p ty]) (hp : tmps.getD p undef = .pointer (some ⟨g, 0, none⟩)) (hb : Blk w g t cs)
    (hu : P.underlying ty = some d) (hd : (match d with | .struct _ | .array _ _ => true | _ => false) = true) (hi : (P.info? ty).map (·.size) = some cs.size) (hR : R (.returned (.agg cs)) w) : bodyPost P fn R .ret ⟨tmps, []⟩ w :=
  bodyPost_ret (results_cell_row h tmps w g t cs (0, 0) d hp hb hu hd hi) rfl hR
theorem post_cell_tmp {p u : Tmp} {g : Nat} {t ty : TypeId} {cs : Array Value} {d : TypeDesc} (h : fn.results = #[.cell p ty, .tmp u]) (hp : tmps.getD p undef = .pointer (some ⟨g, 0, none⟩)) (hb : Blk w g t cs)
    (hu : P.underlying ty = some d) (hd : (match d with | .struct _ | .array _ _ => true | _ => false) = true) (hi : (P.info? ty).map (·.size) = some cs.size) (hR : R (.returned (.tuple #[.agg cs, tmps.getD u undef])) w) : bodyPost P fn R .ret ⟨tmps, []⟩ w := by
  refine bodyPost_ret ?_ rfl hR
  rw [results_cell_tmp h, hp]
  show ((loadVar ty ⟨g, 0, none⟩).run P w).andThen _ = _
  rw [run_loadVar_blk hb hu hd hi]; rfl
theorem post_cell_cell_tmp {p q u : Tmp} {g k : Nat} {t ty t' ty' : TypeId} {cs cs' : Array Value} {d d' : TypeDesc} (h : fn.results = #[.cell p ty, .cell q ty', .tmp u]) (hp : tmps.getD p undef = .pointer (some ⟨g, 0, none⟩)) (hq : tmps.getD q undef = .pointer (some ⟨k, 0, none⟩))
    (hb : Blk w g t cs) (hb' : Blk w k t' cs')
    (hu : P.underlying ty = some d) (hd : (match d with | .struct _ | .array _ _ => true | _ => false) = true) (hi : (P.info? ty).map (·.size) = some cs.size)
    (hu' : P.underlying ty' = some d') (hd' : (match d' with | .struct _ | .array _ _ => true | _ => false) = true) (hi' : (P.info? ty').map (·.size) = some cs'.size)
    (hR : R (.returned (.tuple #[.agg cs, .agg cs', tmps.getD u undef])) w) : bodyPost P fn R .ret ⟨tmps, []⟩ w := by
  refine bodyPost_ret ?_ rfl hR
  have hp' : tmps[p]?.getD undef = .pointer (some ⟨g, 0, none⟩) := by simpa using hp
  have hq' : tmps[q]?.getD undef = .pointer (some ⟨k, 0, none⟩) := by simpa using hq
  simp [results, h, hp', hq', asAddr, run_loadVar_blk hb hu hd hi, run_loadVar_blk hb' hu' hd' hi', Sem.run_bind, Result.andThen]
end

/-- elements whose cells are written out: they hang on no world -/
def Flat {α : Type} (cells : α → List Value) (ok : α → Prop) : Rel α := fun _ _ cs a => cs = cells a ∧ ok a
theorem Flat.kept {α : Type} (cells : α → List Value) (ok : α → Prop) : (Flat cells ok).Kept := ⟨fun _ _ _ _ _ h _ => h, fun _ _ _ _ _ h _ => h⟩

/-- a range of the store -/
structure Rg where
  id : Int
  ep : Int
  lo : Nat
  hi : Nat
  deriving DecidableEq
def Rg.cells (r : Rg) : List Value := [.int .i64 r.id, .int .i64 r.ep, .float .f64 r.lo, .float .f64 r.hi]
abbrev Rg.val (r : Rg) : Value := .agg #[.int .i64 r.id, .int .i64 r.ep, .float .f64 r.lo, .float .f64 r.hi]
def i64ok (n : Int) : Prop := -9223372036854775808 ≤ n ∧ n ≤ 9223372036854775807
def Rg.ok (r : Rg) : Prop := i64ok r.id ∧ i64ok r.ep ∧ r.lo < 18446744073709551616 ∧ r.hi < 18446744073709551616
abbrev RgRel : Rel Rg := Flat Rg.cells Rg.ok
theorem RgRel.kept : (RgRel).Kept := Flat.kept _ _

section
variable {w : World} {B n : Nat} {A : Option Addr} {l : List Rg}
/-- element k of a slice of ranges: its four cells, as the walk spells them -/
theorem Sl.rg (h : Sl RgRel 4 w B A n l) {k : Nat} (hk : k < n) : ∃ ad r, A = some ad ∧ l[k]? = some r ∧ (ad.add (k * 4)).block < B ∧ r.ok ∧
    w.cell? (ad.add (k * 4)) = some (.int .i64 r.id) ∧ w.cell? ⟨(ad.add (k * 4)).block, (ad.add (k * 4)).off + 1, none⟩ = some (.int .i64 r.ep) ∧
    w.cell? ⟨(ad.add (k * 4)).block, (ad.add (k * 4)).off + 2, none⟩ = some (.float .f64 r.lo) ∧ w.cell? ⟨(ad.add (k * 4)).block, (ad.add (k * 4)).off + 3, none⟩ = some (.float .f64 r.hi) := by
  obtain ⟨ad, cs, r, e, hl, hb, _, hc, rfl, hok⟩ := h.at_ hk
  have e0 : ∀ j, ad.add (k * 4 + j) = (ad.add (k * 4)).add j := fun j => (add_of_add _ _ _).symm
  have c0 := hc 0 _ rfl
  have c1 := hc 1 _ rfl
  have c2 := hc 2 _ rfl
  have c3 := hc 3 _ rfl
  rw [e0] at c1 c2 c3
  exact ⟨ad, r, e, hl, by rw [block_of_add]; exact hb, hok, c0, c1, c2, c3⟩
end
end Go.Proofs.Ytipacjbegfingaa
