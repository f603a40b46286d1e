/- The store's data as plain Lean data, and how their cells read: values, stamps, transactions, writes, versions, histories, pending ones, states. -/
import Derived.Test.YtipacjbegfingaaAp
namespace Go.Proofs.Ytipacjbegfingaa
open Go.RowKit

/-- a text that was read takes no more than this (the form's own reach) -/
theorem reach_max {n : Nat} (h : n ≤ 140737488351232) : n ≤ maxLen := by unfold maxLen; omega

/-- a value: its kind, its float's bits, its text -/
structure Vl where
  k : Int
  n : Nat
  t : ByteArray
structure Sp where
  w : Int
  l : Int
  n : Int
  deriving DecidableEq
structure Tx where
  c : Int
  l : Int
  s : Int
  deriving DecidableEq
structure Wt where
  key : ByteArray
  v : Vl
structure Vn where
  s : Sp
  v : Vl
structure Hs where
  key : ByteArray
  vs : List Vn
structure Pn where
  t : Tx
  s : Sp
  r : List ByteArray
  w : List Wt
structure Stt where
  r : Rg
  f : Sp
  c : Sp
  h : List Hs
  p : List Pn

def Vl.cells (v : Vl) : List Value := [.int .i64 v.k, .float .f64 v.n, .string v.t]
abbrev Vl.val (v : Vl) : Value := .agg #[.int .i64 v.k, .float .f64 v.n, .string v.t]
def Vl.ok (v : Vl) : Prop := i64ok v.k ∧ v.n < 18446744073709551616 ∧ v.t.size ≤ 140737488351232
abbrev Sp.val (s : Sp) : Value := .agg #[.int .i64 s.w, .int .i64 s.l, .int .i64 s.n]
def Sp.ok (s : Sp) : Prop := i64ok s.w ∧ i64ok s.l ∧ i64ok s.n
def Tx.ok (s : Tx) : Prop := i64ok s.c ∧ i64ok s.l ∧ i64ok s.s
abbrev Tx.val (s : Tx) : Value := .agg #[.int .i64 s.c, .int .i64 s.l, .int .i64 s.s]
def Wt.cells (a : Wt) : List Value := [.string a.key, .int .i64 a.v.k, .float .f64 a.v.n, .string a.v.t]
abbrev Wt.val (a : Wt) : Value := .agg #[.string a.key, .int .i64 a.v.k, .float .f64 a.v.n, .string a.v.t]
def Wt.ok (a : Wt) : Prop := a.key.size ≤ 140737488351232 ∧ a.v.ok
def Vn.cells (a : Vn) : List Value := [.int .i64 a.s.w, .int .i64 a.s.l, .int .i64 a.s.n, .int .i64 a.v.k, .float .f64 a.v.n, .string a.v.t]
abbrev Vn.val (a : Vn) : Value := .agg #[.int .i64 a.s.w, .int .i64 a.s.l, .int .i64 a.s.n, .int .i64 a.v.k, .float .f64 a.v.n, .string a.v.t]
def Vn.ok (a : Vn) : Prop := a.s.ok ∧ a.v.ok
def keyCells (k : ByteArray) : List Value := [.string k]
abbrev KyRel : Rel ByteArray := Flat keyCells fun k => k.size ≤ 140737488351232
abbrev WtRel : Rel Wt := Flat Wt.cells Wt.ok
abbrev VnRel : Rel Vn := Flat Vn.cells Vn.ok
/-- a slice's header, and what it reads as -/
def HdRel {α : Type} (R : Rel α) (size : Nat) (w : World) (B : Nat) (v : Value) (l : List α) : Prop := ∃ A n c, v = .slice A n c ∧ n ≤ c ∧ c ≤ maxLen ∧ Sl R size w B A n l
def HsRel : Rel Hs := fun w B cs h => ∃ v, cs = [.string h.key, v] ∧ h.key.size ≤ 140737488351232 ∧ HdRel VnRel 6 w B v h.vs
def PnRel : Rel Pn := fun w B cs p => ∃ r q, cs = [.int .i64 p.t.c, .int .i64 p.t.l, .int .i64 p.t.s, .int .i64 p.s.w, .int .i64 p.s.l, .int .i64 p.s.n, r, q] ∧ p.t.ok ∧ p.s.ok ∧ HdRel KyRel 1 w B r p.r ∧ HdRel WtRel 4 w B q p.w
/-- a state's cells: its two lists' headers beside it -/
def SttRel (w : World) (B : Nat) (cs : List Value) (s : Stt) : Prop := ∃ h p, cs = [.int .i64 s.r.id, .int .i64 s.r.ep, .float .f64 s.r.lo, .float .f64 s.r.hi, .int .i64 s.f.w, .int .i64 s.f.l, .int .i64 s.f.n, .int .i64 s.c.w, .int .i64 s.c.l, .int .i64 s.c.n, h, p] ∧
  s.r.ok ∧ s.f.ok ∧ s.c.ok ∧ HdRel HsRel 2 w B h s.h ∧ HdRel PnRel 8 w B p s.p

section
variable {α : Type} {R : Rel α} {size : Nat} {w w' : World} {B B' : Nat} {v : Value} {l : List α}
theorem HdRel.keep (hR : R.Kept) (h : HdRel R size w B v l) (hk : ∀ p : Addr, p.block < B → w'.cell? p = w.cell? p) : HdRel R size w' B v l := by
  obtain ⟨A, n, c, e, h1, h2, h3⟩ := h
  exact ⟨A, n, c, e, h1, h2, h3.keep hR hk⟩
theorem HdRel.more (hR : R.Kept) (h : HdRel R size w B v l) (hB : B ≤ B') : HdRel R size w B' v l := by
  obtain ⟨A, n, c, e, h1, h2, h3⟩ := h
  exact ⟨A, n, c, e, h1, h2, h3.more hR hB⟩
theorem HdRel.below (hR : R.Kept) (h : HdRel R size w B v l) (hb : Below B w w') : HdRel R size w' B v l := h.keep hR fun _ hp => hb.cell hp
theorem HdRel.nil : HdRel R size w B (.slice none 0 0) [] := ⟨none, 0, 0, rfl, Nat.le_refl _, by unfold maxLen; omega, Sl.nil⟩
end
theorem KyRel.kept : (KyRel).Kept := Flat.kept _ _
theorem WtRel.kept : (WtRel).Kept := Flat.kept _ _
theorem VnRel.kept : (VnRel).Kept := Flat.kept _ _
theorem HsRel.kept : (HsRel).Kept :=
  ⟨fun _ _ _ _ _ ⟨v, e, hk, h⟩ hw => ⟨v, e, hk, h.keep VnRel.kept hw⟩, fun _ _ _ _ _ ⟨v, e, hk, h⟩ hB => ⟨v, e, hk, h.more VnRel.kept hB⟩⟩
theorem PnRel.kept : (PnRel).Kept :=
  ⟨fun _ _ _ _ _ ⟨r, q, e, h1, h2, h3, h4⟩ hw => ⟨r, q, e, h1, h2, h3.keep KyRel.kept hw, h4.keep WtRel.kept hw⟩,
   fun _ _ _ _ _ ⟨r, q, e, h1, h2, h3, h4⟩ hB => ⟨r, q, e, h1, h2, h3.more KyRel.kept hB, h4.more WtRel.kept hB⟩⟩
section
variable {w w' : World} {B B' : Nat} {cs : List Value} {s : Stt}
theorem SttRel.keep (h : SttRel w B cs s) (hk : ∀ p : Addr, p.block < B → w'.cell? p = w.cell? p) : SttRel w' B cs s := by
  obtain ⟨a, b, e, h1, h2, h3, h4, h5⟩ := h
  exact ⟨a, b, e, h1, h2, h3, h4.keep HsRel.kept hk, h5.keep PnRel.kept hk⟩
theorem SttRel.more (h : SttRel w B cs s) (hB : B ≤ B') : SttRel w B' cs s := by
  obtain ⟨a, b, e, h1, h2, h3, h4, h5⟩ := h
  exact ⟨a, b, e, h1, h2, h3, h4.more HsRel.kept hB, h5.more PnRel.kept hB⟩
theorem SttRel.below (h : SttRel w B cs s) (hb : Below B w w') : SttRel w' B cs s := h.keep fun _ hp => hb.cell hp
end

section
variable {w : World} {B n : Nat} {A : Option Addr}
/-- elements, as the walk spells their cells -/
theorem Sl.ky {l : List ByteArray} (h : Sl KyRel 1 w B A n l) {k : Nat} (hk : k < n) : ∃ ad a, A = some ad ∧ l[k]? = some a ∧ (ad.add k).block < B ∧ a.size ≤ 140737488351232 ∧ w.cell? (ad.add k) = some (.string a) := by
  obtain ⟨ad, cs, a, e, hl, hb, _, hc, rfl, hok⟩ := h.at_ hk
  have c0 := hc 0 _ rfl
  rw [Nat.mul_one, Nat.add_zero] at c0
  exact ⟨ad, a, e, hl, by rw [block_of_add]; exact hb, hok, c0⟩
theorem Sl.wt {l : List Wt} (h : Sl WtRel 4 w B A n l) {k : Nat} (hk : k < n) : ∃ ad a, A = some ad ∧ l[k]? = some a ∧ (ad.add (k * 4)).block < B ∧ a.ok ∧ w.cell? (ad.add (k * 4)) = some (.string a.key) ∧
    w.cell? ⟨(ad.add (k * 4)).block, (ad.add (k * 4)).off + 1, none⟩ = some (.int .i64 a.v.k) ∧ w.cell? ⟨(ad.add (k * 4)).block, (ad.add (k * 4)).off + 2, none⟩ = some (.float .f64 a.v.n) ∧
    w.cell? ⟨(ad.add (k * 4)).block, (ad.add (k * 4)).off + 3, none⟩ = some (.string a.v.t) := by
  obtain ⟨ad, cs, a, e, hl, hb, _, hc, rfl, hok⟩ := h.at_ hk
  have e0 : ∀ j, ad.add (k * 4 + j) = (ad.add (k * 4)).add j := fun j => (add_of_add _ _ _).symm
  have c0 := hc 0 _ rfl
  have c1 := hc 1 _ rfl
  have c2 := hc 2 _ rfl
  have c3 := hc 3 _ rfl
  rw [e0] at c1 c2 c3
  exact ⟨ad, a, e, hl, by rw [block_of_add]; exact hb, hok, c0, c1, c2, c3⟩
theorem Sl.vn {l : List Vn} (h : Sl VnRel 6 w B A n l) {k : Nat} (hk : k < n) : ∃ ad a, A = some ad ∧ l[k]? = some a ∧ (ad.add (k * 6)).block < B ∧ a.ok ∧ w.cell? (ad.add (k * 6)) = some (.int .i64 a.s.w) ∧
    w.cell? ⟨(ad.add (k * 6)).block, (ad.add (k * 6)).off + 1, none⟩ = some (.int .i64 a.s.l) ∧ w.cell? ⟨(ad.add (k * 6)).block, (ad.add (k * 6)).off + 2, none⟩ = some (.int .i64 a.s.n) ∧
    w.cell? ⟨(ad.add (k * 6)).block, (ad.add (k * 6)).off + 3, none⟩ = some (.int .i64 a.v.k) ∧ w.cell? ⟨(ad.add (k * 6)).block, (ad.add (k * 6)).off + 4, none⟩ = some (.float .f64 a.v.n) ∧
    w.cell? ⟨(ad.add (k * 6)).block, (ad.add (k * 6)).off + 5, none⟩ = some (.string a.v.t) := by
  obtain ⟨ad, cs, a, e, hl, hb, _, hc, rfl, hok⟩ := h.at_ hk
  have e0 : ∀ j, ad.add (k * 6 + j) = (ad.add (k * 6)).add j := fun j => (add_of_add _ _ _).symm
  have c0 := hc 0 _ rfl
  have c1 := hc 1 _ rfl
  have c2 := hc 2 _ rfl
  have c3 := hc 3 _ rfl
  have c4 := hc 4 _ rfl
  have c5 := hc 5 _ rfl
  rw [e0] at c1 c2 c3 c4 c5
  exact ⟨ad, a, e, hl, by rw [block_of_add]; exact hb, hok, c0, c1, c2, c3, c4, c5⟩
theorem Sl.hs {l : List Hs} (h : Sl HsRel 2 w B A n l) {k : Nat} (hk : k < n) : ∃ ad a A' n' c', A = some ad ∧ l[k]? = some a ∧ (ad.add (k * 2)).block < B ∧ a.key.size ≤ 140737488351232 ∧ w.cell? (ad.add (k * 2)) = some (.string a.key) ∧
    w.cell? ⟨(ad.add (k * 2)).block, (ad.add (k * 2)).off + 1, none⟩ = some (.slice A' n' c') ∧ n' ≤ c' ∧ c' ≤ maxLen ∧ Sl VnRel 6 w B A' n' a.vs := by
  obtain ⟨ad, cs, a, e, hl, hb, _, hc, ⟨v, rfl, hok, A', n', c', rfl, h1, h2, h3⟩⟩ := h.at_ hk
  have e0 : ∀ j, ad.add (k * 2 + j) = (ad.add (k * 2)).add j := fun j => (add_of_add _ _ _).symm
  have c0 := hc 0 _ rfl
  have c1 := hc 1 _ rfl
  rw [e0] at c1
  exact ⟨ad, a, A', n', c', e, hl, by rw [block_of_add]; exact hb, hok, c0, c1, h1, h2, h3⟩
theorem Sl.pn {l : List Pn} (h : Sl PnRel 8 w B A n l) {k : Nat} (hk : k < n) : ∃ ad a A1 n1 c1 A2 n2 c2, A = some ad ∧ l[k]? = some a ∧ (ad.add (k * 8)).block < B ∧ a.t.ok ∧ a.s.ok ∧ w.cell? (ad.add (k * 8)) = some (.int .i64 a.t.c) ∧
    w.cell? ⟨(ad.add (k * 8)).block, (ad.add (k * 8)).off + 1, none⟩ = some (.int .i64 a.t.l) ∧ w.cell? ⟨(ad.add (k * 8)).block, (ad.add (k * 8)).off + 2, none⟩ = some (.int .i64 a.t.s) ∧
    w.cell? ⟨(ad.add (k * 8)).block, (ad.add (k * 8)).off + 3, none⟩ = some (.int .i64 a.s.w) ∧ w.cell? ⟨(ad.add (k * 8)).block, (ad.add (k * 8)).off + 4, none⟩ = some (.int .i64 a.s.l) ∧
    w.cell? ⟨(ad.add (k * 8)).block, (ad.add (k * 8)).off + 5, none⟩ = some (.int .i64 a.s.n) ∧ w.cell? ⟨(ad.add (k * 8)).block, (ad.add (k * 8)).off + 6, none⟩ = some (.slice A1 n1 c1) ∧
    w.cell? ⟨(ad.add (k * 8)).block, (ad.add (k * 8)).off + 7, none⟩ = some (.slice A2 n2 c2) ∧ n1 ≤ c1 ∧ c1 ≤ maxLen ∧ Sl KyRel 1 w B A1 n1 a.r ∧ n2 ≤ c2 ∧ c2 ≤ maxLen ∧ Sl WtRel 4 w B A2 n2 a.w := by
  obtain ⟨ad, cs, a, e, hl, hb, _, hc, ⟨r, q, rfl, h1, h2, ⟨A1, n1, c1, rfl, h3, h4, h5⟩, ⟨A2, n2, c2, rfl, h6, h7, h8⟩⟩⟩ := h.at_ hk
  have e0 : ∀ j, ad.add (k * 8 + j) = (ad.add (k * 8)).add j := fun j => (add_of_add _ _ _).symm
  have d0 := hc 0 _ rfl
  have d1 := hc 1 _ rfl
  have d2 := hc 2 _ rfl
  have d3 := hc 3 _ rfl
  have d4 := hc 4 _ rfl
  have d5 := hc 5 _ rfl
  have d6 := hc 6 _ rfl
  have d7 := hc 7 _ rfl
  rw [e0] at d1 d2 d3 d4 d5 d6 d7
  exact ⟨ad, a, A1, n1, c1, A2, n2, c2, e, hl, by rw [block_of_add]; exact hb, h1, h2, d0, d1, d2, d3, d4, d5, d6, d7, h3, h4, h5, h6, h7, h8⟩
end
theorem wt_len (a : Wt) : a.cells.length = 4 := rfl
theorem vn_len (a : Vn) : a.cells.length = 6 := rfl
theorem ky_len (a : ByteArray) : (keyCells a).length = 1 := rfl
theorem one_of {α : Type} {f : α → List Value} (h : ∀ a, ∀ u ∈ f a, u.oneCell' = true) (l : List α) : ∀ u ∈ l.flatMap f, u.oneCell' = true := by
  intro u hu
  obtain ⟨a, _, ha⟩ := List.mem_flatMap.1 hu
  exact h a u ha
theorem wt_one (a : Wt) : ∀ u ∈ a.cells, u.oneCell' = true := by
  intro u hu
  simp only [Wt.cells, List.mem_cons, List.not_mem_nil, or_false] at hu
  rcases hu with rfl | rfl | rfl | rfl <;> rfl
theorem vn_one (a : Vn) : ∀ u ∈ a.cells, u.oneCell' = true := by
  intro u hu
  simp only [Vn.cells, List.mem_cons, List.not_mem_nil, or_false] at hu
  rcases hu with rfl | rfl | rfl | rfl | rfl | rfl <;> rfl
theorem ky_one (a : ByteArray) : ∀ u ∈ keyCells a, u.oneCell' = true := by
  intro u hu
  simp only [keyCells, List.mem_cons, List.not_mem_nil, or_false] at hu
  subst hu; rfl
end Go.Proofs.Ytipacjbegfingaa
