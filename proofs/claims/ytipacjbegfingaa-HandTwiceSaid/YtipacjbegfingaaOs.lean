/- Data that came in, opened with its weights: numbers, texts, structs, slices; the store's data. -/
import Derived.Test.YtipacjbegfingaaFrame
import Derived.Test.YtipacjbegfingaaDat
import Derived.SizedLaws
import Derived.WalkLawsBesides
namespace Go.Proofs.Ytipacjbegfingaa
open Go.ChangeShapes Go.WideShapes Go.RowKit

/-- no part of the datum weighs more than the form's own reach -/
def Szd {H : Type} (P : Program) (t : TypeId) (d : DataW H) : Prop := ∀ n ∈ d.weights P t, n ≤ reachBytes
section
variable {H : Type} {enc : TypeId × Value → H} {P : Program} {w : World}
theorem weightsAll_mem {e : TypeId} : ∀ {l : List (DataW H)} {d : DataW H}, d ∈ l → ∀ n ∈ d.weights P e, n ∈ DataW.weightsAll P e l
  | d' :: r, d, hd, n, hn => by
    simp only [DataW.weightsAll, List.mem_append]
    rcases List.mem_cons.1 hd with rfl | h
    · exact Or.inl hn
    · exact Or.inr (weightsAll_mem h n hn)
theorem Szd.top {ts : List TypeId} {ds : List (DataW H)} (h : (DataW.weightsEach P ts ds).all (· ≤ reachBytes) = true) {j : Nat} {t : TypeId} {d : DataW H} (ht : ts[j]? = some t) (hd : ds[j]? = some d) : Szd P t d :=
  fun n hn => by simpa using List.all_eq_true.1 h _ (DataW.weights_mem_each ht hd n hn)
theorem Szd.field {t : TypeId} {fs : Array Field} {parts : List (DataW H)} (hu : P.underlying t = some (.struct fs)) (h : Szd P t (.agg parts)) {i : Nat} {f : Field} {d : DataW H} (hf : fs[i]? = some f) (hd : parts[i]? = some d) : Szd P f.type d := by
  intro n hn
  refine h n ?_
  simp only [DataW.weights, hu]
  refine DataW.weights_mem_each (j := i) (t := f.type) ?_ hd n hn
  rw [List.getElem?_map, Array.getElem?_toList, hf]; rfl
theorem Szd.elem {t e : TypeId} {elems spare : List (DataW H)} (hu : P.underlying t = some (.slice e)) (h : Szd P t (.slice elems spare)) {d : DataW H} (hd : d ∈ elems) : Szd P e d := by
  intro n hn
  refine h n ?_
  simp only [DataW.weights, hu, List.mem_cons, List.mem_append]
  exact .inr (.inl (weightsAll_mem hd n hn))

/-- the cells of type t that came in -/
def Opn (enc : TypeId × Value → H) (P : Program) (w : World) (t : TypeId) (cs : List Value) : Prop := ∃ fuel x, DataW.trod enc P w 0 (fun _ => true) true fuel t cs = some x ∧ Szd P t x.1
def fieldAt (P : Program) (t : TypeId) (i : Nat) : Option (TypeId × Nat) := match P.underlying t with | some (.struct fs) => (fs[i]?).map fun f => (f.type, f.offset) | _ => none
theorem Opn.fld {t : TypeId} {cs : List Value} (h : Opn enc P w t cs) (i : Nat) {ty off : Nat} (k : Nat) (hi : fieldAt P t i = some (ty, off)) (hk : P.cellsOf ty = k) : Opn enc P w ty ((cs.drop off).take k) := by
  unfold fieldAt at hi
  cases hu : P.underlying t with
  | none => rw [hu] at hi; cases hi
  | some u =>
    rw [hu] at hi
    cases u <;> try (cases hi; done)
    rename_i fs
    obtain ⟨fuel, x, hx, hs⟩ := h
    obtain ⟨xs, n, _, hx1, _, hxl, hf⟩ := DataW.trod_struct hu hx
    cases hfi : fs[i]? with
    | none => simp only [hfi] at hi; cases hi
    | some f =>
      simp only [hfi, Option.map_some, Option.some.injEq, Prod.mk.injEq] at hi
      obtain ⟨rfl, rfl⟩ := hi
      have hlt := (Array.getElem?_eq_some_iff.1 hfi).1
      have h1 := hf i f hfi
      rw [hk] at h1
      have h2 : xs[i]? = some xs[i] := List.getElem?_eq_getElem (by omega)
      rw [h2] at h1
      refine ⟨n, xs[i], h1, ?_⟩
      rw [hx1] at hs
      exact hs.field hu hfi (by rw [List.getElem?_map, h2]; rfl)
theorem Opn.len {t : TypeId} {cs : List Value} {fs : Array Field} (hu : P.underlying t = some (.struct fs)) (h : Opn enc P w t cs) : cs.length = P.cellsOf t := by
  obtain ⟨fuel, x, hx, _⟩ := h
  obtain ⟨xs, n, _, _, hl, _⟩ := DataW.trod_struct hu hx
  exact hl
theorem Opn.int {t : TypeId} {v : Value} (ht : P.underlying t = some (.int .i64)) (h : Opn enc P w t [v]) : ∃ z, v = .int .i64 z ∧ i64ok z := by
  obtain ⟨fuel, x, hx, _⟩ := h
  obtain ⟨z, e, _, hw⟩ := DataW.trod_int ht hx
  injection e with e
  exact ⟨z, e, by simpa [Lit.wf, i64ok, IntKind.min, IntKind.max, IntKind.signed, IntKind.bits] using hw⟩
theorem Opn.bool {t : TypeId} {v : Value} (ht : P.underlying t = some .bool) (h : Opn enc P w t [v]) : ∃ z, v = .bool z := by
  obtain ⟨fuel, x, hx, _⟩ := h
  obtain ⟨z, e, _⟩ := DataW.trod_bool ht hx
  injection e with e
  exact ⟨z, e⟩
theorem Opn.float {t : TypeId} {v : Value} (ht : P.underlying t = some (.float .f64)) (h : Opn enc P w t [v]) : ∃ b, v = .float .f64 b ∧ b < 18446744073709551616 := by
  obtain ⟨fuel, x, hx, _⟩ := h
  cases fuel with
  | zero => simp [DataW.trod] at hx
  | succ n =>
    unfold DataW.trod at hx
    rw [ht] at hx
    split at hx <;> simp_all
    rename_i heq
    obtain ⟨⟨_, hw⟩, _⟩ := hx
    rw [← heq] at hw
    simpa [Lit.wf] using hw
theorem Opn.str {t : TypeId} {v : Value} (ht : P.underlying t = some .string) (h : Opn enc P w t [v]) : ∃ s, v = .string s ∧ s.size ≤ 140737488351232 := by
  obtain ⟨fuel, x, hx, hs⟩ := h
  cases fuel with
  | zero => simp [DataW.trod] at hx
  | succ n =>
    unfold DataW.trod at hx
    rw [ht] at hx
    split at hx <;> simp_all
    obtain ⟨_, rfl⟩ := hx
    have := hs _ (by simp only [DataW.weights, List.mem_cons, List.not_mem_nil, or_false]; rfl)
    show _ ≤ reachBytes
    simpa using this
/-- a slice that came in -/
theorem Opn.slice {α : Type} (R : Rel α) (size : Nat) (hsz : 0 < size) {t e : TypeId} {v : Value} (ht : P.underlying t = some (.slice e)) (hc : P.cellsOf e = size)
    (hel : ∀ cs : List Value, cs.length = size → Opn enc P w e cs → ∃ a, R w w.heap.size cs a) (h : Opn enc P w t [v]) : ∃ l, HdRel R size w w.heap.size v l := by
  obtain ⟨fuel, x, hf, hs⟩ := h
  rcases Go.Deep.open_slice ht hf with ⟨hcs, _⟩ | ⟨a, n, c, m, k, D, Pl, hcs, _, hl, hm, hmm, hx, hi⟩
  · injection hcs with hcs
    subst hcs
    exact ⟨[], HdRel.nil⟩
  · injection hcs with hcs
    subst hcs
    have hmm' : m = c := by rw [hmm]; rfl
    have hall : ∀ i, i < n → ∃ (x : List Value × α), x.1.length = size ∧ (∀ j u, x.1[j]? = some u → w.cell? (a.add (i * size + j)) = some u) ∧ R w w.heap.size x.1 x.2 := by
      intro i hin
      obtain ⟨cs', hcell, ht'⟩ := hi i (by omega)
      rw [hc] at hcell
      obtain ⟨_, hlen, hat⟩ := World.cells?_some hcell
      obtain ⟨x, hx⟩ := hel cs' hlen ⟨k, _, ht', by
        rw [hx] at hs
        exact hs.elem ht (List.mem_map.2 ⟨i, List.mem_range.2 hin, rfl⟩)⟩
      refine ⟨(cs', x), hlen, fun j u hu => ?_, hx⟩
      have hj : j < size := by
        rw [← hlen]
        exact (List.getElem?_eq_some_iff.1 hu).1
      rw [← add_of_add, hat j hj]
      exact hu
    by_cases hn : n = 0
    · subst hn
      exact ⟨[], _, _, _, rfl, hl, hm, Sl.nil⟩
    · obtain ⟨x0, _⟩ := hall 0 (by omega)
      have : Inhabited (List Value × α) := ⟨x0⟩
      obtain ⟨f, hf⟩ := Go.Deep.choose_lt hall
      refine ⟨(List.range n).map fun i => (f i).2, _, _, _, rfl, hl, hm, by simp, fun i b hb => ?_⟩
      have hin : i < n := by
        have := (List.getElem?_eq_some_iff.1 hb).1
        simpa using this
      obtain ⟨h1, h2, h3⟩ := hf i hin
      have hb' : b = (f i).2 := by
        rw [List.getElem?_map, List.getElem?_range hin] at hb
        exact (Option.some.inj hb).symm
      subst hb'
      refine ⟨a, (f i).1, rfl, ?_, h1, h2, h3⟩
      have h0 := h2 0 _ (List.getElem?_eq_getElem (by omega))
      have := World.block_lt_of_cell? w _ h0
      rw [block_of_add] at this
      exact this
/-- an argument of one cell, a struct -/
theorem Opn.of {t : TypeId} {v : Value} {d : DataW H} {ps : List MemPlace} (h : DataW.Trod enc P w 0 (fun _ => true) true t v d ps) (hs : Szd P t d) : Opn enc P w t v.cells.toList := by
  obtain ⟨fuel, hf⟩ := h
  exact ⟨fuel, _, hf, hs⟩
end

section
variable {H : Type} {enc : TypeId × Value → H} {w : World}
theorem opn_vl {cs : List Value} (h : Opn enc Try.prog w 53 cs) : ∃ v : Vl, cs = v.cells ∧ v.ok := by
  have hl := h.len Try.underlying53
  rw [show Try.prog.cellsOf 53 = 3 from by kernel_rfl] at hl
  match cs, hl with
  | [c0, c1, c2], _ =>
    obtain ⟨x0, rfl, h0⟩ := (h.fld 0 1 (ty := 3) (off := 0) (by kernel_rfl) (by kernel_rfl)).int Try.underlying3
    obtain ⟨x1, rfl, h1⟩ := (h.fld 1 1 (ty := 22) (off := 1) (by kernel_rfl) (by kernel_rfl)).float Try.underlying22
    obtain ⟨x2, rfl, h2⟩ := (h.fld 2 1 (ty := 9) (off := 2) (by kernel_rfl) (by kernel_rfl)).str Try.underlying9
    exact ⟨⟨x0, x1, x2⟩, rfl, h0, h1, h2⟩
theorem opn_wt {cs : List Value} (h : Opn enc Try.prog w 96 cs) : ∃ v : Wt, cs = v.cells ∧ v.ok := by
  have hl := h.len Try.underlying96
  rw [show Try.prog.cellsOf 96 = 4 from by kernel_rfl] at hl
  match cs, hl with
  | [c0, c1, c2, c3], _ =>
    obtain ⟨x0, rfl, h0⟩ := (h.fld 0 1 (ty := 9) (off := 0) (by kernel_rfl) (by kernel_rfl)).str Try.underlying9
    obtain ⟨x1, e1, h1⟩ := opn_vl (h.fld 1 3 (ty := 53) (off := 1) (by kernel_rfl) (by kernel_rfl))
    refine ⟨⟨x0, x1⟩, ?_, h0, h1⟩
    change [c1, c2, c3] = _ at e1
    rw [e1]; rfl
theorem opn_wts {v : Value} (h : Opn enc Try.prog w 45 [v]) : ∃ l, HdRel WtRel 4 w w.heap.size v l :=
  h.slice WtRel 4 (by omega) Try.underlying45 (by kernel_rfl) fun _ _ ho => opn_wt ho
set_option maxRecDepth 100000 in
theorem open_wts {r : Reach} {b0 : Nat} {v : Value} {d : DataW H} {ps : List MemPlace} (hv : Value.okWide Try.prog w r b0 45 v) (h : DataW.Trod enc Try.prog w 0 (fun _ => true) true 45 v d ps) (hs : Szd Try.prog 45 d) :
    ∃ A n c l, v = .slice A n c ∧ n ≤ c ∧ c ≤ maxLen ∧ Sl WtRel 4 w w.heap.size A n l := by
  obtain ⟨A, n, c, rfl⟩ := okWide_slice Try.underlying45 hv
  obtain ⟨l, A', n', c', e, h1, h2, h3⟩ := opn_wts (Opn.of h hs)
  injection e with e1 e2 e3
  subst e1 e2 e3
  exact ⟨_, _, _, l, rfl, h1, h2, h3⟩
end
end Go.Proofs.Ytipacjbegfingaa
