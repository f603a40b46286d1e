/- The frame of a law's row: a walk that ends in true and leaves what was there as it was proves the row. -/
import Derived.Test.YtipacjbegfingaaRows
import Derived.ProofKit
import Derived.Below
import Derived.Deep.Slices
import Derived.Test.YtipacjbegfingaaWords
namespace Go.Proofs.Ytipacjbegfingaa
open Go.ChangeShapes Go.WideShapes Go.ChangeAt Go.RowKit

theorem Try.own : ownKnob Try.prog.godebug = none := by kernel_rfl
theorem Try.laidOut : laidOutB Try.prog = true := by kernel_rfl

section
variable {H : Type} {enc : TypeId × Value → H} {P : Program}

/-- arguments read on, where nothing that was there has turned -/
theorem trodAll_below (hl : laidOutB P = true) {W W' : World} (hb : Below W.heap.size W W') :
    ∀ (ts : List TypeId) (vs : List Value) (ds : List (DataW H)) (ps : List MemPlace), (∀ t ∈ ts, P.readableRec t = true ∧ t < P.types.size) →
      DataW.TrodAll enc P W 0 (fun _ => true) true ts vs ds ps → (∀ x ∈ ps, x.block < W.heap.size) →
      DataW.TrodAll enc P W' 0 (fun b => decide (b < W.heap.size)) true ts vs ds ps
  | [], [], [], _, _, h, _ => h
  | t :: ts, v :: vs, d :: ds, ps, hr, h, hlt => by
    obtain ⟨p, q, h1, h2, rfl⟩ := h
    exact ⟨p, q, Below.trod hl (hr t (by simp)).1 (hr t (by simp)).2 h1 hb (fun x hx => hlt x (by simp [hx])),
      trodAll_below hl hb ts vs ds q (fun t ht => hr t (by simp [ht])) h2 (fun x hx => hlt x (by simp [hx])), rfl⟩
  | [], _ :: _, _, _, _, h, _ => h.elim
  | [], [], _ :: _, _, _, h, _ => h.elim
  | _ :: _, [], _, _, _, h, _ => h.elim
  | _ :: _, _ :: _, [], _, _, h, _ => h.elim

/-- THE ROW's POST of a law: true, the arguments as they were -/
theorem law_post (hl : laidOutB P = true) {f : Func} {s : ChangeSpec} {apart fresh handsOn : Bool} {W W' : World} {args : Array Value} {ds gs : List (DataW H)} {before : List MemPlace} {tb : TypeId}
    (hvars : s.vars = []) (hres : f.resultTypes = #[tb]) (htb : P.underlying tb = some .bool)
    (hread : ∀ t ∈ f.params.toList, P.readableRec t = true ∧ t < P.types.size)
    (hfn : s.fn H (ds ++ []) = { results := [.lit (.bool true)], args := ds })
    (hW : DataW.Whole enc P f.params.toList s.vars apart W args.toList ds gs before) (hb : Below W.heap.size W W') :
    s.post enc P f apart fresh handsOn false W args (.bool true) W' := by
  have hW' := hW
  have hlt : ∀ p ∈ before, p.block < W.heap.size := fun p hp => hW.lt p hp
  obtain ⟨p, q, hA, hV, rfl, hfz, hnd⟩ := hW
  rw [hvars] at hV
  obtain ⟨rfl, rfl⟩ := trodVars_none hV
  have e1 : (s.fn H (ds ++ ([] : List (DataW H)))).results = [.lit (.bool true)] := by rw [hfn]
  have e2 : (s.fn H (ds ++ ([] : List (DataW H)))).args = ds := by rw [hfn]
  have e3 : (s.fn H (ds ++ ([] : List (DataW H)))).vars = [] := by rw [hfn]
  refine ⟨ds, [], p ++ [], [], p, [], hW', ?_, ?_, ?_, World.keptBut_mono (fun x hx => ⟨hx, ?_⟩) (hb.frame (· ∈ p ++ [])), fun h => by cases h⟩
  · rw [e1, hres]
    exact trodAll_mk1 (shut_bool htb true)
  · rw [e2]
    exact trodAll_below hl hb _ _ _ _ hread hA (fun x hx => hlt x (by simp [hx]))
  · rw [e3, hvars]
    rfl
  · simpa using hx
end

section
variable {H : Type} {enc : TypeId × Value → H} {P : Program} {w : World}
/-- a slice that came in, element by element: each element's cells, as R has them -/
theorem open_sl {α : Type} (R : Rel α) (size : Nat) (hsz : 0 < size) {t e : TypeId} {v : Value} {d : DataW H} {ps : List MemPlace} {r : Reach} {b0 : Nat} (ht : P.underlying t = some (.slice e)) (hc : P.cellsOf e = size)
    (hel : ∀ (fuel : Nat) (cs : List Value) (x : DataW H × List MemPlace), cs.length = size → DataW.trod enc P w 0 (fun _ => true) true fuel e cs = some x → ∃ a, R w w.heap.size cs a)
    (hv : Value.okWide P w r b0 t v) (h : DataW.Trod enc P w 0 (fun _ => true) true t v d ps) :
    ∃ A n c l, v = .slice A n c ∧ n ≤ maxLen ∧ n ≤ c ∧ c ≤ maxLen ∧ Sl R size w w.heap.size A n l := by
  obtain ⟨A, n, c, rfl⟩ := okWide_slice ht hv
  obtain ⟨fuel, hf⟩ := h
  rcases Go.Deep.open_slice ht hf with ⟨hcs, _⟩ | ⟨a, len, cap, m, k, D, Pl, hcs, _, hl, hm, hmm, _, hi⟩
  · simp only [Value.cells, List.cons.injEq, Value.slice.injEq] at hcs
    obtain ⟨⟨rfl, rfl, rfl⟩, _⟩ := hcs
    exact ⟨_, _, _, [], rfl, by unfold maxLen; omega, by omega, by unfold maxLen; omega, Sl.nil⟩
  · simp only [Value.cells, List.cons.injEq, Value.slice.injEq] at hcs
    obtain ⟨⟨rfl, rfl, rfl⟩, _⟩ := hcs
    have hmm' : m = c := by rw [hmm]; rfl
    have hall : ∀ i, i < n → ∃ (x : List Value × α), x.1.length = size ∧ (∀ j u, x.1[j]? = some u → w.cell? (a.add (i * size + j)) = some u) ∧ R w w.heap.size x.1 x.2 := by
      intro i hin
      obtain ⟨cs', hcell, ht'⟩ := hi i (by omega)
      rw [hc] at hcell
      obtain ⟨_, hlen, hat⟩ := World.cells?_some hcell
      obtain ⟨x, hx⟩ := hel k cs' _ hlen ht'
      refine ⟨(cs', x), hlen, fun j u hu => ?_, hx⟩
      have hj : j < size := by
        rw [← hlen]
        exact (List.getElem?_eq_some_iff.1 hu).1
      rw [← add_of_add, hat j hj]
      exact hu
    by_cases hn : n = 0
    · subst hn
      exact ⟨_, _, _, [], rfl, by omega, hl, hm, Sl.nil⟩
    · obtain ⟨x0, _⟩ := hall 0 (by omega)
      have : Inhabited (List Value × α) := ⟨x0⟩
      obtain ⟨f, hf⟩ := Go.Deep.choose_lt hall
      refine ⟨_, _, _, (List.range n).map fun i => (f i).2, rfl, by omega, hl, hm, by simp, fun i b hb => ?_⟩
      have hin : i < n := by
        have := (List.getElem?_eq_some_iff.1 hb).1
        simpa using this
      obtain ⟨h1, h2, h3⟩ := hf i hin
      have hb' : b = (f i).2 := by
        rw [List.getElem?_map, List.getElem?_range hin] at hb
        exact (Option.some.inj hb).symm
      subst hb'
      refine ⟨a, (f i).1, rfl, ?_, h1, h2, h3⟩
      have h0 := h2 0 _ (List.getElem?_eq_getElem (by omega))
      have := World.block_lt_of_cell? w _ h0
      rw [block_of_add] at this
      exact this
end
end Go.Proofs.Ytipacjbegfingaa
