/- Ranges that came in: an argument, or an element of a slice. -/
import Derived.Test.YtbclfcfcpmlaaaaFrame
import Derived.Test.YtbclfcfcpmlaaaaWords
namespace Go.Proofs.Ytbclfcfcpmlaaaa
open Go.ChangeShapes Go.WideShapes Go.RowKit
section
variable {H : Type} {enc : TypeId × Value → H} {P : Program} {w : World} {base : Nat} {spare : Nat → Bool} {held : Bool}
theorem trod_float {t : TypeId} {k : FloatKind} {fuel : Nat} {cs : List Value} {x : DataW H × List MemPlace} (ht : P.underlying t = some (.float k)) (h : DataW.trod enc P w base spare held fuel t cs = some x) : ∃ b, cs = [.float k b] ∧ (Lit.float k b).wf = true := by
  cases fuel with
  | zero => simp [DataW.trod] at h
  | succ n =>
    unfold DataW.trod at h
    rw [ht] at h
    split at h <;> simp_all
theorem rg_of_cells {fuel : Nat} {cs : List Value} {x : DataW H × List MemPlace} (h : DataW.trod enc Try.prog w base spare held fuel 39 cs = some x) : ∃ r : Rg, cs = r.cells ∧ r.ok := by
  obtain ⟨xs, n, _, _, hlen, hxl, hf⟩ := DataW.trod_struct Try.underlying39 h
  have hc : Try.prog.cellsOf 39 = 4 := by kernel_rfl
  rw [hc] at hlen
  match cs, hlen with
  | [c0, c1, c2, c3], _ =>
    have ci : Try.prog.cellsOf 3 = 1 := by kernel_rfl
    have cf : Try.prog.cellsOf 23 = 1 := by kernel_rfl
    have g0 := hf 0 _ rfl
    have g1 := hf 1 _ rfl
    have g2 := hf 2 _ rfl
    have g3 := hf 3 _ rfl
    change DataW.trod enc Try.prog w base spare held n 3 ((List.drop 0 [c0, c1, c2, c3]).take (Try.prog.cellsOf 3)) = xs[0]? at g0
    change DataW.trod enc Try.prog w base spare held n 3 ((List.drop 1 [c0, c1, c2, c3]).take (Try.prog.cellsOf 3)) = xs[1]? at g1
    change DataW.trod enc Try.prog w base spare held n 23 ((List.drop 2 [c0, c1, c2, c3]).take (Try.prog.cellsOf 23)) = xs[2]? at g2
    change DataW.trod enc Try.prog w base spare held n 23 ((List.drop 3 [c0, c1, c2, c3]).take (Try.prog.cellsOf 23)) = xs[3]? at g3
    rw [ci] at g0 g1
    rw [cf] at g2 g3
    have hs : xs.length = 4 := hxl
    rw [List.getElem?_eq_getElem (by omega)] at g0 g1 g2 g3
    obtain ⟨i0, e0, _, w0⟩ := DataW.trod_int Try.underlying3 g0
    obtain ⟨i1, e1, _, w1⟩ := DataW.trod_int Try.underlying3 g1
    obtain ⟨i2, e2, w2⟩ := trod_float Try.underlying23 g2
    obtain ⟨i3, e3, w3⟩ := trod_float Try.underlying23 g3
    simp at e0 e1 e2 e3
    subst e0 e1 e2 e3
    refine ⟨⟨i0, i1, i2, i3⟩, rfl, ?_, ?_, ?_, ?_⟩
    · simpa [Lit.wf, i64ok, IntKind.min, IntKind.max, IntKind.signed, IntKind.bits] using w0
    · simpa [Lit.wf, i64ok, IntKind.min, IntKind.max, IntKind.signed, IntKind.bits] using w1
    · simpa [Lit.wf] using w2
    · simpa [Lit.wf] using w3
theorem open_rg {r : Reach} {b0 : Nat} {v : Value} {d : DataW H} {ps : List MemPlace} (hv : Value.okWide Try.prog w r b0 39 v) (h : DataW.Trod enc Try.prog w base spare held 39 v d ps) :
    ∃ x : Rg, v = x.val ∧ x.ok := by
  obtain ⟨cs, rfl, hsz⟩ := okWide_struct Try.underlying39 hv
  obtain ⟨fuel, hf⟩ := h
  obtain ⟨x, hx, hok⟩ := rg_of_cells hf
  refine ⟨x, ?_, hok⟩
  have : cs = x.cells.toArray := by
    have e : cs.toList = x.cells := hx
    rw [← e, Array.toArray_toList]
  rw [this]; rfl
/-- a slice of ranges that came in -/
theorem open_rgs {r : Reach} {b0 : Nat} {v : Value} {d : DataW H} {ps : List MemPlace} (hv : Value.okWide Try.prog w r b0 35 v) (h : DataW.Trod enc Try.prog w 0 (fun _ => true) true 35 v d ps) :
    ∃ A n c l, v = .slice A n c ∧ n ≤ maxLen ∧ n ≤ c ∧ c ≤ maxLen ∧ Sl RgRel 4 w w.heap.size A n l :=
  open_sl RgRel 4 (by omega) Try.underlying35 (by kernel_rfl) (fun f cs x _ hx => by obtain ⟨r, h1, h2⟩ := rg_of_cells hx; exact ⟨r, h1, h2⟩) hv h
end
end Go.Proofs.Ytbclfcfcpmlaaaa
