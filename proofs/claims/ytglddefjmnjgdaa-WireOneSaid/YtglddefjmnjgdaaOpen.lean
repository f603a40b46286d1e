/- Items and bytes that came in. -/
import Derived.Test.YtglddefjmnjgdaaFrame
import Derived.Test.YtglddefjmnjgdaaWa
namespace Go.Proofs.Ytglddefjmnjgdaa
open Go.ChangeShapes Go.WideShapes Go.RowKit
section
variable {H : Type} {enc : TypeId × Value → H} {P : Program} {w : World} {base : Nat} {spare : Nat → Bool} {held : Bool}
theorem trod_float {t : TypeId} {k : FloatKind} {fuel : Nat} {cs : List Value} {x : DataW H × List MemPlace} (ht : P.underlying t = some (.float k)) (h : DataW.trod enc P w base spare held fuel t cs = some x) : ∃ b, cs = [.float k b] ∧ (Lit.float k b).wf = true := by
  cases fuel with
  | zero => simp [DataW.trod] at h
  | succ n =>
    unfold DataW.trod at h
    rw [ht] at h
    split at h <;> simp_all
theorem trod_string {t : TypeId} {fuel : Nat} {cs : List Value} {x : DataW H × List MemPlace} (ht : P.underlying t = some .string) (h : DataW.trod enc P w base spare held fuel t cs = some x) : ∃ s, cs = [.string s] ∧ s.size ≤ maxLen := by
  cases fuel with
  | zero => simp [DataW.trod] at h
  | succ n =>
    unfold DataW.trod at h
    rw [ht] at h
    split at h <;> simp_all
theorem it_of_cells {fuel : Nat} {cs : List Value} {x : DataW H × List MemPlace} (h : DataW.trod enc Try.prog w base spare held fuel 30 cs = some x) : ∃ r : It, cs = r.cells ∧ r.ok := by
  obtain ⟨xs, n, _, _, hlen, hxl, hf⟩ := DataW.trod_struct Try.underlying30 h
  have hc : Try.prog.cellsOf 30 = 5 := by kernel_rfl
  rw [hc] at hlen
  match cs, hlen with
  | [c0, c1, c2, c3, c4], _ =>
    have ci : Try.prog.cellsOf 3 = 1 := by kernel_rfl
    have cb : Try.prog.cellsOf 4 = 1 := by kernel_rfl
    have cf : Try.prog.cellsOf 28 = 1 := by kernel_rfl
    have cs' : Try.prog.cellsOf 9 = 1 := by kernel_rfl
    have g0 := hf 0 _ rfl
    have g1 := hf 1 _ rfl
    have g2 := hf 2 _ rfl
    have g3 := hf 3 _ rfl
    have g4 := hf 4 _ rfl
    change DataW.trod enc Try.prog w base spare held n 3 ((List.drop 0 [c0, c1, c2, c3, c4]).take (Try.prog.cellsOf 3)) = xs[0]? at g0
    change DataW.trod enc Try.prog w base spare held n 3 ((List.drop 1 [c0, c1, c2, c3, c4]).take (Try.prog.cellsOf 3)) = xs[1]? at g1
    change DataW.trod enc Try.prog w base spare held n 4 ((List.drop 2 [c0, c1, c2, c3, c4]).take (Try.prog.cellsOf 4)) = xs[2]? at g2
    change DataW.trod enc Try.prog w base spare held n 28 ((List.drop 3 [c0, c1, c2, c3, c4]).take (Try.prog.cellsOf 28)) = xs[3]? at g3
    change DataW.trod enc Try.prog w base spare held n 9 ((List.drop 4 [c0, c1, c2, c3, c4]).take (Try.prog.cellsOf 9)) = xs[4]? at g4
    rw [ci] at g0 g1
    rw [cb] at g2
    rw [cf] at g3
    rw [cs'] at g4
    have hs : xs.length = 5 := hxl
    rw [List.getElem?_eq_getElem (by omega)] at g0 g1 g2 g3 g4
    obtain ⟨i0, e0, _, w0⟩ := DataW.trod_int Try.underlying3 g0
    obtain ⟨i1, e1, _, w1⟩ := DataW.trod_int Try.underlying3 g1
    obtain ⟨i2, e2, _⟩ := DataW.trod_bool Try.underlying4 g2
    obtain ⟨i3, e3, w3⟩ := trod_float Try.underlying28 g3
    obtain ⟨i4, e4, w4⟩ := trod_string Try.underlying9 g4
    simp at e0 e1 e2 e3 e4
    subst e0 e1 e2 e3 e4
    refine ⟨⟨i0, i1, i2, i3, i4⟩, rfl, ?_, ?_, ?_, ?_⟩
    · simpa [Lit.wf, i64ok, IntKind.min, IntKind.max, IntKind.signed, IntKind.bits] using w0
    · simpa [Lit.wf, i64ok, IntKind.min, IntKind.max, IntKind.signed, IntKind.bits] using w1
    · simpa [Lit.wf] using w3
    · exact w4
/-- a slice of items that came in -/
theorem open_its {r : Reach} {b0 : Nat} {v : Value} {d : DataW H} {ps : List MemPlace} (hv : Value.okWide Try.prog w r b0 22 v) (h : DataW.Trod enc Try.prog w 0 (fun _ => true) true 22 v d ps) :
    ∃ A n c l, v = .slice A n c ∧ n ≤ maxLen ∧ n ≤ c ∧ c ≤ maxLen ∧ Sl ItRel 5 w w.heap.size A n l :=
  open_sl ItRel 5 (by omega) Try.underlying22 (by kernel_rfl) (fun f cs x _ hx => by obtain ⟨r, h1, h2⟩ := it_of_cells hx; exact ⟨r, h1, h2⟩) hv h
/-- a slice of bytes that came in -/
theorem open_bytes {r : Reach} {b0 : Nat} {v : Value} {d : DataW H} {ps : List MemPlace} (hv : Value.okWide Try.prog w r b0 31 v) (h : DataW.Trod enc Try.prog w 0 (fun _ => true) true 31 v d ps) :
    ∃ A n c bs, v = .slice A n c ∧ n ≤ maxLen ∧ n ≤ c ∧ c ≤ maxLen ∧ Reads w w.heap.size 1 A n (bytesV bs) := by
  obtain ⟨A, n, c, l, rfl, h1, h2, h3, h4⟩ := open_sl (Flat (fun b : UInt8 => [.int .u8 (b.toNat : Int)]) fun _ => True) 1 (by omega) Try.underlying31 (by kernel_rfl) (fun f cs x _ hx => by
    obtain ⟨b, rfl, _, hb⟩ := DataW.trod_int Try.underlying5 hx
    have hb' : 0 ≤ b ∧ b ≤ 255 := by simpa [Lit.wf, IntKind.min, IntKind.max, IntKind.signed, IntKind.bits] using hb
    refine ⟨b.toNat.toUInt8, ?_, trivial⟩
    show [Value.int .u8 b] = [.int .u8 ((b.toNat % 256 : Nat) : Int)]
    congr 2
    omega) hv h
  have hr := Sl.reads (size := 1) (by omega) (fun _ => rfl) h4
  refine ⟨A, n, c, l, rfl, h1, h2, h3, ?_⟩
  have e : l.flatMap (fun b : UInt8 => [Value.int .u8 (b.toNat : Int)]) = bytesV l := by
    clear hr h4
    induction l with
    | nil => rfl
    | cons a l ih => rw [List.flatMap_cons, ih]; rfl
  rw [← e]; exact hr
end
end Go.Proofs.Ytglddefjmnjgdaa
