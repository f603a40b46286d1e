/- Data that came in: stamps, versions, histories, pending ones, states. -/
import Derived.Test.YtipacjbegfingaaGreatYaaa
import Derived.Test.YtipacjbegfingaaGreatYaah
namespace Go.Proofs.YtipacjbegfingaaGreat
set_option linter.unusedVariables false
open Go.ChangeShapes Go.WideShapes Go.RowKit
section
variable {H : Type} {enc : TypeId × Value → H} {w : World}
theorem opn_sp {cs : List Value} (h : Opn enc Tryz.prog w 26 cs) : ∃ v : Sp, cs = [.int .i64 v.w, .int .i64 v.l, .int .i64 v.n] ∧ v.ok := by
  have hl := h.len Tryz.underlying26
  rw [show Tryz.prog.cellsOf 26 = 3 from by kernel_rfl] at hl
  match cs, hl with
  | [c0, c1, c2], _ =>
    obtain ⟨x0, rfl, h0⟩ := (h.fld 0 1 (ty := 3) (off := 0) (by kernel_rfl) (by kernel_rfl)).int Tryz.underlying3
    obtain ⟨x1, rfl, h1⟩ := (h.fld 1 1 (ty := 3) (off := 1) (by kernel_rfl) (by kernel_rfl)).int Tryz.underlying3
    obtain ⟨x2, rfl, h2⟩ := (h.fld 2 1 (ty := 3) (off := 2) (by kernel_rfl) (by kernel_rfl)).int Tryz.underlying3
    exact ⟨⟨x0, x1, x2⟩, rfl, h0, h1, h2⟩
theorem opn_tx {cs : List Value} (h : Opn enc Tryz.prog w 41 cs) : ∃ v : Tx, cs = [.int .i64 v.c, .int .i64 v.l, .int .i64 v.s] ∧ v.ok := by
  have hl := h.len Tryz.underlying41
  rw [show Tryz.prog.cellsOf 41 = 3 from by kernel_rfl] at hl
  match cs, hl with
  | [c0, c1, c2], _ =>
    obtain ⟨x0, rfl, h0⟩ := (h.fld 0 1 (ty := 3) (off := 0) (by kernel_rfl) (by kernel_rfl)).int Tryz.underlying3
    obtain ⟨x1, rfl, h1⟩ := (h.fld 1 1 (ty := 3) (off := 1) (by kernel_rfl) (by kernel_rfl)).int Tryz.underlying3
    obtain ⟨x2, rfl, h2⟩ := (h.fld 2 1 (ty := 3) (off := 2) (by kernel_rfl) (by kernel_rfl)).int Tryz.underlying3
    exact ⟨⟨x0, x1, x2⟩, rfl, h0, h1, h2⟩
theorem opn_rg {cs : List Value} (h : Opn enc Tryz.prog w 24 cs) : ∃ v : Rg, cs = v.cells ∧ v.ok := by
  have hl := h.len Tryz.underlying24
  rw [show Tryz.prog.cellsOf 24 = 4 from by kernel_rfl] at hl
  match cs, hl with
  | [c0, c1, c2, c3], _ =>
    obtain ⟨x0, rfl, h0⟩ := (h.fld 0 1 (ty := 3) (off := 0) (by kernel_rfl) (by kernel_rfl)).int Tryz.underlying3
    obtain ⟨x1, rfl, h1⟩ := (h.fld 1 1 (ty := 3) (off := 1) (by kernel_rfl) (by kernel_rfl)).int Tryz.underlying3
    obtain ⟨x2, rfl, h2⟩ := (h.fld 2 1 (ty := 22) (off := 2) (by kernel_rfl) (by kernel_rfl)).float Tryz.underlying22
    obtain ⟨x3, rfl, h3⟩ := (h.fld 3 1 (ty := 22) (off := 3) (by kernel_rfl) (by kernel_rfl)).float Tryz.underlying22
    exact ⟨⟨x0, x1, x2, x3⟩, rfl, h0, h1, h2, h3⟩
theorem opn_vn {cs : List Value} (h : Opn enc Tryz.prog w 64 cs) : ∃ v : Vn, cs = v.cells ∧ v.ok := by
  have hl := h.len Tryz.underlying64
  rw [show Tryz.prog.cellsOf 64 = 6 from by kernel_rfl] at hl
  match cs, hl with
  | [c0, c1, c2, c3, c4, c5], _ =>
    obtain ⟨x0, e0, h0⟩ := opn_sp (h.fld 0 3 (ty := 26) (off := 0) (by kernel_rfl) (by kernel_rfl))
    obtain ⟨x1, e1, h1⟩ := opn_vl (h.fld 1 3 (ty := 62) (off := 3) (by kernel_rfl) (by kernel_rfl))
    refine ⟨⟨x0, x1⟩, ?_, h0, h1⟩
    change [c0, c1, c2] = _ at e0
    change [c3, c4, c5] = _ at e1
    show [c0, c1, c2] ++ [c3, c4, c5] = _
    rw [e0, e1]; rfl
theorem opn_kys {v : Value} (h : Opn enc Tryz.prog w 42 [v]) : ∃ l, HdRel KyRel 1 w w.heap.size v l :=
  h.slice KyRel 1 (by omega) Tryz.underlying42 (by kernel_rfl) fun cs hl ho => by
    match cs, hl with
    | [c0], _ =>
      obtain ⟨s, rfl, hs⟩ := ho.str Tryz.underlying9
      exact ⟨s, rfl, hs⟩
theorem opn_vns {v : Value} (h : Opn enc Tryz.prog w 57 [v]) : ∃ l, HdRel VnRel 6 w w.heap.size v l :=
  h.slice VnRel 6 (by omega) Tryz.underlying57 (by kernel_rfl) fun _ _ ho => opn_vn ho
theorem opn_hs {cs : List Value} (h : Opn enc Tryz.prog w 59 cs) : ∃ x : Hs, HsRel w w.heap.size cs x := by
  have hl := h.len Tryz.underlying59
  rw [show Tryz.prog.cellsOf 59 = 2 from by kernel_rfl] at hl
  match cs, hl with
  | [c0, c1], _ =>
    obtain ⟨x0, rfl, h0⟩ := (h.fld 0 1 (ty := 9) (off := 0) (by kernel_rfl) (by kernel_rfl)).str Tryz.underlying9
    obtain ⟨l, hd⟩ := opn_vns (h.fld 1 1 (ty := 57) (off := 1) (by kernel_rfl) (by kernel_rfl))
    exact ⟨⟨x0, l⟩, _, rfl, h0, hd⟩
theorem opn_hss {v : Value} (h : Opn enc Tryz.prog w 27 [v]) : ∃ l, HdRel HsRel 2 w w.heap.size v l :=
  h.slice HsRel 2 (by omega) Tryz.underlying27 (by kernel_rfl) fun _ _ ho => opn_hs ho
theorem opn_pn {cs : List Value} (h : Opn enc Tryz.prog w 45 cs) : ∃ x : Pn, PnRel w w.heap.size cs x := by
  have hl := h.len Tryz.underlying45
  rw [show Tryz.prog.cellsOf 45 = 8 from by kernel_rfl] at hl
  match cs, hl with
  | [c0, c1, c2, c3, c4, c5, c6, c7], _ =>
    obtain ⟨x0, e0, h0⟩ := opn_tx (h.fld 0 3 (ty := 41) (off := 0) (by kernel_rfl) (by kernel_rfl))
    obtain ⟨x1, e1, h1⟩ := opn_sp (h.fld 1 3 (ty := 26) (off := 3) (by kernel_rfl) (by kernel_rfl))
    obtain ⟨l, hr⟩ := opn_kys (h.fld 2 1 (ty := 42) (off := 6) (by kernel_rfl) (by kernel_rfl))
    obtain ⟨m, hq⟩ := opn_wts (h.fld 3 1 (ty := 43) (off := 7) (by kernel_rfl) (by kernel_rfl))
    refine ⟨⟨x0, x1, l, m⟩, c6, c7, ?_, h0, h1, hr, hq⟩
    change [c0, c1, c2] = _ at e0
    change [c3, c4, c5] = _ at e1
    show [c0, c1, c2] ++ ([c3, c4, c5] ++ [c6, c7]) = _
    rw [e0, e1]; rfl
theorem opn_pns {v : Value} (h : Opn enc Tryz.prog w 28 [v]) : ∃ l, HdRel PnRel 8 w w.heap.size v l :=
  h.slice PnRel 8 (by omega) Tryz.underlying28 (by kernel_rfl) fun _ _ ho => opn_pn ho
theorem opn_st {cs : List Value} (h : Opn enc Tryz.prog w 30 cs) : ∃ (s : Stt) (a b : Value), cs = (s.arr a b).toList ∧ s.r.ok ∧ s.f.ok ∧ s.c.ok ∧ HdRel HsRel 2 w w.heap.size a s.h ∧ HdRel PnRel 8 w w.heap.size b s.p := by
  have hl := h.len Tryz.underlying30
  rw [show Tryz.prog.cellsOf 30 = 12 from by kernel_rfl] at hl
  match cs, hl with
  | [c0, c1, c2, c3, c4, c5, c6, c7, c8, c9, c10, c11], _ =>
    obtain ⟨x0, e0, h0⟩ := opn_rg (h.fld 0 4 (ty := 24) (off := 0) (by kernel_rfl) (by kernel_rfl))
    obtain ⟨x1, e1, h1⟩ := opn_sp (h.fld 1 3 (ty := 26) (off := 4) (by kernel_rfl) (by kernel_rfl))
    obtain ⟨x2, e2, h2⟩ := opn_sp (h.fld 2 3 (ty := 26) (off := 7) (by kernel_rfl) (by kernel_rfl))
    obtain ⟨l, hr⟩ := opn_hss (h.fld 3 1 (ty := 27) (off := 10) (by kernel_rfl) (by kernel_rfl))
    obtain ⟨m, hq⟩ := opn_pns (h.fld 4 1 (ty := 28) (off := 11) (by kernel_rfl) (by kernel_rfl))
    refine ⟨⟨x0, x1, x2, l, m⟩, c10, c11, ?_, h0, h1, h2, hr, hq⟩
    change [c0, c1, c2, c3] = _ at e0
    change [c4, c5, c6] = _ at e1
    change [c7, c8, c9] = _ at e2
    show [c0, c1, c2, c3] ++ ([c4, c5, c6] ++ ([c7, c8, c9] ++ [c10, c11])) = _
    rw [e0, e1, e2]; rfl
set_option maxRecDepth 100000 in
theorem open_st {r : Reach} {b0 : Nat} {v : Value} {d : DataW H} {ps : List MemPlace} (hv : Value.okWide Tryz.prog w r b0 30 v) (h : DataW.Trod enc Tryz.prog w 0 (fun _ => true) true 30 v d ps) (hs : Szd Tryz.prog 30 d) :
    ∃ (s : Stt) (A1 : Option Addr) (n1 c1 : Nat) (A2 : Option Addr) (n2 c2 : Nat), v = .agg (s.arr (.slice A1 n1 c1) (.slice A2 n2 c2)) ∧ s.r.ok ∧ s.f.ok ∧ s.c.ok ∧ n1 ≤ maxLen ∧ n2 ≤ maxLen ∧ Sl HsRel 2 w w.heap.size A1 n1 s.h ∧ Sl PnRel 8 w w.heap.size A2 n2 s.p := by
  obtain ⟨cs, rfl, hsz⟩ := okWide_struct Tryz.underlying30 hv
  obtain ⟨s, a, b, e, k1, k2, k3, ⟨A1, n1, c1, rfl, q1, q2, q3⟩, ⟨A2, n2, c2, rfl, q4, q5, q6⟩⟩ := opn_st (Opn.of h hs)
  have e2 : cs.toList = _ := e
  have : cs = s.arr (.slice A1 n1 c1) (.slice A2 n2 c2) := by rw [← Array.toArray_toList (xs := cs), e2]
  exact ⟨s, A1, n1, c1, A2, n2, c2, by rw [this], k1, k2, k3, by omega, by omega, q3, q6⟩
end
end Go.Proofs.YtipacjbegfingaaGreat
