/- The walk of the document's old. -/
import Derived.Test.YtipacjbegfingaaEi
import Derived.Test.YtipacjbegfingaaEh
namespace Go.Proofs.Ytipacjbegfingaa
set_option linter.unusedVariables false
open Go.RowKit Fl
attribute [local go_sem] run_store_float

theorem wpList_store_newC {P : Program} {ops : Array Oper} {rest : List Oper} {o : Oper} {a : Act} {w : World} {Q : Exit → Act → World → Prop} (hgd : o.guard = none) (ty : TypeId) (x y : Operand) (ho : o.op = .store ty x y)
    (cells : Array Value) (hx : a.eval x = .pointer (some ⟨w.heap.size, 0, none⟩)) (hy : a.eval y = .agg cells)
    (t : TypeId) (old : Array Value) (hi : (P.info? ty).map (·.size) = some cells.size)
    (hold : old.size = cells.size) (h1 : cells.all (·.oneCell') = true)
    (h : wpList P ops Q rest (a.put o.dst undef) (w.alloc (.cells cells t))) : wpList P ops Q (o :: rest) a (w.alloc (.cells old t)) := by
  refine wpList_store_row hgd ty x y ho _ cells hx hy t old (Blk.new w t old) hi hold h1 ?_
  have e : (w.alloc (.cells old t)).setRow w.heap.size cells = w.alloc (.cells cells t) := by
    unfold World.setRow World.alloc
    congr 1
    apply Array.ext_getElem?
    intro i
    simp only [Array.getElem?_modify, Array.getElem?_push]
    by_cases h : i = w.heap.size
    · subst h; simp
    · have h' : w.heap.size ≠ i := fun e => h e.symm
      simp [h, h']
  rw [e]; exact h
/-- is a version there that does not stand below? -/
def roldF (H : List Hs) (s : Sp) (a : Wt) : Bool := decide (0 ≤ atFrom a.key 0 H) && decide (0 ≤ (lastV (rvers a.key H)).s.cmp s)
def roldB (H : List Hs) (p : Pn) : Bool := p.w.any (roldF H p.s)
def OldRel (f : Wt → Bool) (l : List Wt) (p : Pn) (A1 A2 : Value) (w : World) (i : Value) (wr : World) : Prop :=
  ∃ k : Nat, k ≤ l.length ∧ i = .int .i64 (k : Int) ∧ (l.drop k).any f = l.any f ∧ Below w.heap.size w wr ∧ Blk wr w.heap.size 47 (p.arr A1 A2)
set_option maxRecDepth 100000 in
set_option maxHeartbeats 4000000 in
theorem rold_any (g : Nat) (B1 B2 : Option Addr) (m1 d1 m2 d2 : Nat) (L : Sp) (Hl : List Hs) (Pl : List Pn) (p : Pn) (A1 A2 : Option Addr) (n1 n2 c1 c2 : Nat) (w : World) (h : RSt w g B1 m1 d1 B2 m2 d2 L Hl Pl) (hw : Sl WtRel 4 w w.heap.size A2 n2 p.w) (hn2 : n2 ≤ maxLen) :
    Calls Try.prog 47 #[.pointer (some ⟨g, 0, none⟩), p.val (.slice A1 n1 c1) (.slice A2 n2 c2)] w fun e w' => e = .returned (.bool (roldB Hl p)) ∧ Below w.heap.size w w' := by
  unfold maxLen at hn2
  have hl := hw.1
  have hge : n2 ≤ p.w.length := by omega
  have hle : p.w.length ≤ n2 := by omega
  clear hl
  have hO : roldB Hl p = p.w.any (roldF Hl p.s) := rfl
  generalize roldB Hl p = B at *
  go_enter Try.func47, Try.ntmps47
  go_wp2
  go_loopw [5] (fun i wr => OldRel (roldF Hl p.s) p.w p (.slice A1 n1 c1) (.slice A2 n2 c2) w i wr) (fun i _ => n2 - (intOf i).toNat)
  case atStart => exact ⟨0, by omega, rfl, rfl, by go_grown, Blk.new _ _ _⟩
  case round =>
    obtain ⟨k, hk, rfl, hs, hb, b3⟩ := hrel
    have hzz := hb.size
    obtain ⟨l3, y0, y1, y2, y3, y4, y5, y6, y7⟩ := b3.eight
    by_cases hlt : k < n2
    · obtain ⟨ad, a, rfl, ha, hbk, hok, e0, -, -, -⟩ := ((hw.below WtRel.kept hb).more WtRel.kept hb.size).wt hlt
      have hd1 : decide ((k : Int) < (n2 : Int)) = true := by simp; omega
      have hk0 : (0 : Int) ≤ (k : Int) := by omega
      have hk1 : (k : Int) < (n2 : Int) := by omega
      rw [any_dropE ha] at hs
      have hf : roldF Hl p.s a = (decide (0 ≤ atFrom a.key 0 Hl) && decide (0 ≤ (lastV (rvers a.key Hl)).s.cmp p.s)) := rfl
      have hN := rnewest_any g B1 B2 m1 d1 m2 d2 L Hl Pl a.key wr (h.below hb)
      have HAT := Lib.hid (fun w' (hx : Below wr.heap.size wr w') => rat_any g B1 B2 m1 d1 m2 d2 L Hl Pl a.key w' (h.below (hb.trans (hx.mono hzz))))
      have HC := Lib.hid (fun w' => rcmp_any (lastV (rvers a.key Hl)).s p.s w')
      clear ha
      generalize roldF Hl p.s a = F at *
      generalize lastV (rvers a.key Hl) = V at *
      generalize atFrom a.key 0 Hl = Z at *
      generalize V.s.cmp p.s = Cm at *
      have HF := Lib.hid hf
      have HS := Lib.hid hs
      clear hf hs
      go_wp2_with (go_at_call 76; fail)
      refine hN.mono ?_
      rintro e w1 ⟨rfl, hb1⟩
      have b31 := b3.below hb1 l3
      have e01 := (hb1.cell (by exact hbk)).trans e0
      have l31 := b31.lt
      have l32 : w.heap.size < w1.heap.size + 1 := by omega
      obtain ⟨-, x0, x1, x2, x3, x4, x5, x6, x7⟩ := b31.eight
      have hbk1 : (ad.add (k * 4)).block < w1.heap.size + 1 := by have := hb1.size; omega
      clear y0 y1 y2 y3 y4 y5 y6 y7 hN
      have hX : Below wr.heap.size wr (w1.alloc (.cells (seenArr a.key V) 98)) := hb1.alloc hb1.size _
      have e02 : (w1.alloc (.cells (seenArr a.key V) 98)).cell? (ad.add (k * 4)) = some (.string a.key) := (hX.cell hbk).trans e0
      have i6 := Blk.new w1 98 (seenArr a.key V)
      have b32 := b31.alloc (.cells (seenArr a.key V) 98)
      by_cases hZ : (0 : Int) ≤ Z
      · have hz1 : decide ((0 : Int) ≤ Z) = true := by simp [hZ]
        have hA := HAT.out _ hX
        go_wp2_with (first
          | (refine wpList_store_newC rfl 98 _ _ rfl _ rfl rfl _ _ (by kernel_rfl) (by kernel_rfl) (by kernel_rfl) ?_)
          | (go_at_call 77; fail))
        refine hA.mono ?_
        rintro e w2 ⟨rfl, hb2⟩
        have i62 := i6.below hb2 i6.lt
        have b33 := b32.below hb2 b32.lt
        have hY : Below wr.heap.size wr w2 := hX.trans (hb2.mono hX.size)
        obtain ⟨j6, z0, z1, z2, z3, z4, z5, z6⟩ := i62.sevenC
        obtain ⟨j3, q0, q1, q2, q3, q4, q5, q6, q7⟩ := b33.eight
        by_cases hC : (0 : Int) ≤ Cm
        · have hc1 : decide ((0 : Int) ≤ Cm) = true := by simp [hC]
          have HB := Lib.hid (show B = true by rw [hO, ← HS.out, HF.out, hz1, hc1]; rfl)
          go_wp2_with ((with_reducible refine (HC.out _).mono ?_); rintro e w4 ⟨rfl, hb4⟩)
          go_ret
          rw [HB.out]
          exact ⟨rfl, hb.trans ((hY.trans (hb4.mono hY.size)).mono hzz)⟩
        · have hc1 : decide ((0 : Int) ≤ Cm) = false := by simp; omega
          have HT := Lib.hid (show (p.w.drop (k + 1)).any (roldF Hl p.s) = p.w.any (roldF Hl p.s) by rw [← HS.out, HF.out, hz1, hc1]; rfl)
          go_wp2_with ((with_reducible refine (HC.out _).mono ?_); rintro e w4 ⟨rfl, hb4⟩)
          have hQ := hY.trans (hb4.mono hY.size)
          go_roundw
          case rel => exact ⟨k + 1, by omega, by go_num, HT.out, hb.trans (hQ.mono hzz), b3.below hQ l3⟩
          case measure => simp [intOf]; omega
      · have hz1 : decide ((0 : Int) ≤ Z) = false := by simp; omega
        have hA := HAT.out _ hX
        have HT := Lib.hid (show (p.w.drop (k + 1)).any (roldF Hl p.s) = p.w.any (roldF Hl p.s) by rw [← HS.out, HF.out, hz1]; rfl)
        go_wp2_with (first
          | (refine wpList_store_newC rfl 98 _ _ rfl _ rfl rfl _ _ (by kernel_rfl) (by kernel_rfl) (by kernel_rfl) ?_)
          | (go_at_call 77; fail))
        refine hA.mono ?_
        rintro e w2 ⟨rfl, hb2⟩
        have hY : Below wr.heap.size wr w2 := hX.trans (hb2.mono hX.size)
        go_wp2
        go_roundw
        case rel => exact ⟨k + 1, by omega, by go_num, HT.out, hb.trans (hY.mono hzz), b3.below hY l3⟩
        case measure => simp [intOf]; omega
    · have hd1 : decide ((k : Int) < (n2 : Int)) = false := by simp; omega
      have HB := Lib.hid (show B = false by rw [hO, ← hs, List.drop_of_length_le (by omega)]; rfl)
      clear hs
      go_wp2
      go_ret
      rw [HB.out]
      exact ⟨rfl, hb⟩
end Go.Proofs.Ytipacjbegfingaa
