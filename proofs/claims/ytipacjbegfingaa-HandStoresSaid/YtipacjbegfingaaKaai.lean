/- The walk of Divide where it refuses. -/
import Derived.Test.YtipacjbegfingaaKaac
import Derived.Test.YtipacjbegfingaaKaag
import Derived.Test.YtipacjbegfingaaKaah
namespace Go.Proofs.Ytipacjbegfingaa
set_option linter.unusedVariables false
open Go.RowKit Fl
attribute [local go_sem] run_store_float

/-- what Divide leaves -/
def DivPostS (w : World) (a b : Stt) (e : Int) : Ending → World → Prop := fun en w' => ∃ h1 p1 h2 p2, en = .returned (.tuple #[.agg (a.arr h1 p1), .agg (b.arr h2 p2), .int .i64 e]) ∧
  HdRel HsRel 2 w' w'.heap.size h1 a.h ∧ HdRel PnRel 8 w' w'.heap.size p1 a.p ∧ HdRel HsRel 2 w' w'.heap.size h2 b.h ∧ HdRel PnRel 8 w' w'.heap.size p2 b.p ∧ Below w.heap.size w w'
theorem DivPostS.zero {w w' : World} {e : Int} (hb : Below w.heap.size w w') : DivPostS w zeroS zeroS e (.returned (.tuple #[.agg zeroCells, .agg zeroCells, .int .i64 e])) w' :=
  ⟨_, _, _, _, rfl, HdRel.nil, HdRel.nil, HdRel.nil, HdRel.nil, hb⟩

section
variable (s : Stt) (A1 A2 : Option Addr) (n1 n2 c1 c2 : Nat) (x : Nat) (k : Int) (st fl : Sp) (w : World)
set_option maxRecDepth 100000 in
set_option maxHeartbeats 4000000 in
theorem divide_a (hok : s.r.ok) (h1 : Sl HsRel 2 w w.heap.size A1 n1 s.h) (h2 : Sl PnRel 8 w w.heap.size A2 n2 s.p) (hH : SmallH s.h) (hQ : SmallP s.p) (hm : mayS s = false) :
    Calls Try.prog 10 #[.agg (s.arr (.slice A1 n1 c1) (.slice A2 n2 c2)), .float .f64 x, .int .i64 k, st.val, fl.val] w (DivPostS w zeroS zeroS 4) := by
  have hst := fun w' (hb : Below w.heap.size w w') => stateMay_any s A1 A2 n1 n2 c1 c2 w' hok ((h1.below HsRel.kept hb).more HsRel.kept hb.size) ((h2.below PnRel.kept hb).more PnRel.kept hb.size) hH hQ
  rw [hm] at hst
  clear hm
  go_enter Try.func10, Try.ntmps10
  go_upto_region 2 with (first
    | ((with_reducible refine (hst _ (by go_grown)).mono ?_); rintro e w1 ⟨rfl, hb⟩
       obtain ⟨⟨b0, b1, b2, b3, b4⟩, hb0⟩ := five _ _ _ _ _ _ _ _ _ _ (by simp) hb
       have l4 := b4.lt
       clear hb))
  go_wp2_with (first
    | (refine wpList_store_row rfl 30 _ _ rfl _ _ rfl rfl _ _ b3 (by kernel_rfl) (by kernel_rfl) (by kernel_rfl) ?_)
    | (refine wpList_store_row rfl 30 _ _ rfl _ _ rfl rfl _ _ (b4.setRow_far _ (by omega)) (by kernel_rfl) (by kernel_rfl) (by kernel_rfl) ?_))
  have y3 := (b3.setRow zeroCells).setRow_far (g' := w.heap.size + 1 + 1 + 1 + 1) zeroCells (by omega)
  have y4 := (b4.setRow_far (g' := w.heap.size + 1 + 1 + 1) zeroCells (by omega)).setRow zeroCells
  refine post_cell_cell_tmp rfl (by rfl) (by rfl) y3 y4 rfl rfl (by kernel_rfl) rfl rfl (by kernel_rfl) ?_
  exact DivPostS.zero (below_setRow (below_setRow hb0 (by omega) _) (by omega) _)

set_option maxRecDepth 100000 in
set_option maxHeartbeats 4000000 in
theorem divide_b (hok : s.r.ok) (h1 : Sl HsRel 2 w w.heap.size A1 n1 s.h) (h2 : Sl PnRel 8 w w.heap.size A2 n2 s.p) (hH : SmallH s.h) (hQ : SmallP s.p) (hm : mayS s = true) (hsf : (!st.may || !fl.may) = true) :
    Calls Try.prog 10 #[.agg (s.arr (.slice A1 n1 c1) (.slice A2 n2 c2)), .float .f64 x, .int .i64 k, st.val, fl.val] w (DivPostS w zeroS zeroS 17) := by
  have hst := fun w' (hb : Below w.heap.size w w') => stateMay_any s A1 A2 n1 n2 c1 c2 w' hok ((h1.below HsRel.kept hb).more HsRel.kept hb.size) ((h2.below PnRel.kept hb).more PnRel.kept hb.size) hH hQ
  have hs := fun w => hmay_any st w
  have hq := fun w => hmay_any fl w
  rw [hm] at hst
  clear hm
  cases e1 : st.may
  · rw [e1] at hs
    clear hsf e1 hq
    go_enter Try.func10, Try.ntmps10
    go_upto_region 4 with (first
      | ((with_reducible refine (hst _ (by go_grown)).mono ?_); rintro e w1 ⟨rfl, hb⟩
         obtain ⟨⟨b0, b1, b2, b3, b4⟩, hb0⟩ := five _ _ _ _ _ _ _ _ _ _ (by simp) hb
         have l4 := b4.lt
         obtain ⟨g2, s0, s1, s2⟩ := b1.three
         obtain ⟨g3, q0, q1, q2⟩ := b2.three
         clear hb)
      | ((with_reducible refine (hs _).mono ?_); rintro e w3 ⟨rfl, rfl⟩))
    have b3 := b3.alloc (.cells st.arr 26)
    have b4 := b4.alloc (.cells st.arr 26)
    have hb0 := hb0.alloc (by omega) (.cells st.arr 26)
    go_wp2_with (first
      | (refine wpList_store_row rfl 30 _ _ rfl _ _ rfl rfl _ _ b3 (by kernel_rfl) (by kernel_rfl) (by kernel_rfl) ?_)
      | (refine wpList_store_row rfl 30 _ _ rfl _ _ rfl rfl _ _ (b4.setRow_far _ (by omega)) (by kernel_rfl) (by kernel_rfl) (by kernel_rfl) ?_))
    have y3 := (b3.setRow zeroCells).setRow_far (g' := w.heap.size + 1 + 1 + 1 + 1) zeroCells (by omega)
    have y4 := (b4.setRow_far (g' := w.heap.size + 1 + 1 + 1) zeroCells (by omega)).setRow zeroCells
    refine post_cell_cell_tmp rfl (by rfl) (by rfl) y3 y4 rfl rfl (by kernel_rfl) rfl rfl (by kernel_rfl) ?_
    exact DivPostS.zero (below_setRow (below_setRow hb0 (by omega) _) (by omega) _)
  · have e2 : fl.may = false := by rw [e1] at hsf; simpa using hsf
    rw [e1] at hs
    rw [e2] at hq
    clear hsf e1 e2
    go_enter Try.func10, Try.ntmps10
    go_upto_region 4 with (first
      | ((with_reducible refine (hst _ (by go_grown)).mono ?_); rintro e w1 ⟨rfl, hb⟩
         obtain ⟨⟨b0, b1, b2, b3, b4⟩, hb0⟩ := five _ _ _ _ _ _ _ _ _ _ (by simp) hb
         have l4 := b4.lt
         obtain ⟨g2, s0, s1, s2⟩ := b1.three
         obtain ⟨g3, q0, q1, q2⟩ := b2.three
         clear hb)
      | ((with_reducible refine (hs _).mono ?_); rintro e w3 ⟨rfl, rfl⟩)
      | ((with_reducible refine (hq _).mono ?_); rintro e w3 ⟨rfl, rfl⟩))
    have b3 := (b3.alloc (.cells st.arr 26)).alloc (.cells fl.arr 26)
    have b4 := (b4.alloc (.cells st.arr 26)).alloc (.cells fl.arr 26)
    have hb0 := (hb0.alloc (by omega) (.cells st.arr 26)).alloc (by simp; omega) (.cells fl.arr 26)
    go_wp2_with (first
      | (refine wpList_store_row rfl 30 _ _ rfl _ _ rfl rfl _ _ b3 (by kernel_rfl) (by kernel_rfl) (by kernel_rfl) ?_)
      | (refine wpList_store_row rfl 30 _ _ rfl _ _ rfl rfl _ _ (b4.setRow_far _ (by omega)) (by kernel_rfl) (by kernel_rfl) (by kernel_rfl) ?_))
    have y3 := (b3.setRow zeroCells).setRow_far (g' := w.heap.size + 1 + 1 + 1 + 1) zeroCells (by omega)
    have y4 := (b4.setRow_far (g' := w.heap.size + 1 + 1 + 1) zeroCells (by omega)).setRow zeroCells
    refine post_cell_cell_tmp rfl (by rfl) (by rfl) y3 y4 rfl rfl (by kernel_rfl) rfl rfl (by kernel_rfl) ?_
    exact DivPostS.zero (below_setRow (below_setRow hb0 (by omega) _) (by omega) _)

set_option maxRecDepth 100000 in
set_option maxHeartbeats 4000000 in
theorem divide_c (hok : s.r.ok) (hx : x < 18446744073709551616) (h1 : Sl HsRel 2 w w.heap.size A1 n1 s.h) (h2 : Sl PnRel 8 w w.heap.size A2 n2 s.p) (hH : SmallH s.h) (hQ : SmallP s.p) (hm : mayS s = true) (h4 : st.may = true) (h5 : fl.may = true) (hE : splitE s.r x k ≠ 0) :
    Calls Try.prog 10 #[.agg (s.arr (.slice A1 n1 c1) (.slice A2 n2 c2)), .float .f64 x, .int .i64 k, st.val, fl.val] w (DivPostS w zeroS zeroS (splitE s.r x k)) := by
  have hst := fun w' (hb : Below w.heap.size w w') => stateMay_any s A1 A2 n1 n2 c1 c2 w' hok ((h1.below HsRel.kept hb).more HsRel.kept hb.size) ((h2.below PnRel.kept hb).more PnRel.kept hb.size) hH hQ
  have hs := fun w => hmay_any st w
  have hq := fun w => hmay_any fl w
  have hsp := fun w => split_any s.r x k w hok hx
  rw [hm] at hst
  rw [h4] at hs
  rw [h5] at hq
  have hE1 : (splitE s.r x k != 0) = true := by simp [hE]
  clear hm h4 h5
  generalize splitE s.r x k = ee at *
  generalize splitL s.r x k = sl at *
  generalize splitU s.r x k = su at *
  go_enter Try.func10, Try.ntmps10
  go_upto_region 7 with (first
    | ((with_reducible refine (hst _ (by go_grown)).mono ?_); rintro e w1 ⟨rfl, hb⟩
       obtain ⟨⟨b0, b1, b2, b3, b4⟩, hb0⟩ := five _ _ _ _ _ _ _ _ _ _ (by simp) hb
       have l4 := b4.lt
       obtain ⟨g2, s0, s1, s2⟩ := b1.three
       obtain ⟨g3, q0, q1, q2⟩ := b2.three
       obtain ⟨g0, z0, z1, z2, z3, z4, z5, z6, z7, z8, z9, z10, z11⟩ := b0.dozen
       have g1 : w.heap.size < w1.heap.size + 1 := by omega
       clear hb)
    | ((with_reducible refine (hs _).mono ?_); rintro e w3 ⟨rfl, rfl⟩)
    | ((with_reducible refine (hq _).mono ?_); rintro e w3 ⟨rfl, rfl⟩)
    | ((with_reducible refine (hsp _).mono ?_); rintro e w2 ⟨rfl, hb2⟩
       have b3' := ((b3.alloc _).alloc _).below hb2 (by simp; omega)
       have b4' := ((b4.alloc _).alloc _).below hb2 (by simp; omega)))
  have b3 := (b3'.alloc (.cells #[.int .i64 sl.id, .int .i64 sl.ep, .float .f64 sl.lo, .float .f64 sl.hi] 24)).alloc (.cells #[.int .i64 su.id, .int .i64 su.ep, .float .f64 su.lo, .float .f64 su.hi] 24)
  have b4 := (b4'.alloc (.cells #[.int .i64 sl.id, .int .i64 sl.ep, .float .f64 sl.lo, .float .f64 sl.hi] 24)).alloc (.cells #[.int .i64 su.id, .int .i64 su.ep, .float .f64 su.lo, .float .f64 su.hi] 24)
  have hbz : Below w.heap.size w ((w2.alloc (.cells #[.int .i64 sl.id, .int .i64 sl.ep, .float .f64 sl.lo, .float .f64 sl.hi] 24)).alloc (.cells #[.int .i64 su.id, .int .i64 su.ep, .float .f64 su.lo, .float .f64 su.hi] 24)) := by
    refine (((hb0.alloc (by omega) _).alloc (by simp; omega) _).trans (hb2.mono (by simp; omega))).alloc ?_ _ |>.alloc ?_ _
    · have := b4'.lt; omega
    · have := b4'.lt; simp; omega
  generalize ((w2.alloc (.cells #[.int .i64 sl.id, .int .i64 sl.ep, .float .f64 sl.lo, .float .f64 sl.hi] 24)).alloc (.cells #[.int .i64 su.id, .int .i64 su.ep, .float .f64 su.lo, .float .f64 su.hi] 24)) = wz at *
  clear b3' b4' hb2 b0 b1 b2
  go_wp2_with (first
    | (refine wpList_store_row rfl 30 _ _ rfl _ _ rfl rfl _ _ b3 (by kernel_rfl) (by kernel_rfl) (by kernel_rfl) ?_)
    | (refine wpList_store_row rfl 30 _ _ rfl _ _ rfl rfl _ _ (b4.setRow_far _ (by omega)) (by kernel_rfl) (by kernel_rfl) (by kernel_rfl) ?_))
  have y3 := (b3.setRow zeroCells).setRow_far (g' := w.heap.size + 1 + 1 + 1 + 1) zeroCells (by omega)
  have y4 := (b4.setRow_far (g' := w.heap.size + 1 + 1 + 1) zeroCells (by omega)).setRow zeroCells
  refine post_cell_cell_tmp rfl (by rfl) (by rfl) y3 y4 rfl rfl (by kernel_rfl) rfl rfl (by kernel_rfl) ?_
  exact DivPostS.zero (below_setRow (below_setRow hbz (by omega) _) (by omega) _)
end
end Go.Proofs.Ytipacjbegfingaa
