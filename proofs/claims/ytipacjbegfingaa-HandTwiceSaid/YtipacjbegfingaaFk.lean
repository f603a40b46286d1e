/- The walk of first: the chapter's examples. -/
import Derived.Test.YtipacjbegfingaaFj
namespace Go.Proofs.Ytipacjbegfingaa
open Go.RowKit Fl
attribute [local go_sem] run_store_float

theorem setRow_alloc2 (w : World) (t : TypeId) (c c' : Array Value) (o : Obj) : ((w.alloc (.cells c t)).alloc o).setRow w.heap.size c' = (w.alloc (.cells c' t)).alloc o := by
  unfold World.setRow World.alloc
  congr 1
  apply Array.ext_getElem?
  intro i
  simp only [Array.getElem?_modify, Array.getElem?_push, Array.size_push]
  by_cases h : i = w.heap.size
  · subst h; simp
  · have h' : w.heap.size ≠ i := fun e => h e.symm
    by_cases h2 : i = w.heap.size + 1
    · subst h2; simp
    · simp [h, h', h2]
/-- a store of a whole struct into the box that is new but one -/
theorem wpList_store_new2 {P : Program} {ops : Array Oper} {rest : List Oper} {o : Oper} {a : Act} {w : World} {Q : Exit → Act → World → Prop} (hgd : o.guard = none) (ty : TypeId) (x y : Operand) (ho : o.op = .store ty x y)
    (cells : Array Value) (hx : a.eval x = .pointer (some ⟨w.heap.size, 0, none⟩)) (hy : a.eval y = .agg cells)
    (t : TypeId) (old : Array Value) (ob : Obj) (hi : (P.info? ty).map (·.size) = some cells.size)
    (hold : old.size = cells.size) (h1 : cells.all (·.oneCell') = true)
    (h : wpList P ops Q rest (a.put o.dst undef) ((w.alloc (.cells cells t)).alloc ob)) : wpList P ops Q (o :: rest) a ((w.alloc (.cells old t)).alloc ob) :=
  wpList_store_row hgd ty x y ho _ cells hx hy t old ((Blk.new w t old).alloc ob) hi hold h1 (by rw [setRow_alloc2]; exact h)

theorem firstE : splitE ⟨1, 0, 0, 4607182418800017408⟩ 4602678819172646912 2 = 0 := by kernel_rfl
theorem firstL : splitL ⟨1, 0, 0, 4607182418800017408⟩ 4602678819172646912 2 = ⟨1, 1, 0, 4602678819172646912⟩ := by kernel_rfl
theorem firstU : splitU ⟨1, 0, 0, 4607182418800017408⟩ 4602678819172646912 2 = ⟨2, 0, 4602678819172646912, 4607182418800017408⟩ := by kernel_rfl
theorem firstM : mayR ⟨1, 0, 0, 4607182418800017408⟩ = true := by kernel_rfl
theorem firstE2 : splitE ⟨1, 0, 0, 4607182418800017408⟩ 0 2 = 24 := by kernel_rfl
theorem firstOk : Rg.ok ⟨1, 0, 0, 4607182418800017408⟩ := by unfold Rg.ok i64ok; simp

theorem div1 (w : World) : Calls Try.prog 10 #[nilVal ⟨1, 0, 0, 4607182418800017408⟩ ⟨0, 0, 0⟩ ⟨0, 0, 0⟩, .float .f64 4602678819172646912, .int .i64 2, .agg #[.int .i64 5, .int .i64 0, .int .i64 1], .agg #[.int .i64 9, .int .i64 0, .int .i64 0]] w
    (DivPost w (nilVal ⟨1, 1, 0, 4602678819172646912⟩ ⟨0, 0, 0⟩ ⟨0, 0, 0⟩) (nilVal ⟨2, 0, 4602678819172646912, 4607182418800017408⟩ ⟨9, 0, 0⟩ ⟨5, 0, 1⟩) 0) := by
  have h := divide_ok ⟨1, 0, 0, 4607182418800017408⟩ ⟨0, 0, 0⟩ ⟨0, 0, 0⟩ ⟨5, 0, 1⟩ ⟨9, 0, 0⟩ 4602678819172646912 2 w firstOk (by omega) firstM (by kernel_rfl) (by kernel_rfl) (by kernel_rfl) (by kernel_rfl) firstE
  rw [firstL, firstU] at h
  exact h
theorem div2 (w : World) : Calls Try.prog 10 #[nilVal ⟨1, 0, 0, 4607182418800017408⟩ ⟨0, 0, 0⟩ ⟨0, 0, 0⟩, .float .f64 0, .int .i64 2, .agg #[.int .i64 0, .int .i64 0, .int .i64 0], .agg #[.int .i64 0, .int .i64 0, .int .i64 0]] w
    (DivPost w zeroState zeroState 24) := by
  have h := divide_no ⟨1, 0, 0, 4607182418800017408⟩ ⟨0, 0, 0⟩ ⟨0, 0, 0⟩ ⟨0, 0, 0⟩ ⟨0, 0, 0⟩ 0 2 w firstOk (by omega) firstM (by kernel_rfl) (by kernel_rfl) (by kernel_rfl) (by kernel_rfl) (by rw [firstE2]; omega)
  rw [firstE2] at h
  exact h
theorem rng1 (w : World) : Calls Try.prog 25 #[.agg #[.int .i64 1, .int .i64 1, .float .f64 0, .float .f64 4602678819172646912], .agg #[.int .i64 1, .int .i64 1, .float .f64 0, .float .f64 4602678819172646912]] w fun e w' => e = .returned (.bool true) ∧ Below w.heap.size w w' :=
  range_any ⟨1, 1, 0, 4602678819172646912⟩ ⟨1, 1, 0, 4602678819172646912⟩ w
theorem rng2 (w : World) : Calls Try.prog 25 #[.agg #[.int .i64 2, .int .i64 0, .float .f64 4602678819172646912, .float .f64 4607182418800017408], .agg #[.int .i64 2, .int .i64 0, .float .f64 4602678819172646912, .float .f64 4607182418800017408]] w fun e w' => e = .returned (.bool true) ∧ Below w.heap.size w w' :=
  range_any ⟨2, 0, 4602678819172646912, 4607182418800017408⟩ ⟨2, 0, 4602678819172646912, 4607182418800017408⟩ w

set_option maxRecDepth 100000 in
set_option maxHeartbeats 4000000 in
theorem first_any (w : World) : Calls Try.prog 7 #[] w fun e w' => e = .returned (.bool true) ∧ Below w.heap.size w w' := by
  go_enter Try.func7, Try.ntmps7
  go_wp2_with (first
    | (refine wpList_store_new rfl 30 _ _ rfl _ rfl rfl _ _ (by kernel_rfl) (by kernel_rfl) (by kernel_rfl) ?_)
    | (refine wpList_store_new2 rfl 30 _ _ rfl _ rfl rfl _ _ _ (by kernel_rfl) (by kernel_rfl) (by kernel_rfl) ?_)
    | (go_at_call 10; fail))
  refine (div1 _).mono ?_
  rintro e w1 ⟨rfl, hb1⟩
  have c1 := (Blk.new w 30 (nilCells ⟨1, 0, 0, 4607182418800017408⟩ ⟨0, 0, 0⟩ ⟨0, 0, 0⟩)).below hb1 (by simp)
  have hw1 : Below w.heap.size w w1 := ((Below.refl _ _).alloc (Nat.le_refl _) _).trans (hb1.mono (by simp))
  obtain ⟨g0, z0, z1, z2, z3, z4, z5, z6, z7, z8, z9, z10, z11⟩ := c1.dozen
  have g1 : w.heap.size < w1.heap.size + 1 := by omega
  go_wp2_with (first
    | (refine wpList_store_new rfl 30 _ _ rfl _ rfl rfl _ _ (by kernel_rfl) (by kernel_rfl) (by kernel_rfl) ?_)
    | (refine wpList_store_new2 rfl 30 _ _ rfl _ rfl rfl _ _ _ (by kernel_rfl) (by kernel_rfl) (by kernel_rfl) ?_)
    | (go_at_call 10; fail))
  refine (div2 _).mono ?_
  rintro e w2 ⟨rfl, hb2⟩
  have c2 := ((Blk.new w1 30 (nilCells ⟨1, 1, 0, 4602678819172646912⟩ ⟨0, 0, 0⟩ ⟨0, 0, 0⟩)).alloc (.cells (nilCells ⟨2, 0, 4602678819172646912, 4607182418800017408⟩ ⟨9, 0, 0⟩ ⟨5, 0, 1⟩) 30)).below hb2 (by simp <;> omega)
  have c3 := (Blk.new' (w := w1.alloc (.cells (nilCells ⟨1, 1, 0, 4602678819172646912⟩ ⟨0, 0, 0⟩ ⟨0, 0, 0⟩) 30)) (g := w1.heap.size + 1) 30 (nilCells ⟨2, 0, 4602678819172646912, 4607182418800017408⟩ ⟨9, 0, 0⟩ ⟨5, 0, 1⟩) (by simp)).below hb2 (by simp <;> omega)
  have hw2 : Below w.heap.size w w2 := ((hw1.alloc (by omega) _).alloc (by simp; omega) _).trans (hb2.mono (by simp; omega))
  clear z0 z1 z2 z3 z4 z5 z6 z7 z8 z9 z10 z11 hb2 hb1 c1 g1 hw1
  generalize w1.heap.size = g at *
  obtain ⟨g2, x0, x1, x2, x3, x4, x5, x6, x7, x8, x9, x10, x11⟩ := c2.dozen
  obtain ⟨g3, y0, y1, y2, y3, y4, y5, y6, y7, y8, y9, y10, y11⟩ := c3.dozen
  have k2 : g < w2.heap.size + 1 := by omega
  have k3 : g + 1 < w2.heap.size + 1 := by omega
  go_wp2_with (first
    | (refine wpList_store_new rfl 30 _ _ rfl _ rfl rfl _ _ (by kernel_rfl) (by kernel_rfl) (by kernel_rfl) ?_)
    | (refine wpList_store_new2 rfl 30 _ _ rfl _ rfl rfl _ _ _ (by kernel_rfl) (by kernel_rfl) (by kernel_rfl) ?_)
    | ((with_reducible refine (rng1 _).mono ?_); rintro e w3 ⟨rfl, hb3⟩
       have c3' := ((c3.alloc _).alloc _).below hb3 (by simp; omega)
       obtain ⟨g3', y0', y1', y2', y3', y4', y5', y6', y7', y8', y9', y10', y11'⟩ := c3'.dozen
       have hw3 : Below w.heap.size w w3 := ((hw2.alloc (by omega) _).alloc (by simp; omega) _).trans (hb3.mono (by simp; omega)))
    | ((with_reducible refine (rng2 _).mono ?_); rintro e w4 ⟨rfl, hb4⟩
       have c3'' := c3'.below hb4 (by omega)
       obtain ⟨g3'', y0'', y1'', y2'', y3'', y4'', y5'', y6'', y7'', y8'', y9'', y10'', y11''⟩ := c3''.dozen
       have hw4 : Below w.heap.size w w4 := hw3.trans (hb4.mono (by omega))))
  go_ret
  exact ⟨rfl, hw4⟩
end Go.Proofs.Ytipacjbegfingaa
