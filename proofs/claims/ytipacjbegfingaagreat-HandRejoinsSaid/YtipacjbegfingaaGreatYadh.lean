/- The document's Rejoin where it refuses at once. -/
import Derived.Test.YtipacjbegfingaaGreatYadb
import Derived.Test.YtipacjbegfingaaGreatYadg
namespace Go.Proofs.YtipacjbegfingaaGreat
set_option linter.unusedVariables false
open Go.RowKit Fl
attribute [local go_sem] run_store_float

section
variable {l r : Stt} {A1 A2 A3 A4 : Option Addr} {n1 n2 n3 n4 c1 c2 c3 c4 : Nat} {w : World}
set_option maxRecDepth 100000 in
set_option maxHeartbeats 4000000 in
theorem rrejoin_a (hok : l.r.ok) (hok2 : r.r.ok) (h1 : Sl HsRel 2 w w.heap.size A1 n1 l.h) (h2 : Sl PnRel 8 w w.heap.size A2 n2 l.p) (h3 : Sl HsRel 2 w w.heap.size A3 n3 r.h) (h4 : Sl PnRel 8 w w.heap.size A4 n4 r.p) (hH : SmallH l.h) (hQ : SmallP l.p) (hH2 : SmallH r.h) (hQ2 : SmallP r.p) (hm : mayS l = false ∨ mayS l = true ∧ mayS r = false) :
    Calls Tryz.prog 9 #[.agg (l.arr (.slice A1 n1 c1) (.slice A2 n2 c2)), .agg (r.arr (.slice A3 n3 c3) (.slice A4 n4 c4))] w (RejPost w zeroS 4) := by
  have hX : Below w.heap.size w (((w.alloc (.cells (l.arr (.slice A1 n1 c1) (.slice A2 n2 c2)) 30)).alloc (.cells (r.arr (.slice A3 n3 c3) (.slice A4 n4 c4)) 30)).alloc (.cells zeroCells 30)) := by go_grown
  have b0 : Blk (((w.alloc (.cells (l.arr (.slice A1 n1 c1) (.slice A2 n2 c2)) 30)).alloc (.cells (r.arr (.slice A3 n3 c3) (.slice A4 n4 c4)) 30)).alloc (.cells zeroCells 30)) w.heap.size 30 (l.arr (.slice A1 n1 c1) (.slice A2 n2 c2)) := ((Blk.new _ _ _).alloc _).alloc _
  have b1 : Blk (((w.alloc (.cells (l.arr (.slice A1 n1 c1) (.slice A2 n2 c2)) 30)).alloc (.cells (r.arr (.slice A3 n3 c3) (.slice A4 n4 c4)) 30)).alloc (.cells zeroCells 30)) (w.heap.size + 1) 30 (r.arr (.slice A3 n3 c3) (.slice A4 n4 c4)) := (Blk.new' _ _ (by simp)).alloc _
  have b2 : Blk (((w.alloc (.cells (l.arr (.slice A1 n1 c1) (.slice A2 n2 c2)) 30)).alloc (.cells (r.arr (.slice A3 n3 c3) (.slice A4 n4 c4)) 30)).alloc (.cells zeroCells 30)) (w.heap.size + 1 + 1) 30 zeroCells := Blk.new' _ _ (by simp)
  have hs1 := fun w' (hb : Below w.heap.size w w') => rstateMay_any l A1 A2 n1 n2 c1 c2 w' hok ((h1.below HsRel.kept hb).more HsRel.kept hb.size) ((h2.below PnRel.kept hb).more PnRel.kept hb.size) hH hQ
  have hs2 := fun w' (hb : Below w.heap.size w w') => rstateMay_any r A3 A4 n3 n4 c3 c4 w' hok2 ((h3.below HsRel.kept hb).more HsRel.kept hb.size) ((h4.below PnRel.kept hb).more PnRel.kept hb.size) hH2 hQ2
  rcases hm with hm | ⟨hm, hm2⟩
  · rw [hm] at hs1
    clear hm hs2
    go_enter Tryz.func9, Tryz.ntmps9
    go_upto_region 1 with fail
    generalize (((w.alloc (.cells (l.arr (.slice A1 n1 c1) (.slice A2 n2 c2)) 30)).alloc (.cells (r.arr (.slice A3 n3 c3) (.slice A4 n4 c4)) 30)).alloc (.cells zeroCells 30)) = W at *
    obtain ⟨g0, z0, z1, z2, z3, z4, z5, z6, z7, z8, z9, z10, z11⟩ := b0.dozen
    go_wp2_with fail
    refine (hs1 _ hX).mono ?_
    rintro e w1 ⟨rfl, hb1⟩
    have b2' := b2.below hb1 b2.lt
    have hY := hX.trans (hb1.mono hX.size)
    clear z0 z1 z2 z3 z4 z5 z6 z7 z8 z9 z10 z11 g0 b0 b1 b2 hs1
    go_wp2_with (first
      | (guard_target =~ wpList _ _ _ _ _ _; refine wpList_store_row rfl 30 _ _ rfl (w.heap.size + 1 + 1) zeroCells (by kernel_rfl) (by kernel_rfl) _ _ b2' (by kernel_rfl) (by kernel_rfl) (by kernel_rfl) ?_))
    (try simp only [Exit.inBlock, Exit.then])
    refine post_cell_tmp rfl (by rfl) (b2'.setRow zeroCells) rfl rfl (by kernel_rfl) ?_
    exact RejPost.zero (below_setRow hY (by omega) _)
  · rw [hm] at hs1
    rw [hm2] at hs2
    clear hm hm2
    go_enter Tryz.func9, Tryz.ntmps9
    go_upto_region 1 with fail
    generalize (((w.alloc (.cells (l.arr (.slice A1 n1 c1) (.slice A2 n2 c2)) 30)).alloc (.cells (r.arr (.slice A3 n3 c3) (.slice A4 n4 c4)) 30)).alloc (.cells zeroCells 30)) = W at *
    obtain ⟨g0, z0, z1, z2, z3, z4, z5, z6, z7, z8, z9, z10, z11⟩ := b0.dozen
    go_wp2_with fail
    refine (hs1 _ hX).mono ?_
    rintro e w1 ⟨rfl, hb1⟩
    have b1' := b1.below hb1 b1.lt
    have b2' := b2.below hb1 b2.lt
    have hY := hX.trans (hb1.mono hX.size)
    clear z0 z1 z2 z3 z4 z5 z6 z7 z8 z9 z10 z11 g0 b0 b1 b2 hs1
    obtain ⟨g0, z0, z1, z2, z3, z4, z5, z6, z7, z8, z9, z10, z11⟩ := b1'.dozen
    go_wp2_with fail
    refine (hs2 _ hY).mono ?_
    rintro e w2 ⟨rfl, hb2⟩
    have b3' := b2'.below hb2 b2'.lt
    have hZ := hY.trans (hb2.mono hY.size)
    clear z0 z1 z2 z3 z4 z5 z6 z7 z8 z9 z10 z11 g0 b1' b2' hs2
    go_wp2_with (first
      | (guard_target =~ wpList _ _ _ _ _ _; refine wpList_store_row rfl 30 _ _ rfl (w.heap.size + 1 + 1) zeroCells (by kernel_rfl) (by kernel_rfl) _ _ b3' (by kernel_rfl) (by kernel_rfl) (by kernel_rfl) ?_))
    (try simp only [Exit.inBlock, Exit.then])
    refine post_cell_tmp rfl (by rfl) (b3'.setRow zeroCells) rfl rfl (by kernel_rfl) ?_
    exact RejPost.zero (below_setRow hZ (by omega) _)
set_option maxRecDepth 100000 in
set_option maxHeartbeats 4000000 in
theorem rrejoin_b (hok : l.r.ok) (hok2 : r.r.ok) (h1 : Sl HsRel 2 w w.heap.size A1 n1 l.h) (h2 : Sl PnRel 8 w w.heap.size A2 n2 l.p) (h3 : Sl HsRel 2 w w.heap.size A3 n3 r.h) (h4 : Sl PnRel 8 w w.heap.size A4 n4 r.p) (hH : SmallH l.h) (hQ : SmallP l.p) (hH2 : SmallH r.h) (hQ2 : SmallP r.p) (hm : mayS l = true) (hm2 : mayS r = true) (hbad : l.r.hi ≠ r.r.lo ∨ l.r.hi = r.r.lo ∧ l.r.ep < 1 ∨ l.r.hi = r.r.lo ∧ 1 ≤ l.r.ep ∧ l.r.id = r.r.id) :
    Calls Tryz.prog 9 #[.agg (l.arr (.slice A1 n1 c1) (.slice A2 n2 c2)), .agg (r.arr (.slice A3 n3 c3) (.slice A4 n4 c4))] w (RejPost w zeroS 14) := by
  have hX : Below w.heap.size w (((w.alloc (.cells (l.arr (.slice A1 n1 c1) (.slice A2 n2 c2)) 30)).alloc (.cells (r.arr (.slice A3 n3 c3) (.slice A4 n4 c4)) 30)).alloc (.cells zeroCells 30)) := by go_grown
  have b0 : Blk (((w.alloc (.cells (l.arr (.slice A1 n1 c1) (.slice A2 n2 c2)) 30)).alloc (.cells (r.arr (.slice A3 n3 c3) (.slice A4 n4 c4)) 30)).alloc (.cells zeroCells 30)) w.heap.size 30 (l.arr (.slice A1 n1 c1) (.slice A2 n2 c2)) := ((Blk.new _ _ _).alloc _).alloc _
  have b1 : Blk (((w.alloc (.cells (l.arr (.slice A1 n1 c1) (.slice A2 n2 c2)) 30)).alloc (.cells (r.arr (.slice A3 n3 c3) (.slice A4 n4 c4)) 30)).alloc (.cells zeroCells 30)) (w.heap.size + 1) 30 (r.arr (.slice A3 n3 c3) (.slice A4 n4 c4)) := (Blk.new' _ _ (by simp)).alloc _
  have b2 : Blk (((w.alloc (.cells (l.arr (.slice A1 n1 c1) (.slice A2 n2 c2)) 30)).alloc (.cells (r.arr (.slice A3 n3 c3) (.slice A4 n4 c4)) 30)).alloc (.cells zeroCells 30)) (w.heap.size + 1 + 1) 30 zeroCells := Blk.new' _ _ (by simp)
  have hs1 := fun w' (hb : Below w.heap.size w w') => rstateMay_any l A1 A2 n1 n2 c1 c2 w' hok ((h1.below HsRel.kept hb).more HsRel.kept hb.size) ((h2.below PnRel.kept hb).more PnRel.kept hb.size) hH hQ
  have hs2 := fun w' (hb : Below w.heap.size w w') => rstateMay_any r A3 A4 n3 n4 c3 c4 w' hok2 ((h3.below HsRel.kept hb).more HsRel.kept hb.size) ((h4.below PnRel.kept hb).more PnRel.kept hb.size) hH2 hQ2
  rw [hm] at hs1
  rw [hm2] at hs2
  clear hm hm2
  go_enter Tryz.func9, Tryz.ntmps9
  go_upto_region 1 with fail
  generalize (((w.alloc (.cells (l.arr (.slice A1 n1 c1) (.slice A2 n2 c2)) 30)).alloc (.cells (r.arr (.slice A3 n3 c3) (.slice A4 n4 c4)) 30)).alloc (.cells zeroCells 30)) = W at *
  obtain ⟨g0, z0, z1, z2, z3, z4, z5, z6, z7, z8, z9, z10, z11⟩ := b0.dozen
  go_wp2_with fail
  refine (hs1 _ hX).mono ?_
  rintro e w1 ⟨rfl, hb1⟩
  have b1' := b1.below hb1 b1.lt
  have b2' := b2.below hb1 b2.lt
  have b0' := b0.below hb1 b0.lt
  have hY := hX.trans (hb1.mono hX.size)
  clear z0 z1 z2 z3 z4 z5 z6 z7 z8 z9 z10 z11 g0 b0 b1 b2 hs1
  obtain ⟨g0, z0, z1, z2, z3, z4, z5, z6, z7, z8, z9, z10, z11⟩ := b1'.dozen
  go_wp2_with fail
  refine (hs2 _ hY).mono ?_
  rintro e w2 ⟨rfl, hb2⟩
  have b3' := b2'.below hb2 b2'.lt
  have d0 := b0'.below hb2 b0'.lt
  have d1 := b1'.below hb2 b1'.lt
  have hZ := hY.trans (hb2.mono hY.size)
  clear z0 z1 z2 z3 z4 z5 z6 z7 z8 z9 z10 z11 g0 b0' b1' b2' hs2
  go_upto_region 3 with fail
  have z0 : w2.cell? ⟨w.heap.size, 0, none⟩ = some (.int .i64 l.r.id) := d0.cell 0
  have z1 : w2.cell? ⟨w.heap.size, 1, none⟩ = some (.int .i64 l.r.ep) := d0.cell 1
  have z3 : w2.cell? ⟨w.heap.size, 3, none⟩ = some (.float .f64 l.r.hi) := d0.cell 3
  have y0 : w2.cell? ⟨w.heap.size + 1, 0, none⟩ = some (.int .i64 r.r.id) := d1.cell 0
  have y2 : w2.cell? ⟨w.heap.size + 1, 2, none⟩ = some (.float .f64 r.r.lo) := d1.cell 2
  have l3 := b3'.lt
  have hbt := fun w => rbits l.r.hi r.r.lo w
  have l0 := d0.lt
  have l1 := d1.lt
  rcases hbad with e | ⟨e, e2⟩ | ⟨e, e2, e3⟩
  case' inl =>
    have q1 : ((l.r.hi : Int) == (r.r.lo : Int)) = false := by simp; omega
    rw [q1] at hbt
    clear e q1
  case' inr.inl =>
    have q1 : ((l.r.hi : Int) == (r.r.lo : Int)) = true := by simp [e]
    have q2 : decide (l.r.ep < 1) = true := decide_eq_true e2
    rw [q1] at hbt
    clear e q1
  case' inr.inr =>
    have q1 : ((l.r.hi : Int) == (r.r.lo : Int)) = true := by simp [e]
    have q2 : decide (l.r.ep < 1) = false := decide_eq_false (by omega)
    have q3 : (l.r.id == r.r.id) = true := by simp [e3]
    rw [q1] at hbt
    clear e e3 q1
  all_goals
    go_wp2_with (first
      | ((with_reducible refine (hbt _).mono ?_); rintro e w3 ⟨rfl, rfl⟩)
      | (guard_target =~ wpList _ _ _ _ _ _; refine wpList_store_row rfl 30 _ _ rfl (w.heap.size + 1 + 1) zeroCells (by kernel_rfl) (by kernel_rfl) _ _ b3' (by kernel_rfl) (by kernel_rfl) (by kernel_rfl) ?_))
    (try simp only [Exit.inBlock, Exit.then])
    refine post_cell_tmp rfl (by rfl) (b3'.setRow zeroCells) rfl rfl (by kernel_rfl) ?_
    exact RejPost.zero (below_setRow hZ (by omega) _)
end
end Go.Proofs.YtipacjbegfingaaGreat
