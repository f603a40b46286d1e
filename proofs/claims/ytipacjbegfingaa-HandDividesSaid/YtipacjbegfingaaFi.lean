/- The walks of hlc.May; of New, Load, StateMay and Divide where a state has neither histories nor what is pending; of first. -/
import Derived.Test.YtipacjbegfingaaHw
import Derived.Test.YtipacjbegfingaaDj
import Derived.Test.YtipacjbegfingaaPs
import Derived.Carry
import Derived.Deep.CutRange
namespace Go.Proofs.Ytipacjbegfingaa
open Go.RowKit Fl
attribute [local go_sem] run_store_float

set_option maxHeartbeats 1000000 in
theorem new_any (w : World) : Calls Try.prog 82 #[] w fun e w' => ∃ g, e = .returned (.pointer (some ⟨g, 0, none⟩)) ∧ Below w.heap.size w w' := by
  have hmm := @run_makeMap Try.prog
  go_enter Try.func82, Try.ntmps82
  go_wp2
  go_ret
  exact ⟨_, rfl, (((Below.refl _ _).alloc (Nat.le_refl _) _).alloc (by simp) _).alloc (by simp; omega) _⟩

set_option maxHeartbeats 1000000 in
theorem load_nil (c1 c2 : Nat) (w : World) : Calls Try.prog 60 #[.slice none 0 c1, .slice none 0 c2] w fun e w' => ∃ g, e = .returned (.tuple #[.pointer (some ⟨g, 0, none⟩), .int .i64 0]) ∧ Below w.heap.size w w' := by
  go_enter Try.func60, Try.ntmps60
  go_wp2_with fail
  refine (new_any _).mono ?_
  rintro e w1 ⟨g, rfl, hb⟩
  go_wp2_with fail
  go_loop [18] (fun i => i = .int .i64 0) (fun _ => 0)
  case atStart => rfl
  case round =>
    obtain rfl := hrel
    go_wp2
    go_loop [40] (fun i => i = .int .i64 0) (fun _ => 0)
    case atStart => rfl
    case round =>
      obtain rfl := hrel
      go_wp2
      go_ret2
      exact ⟨⟨g, rfl⟩, hb⟩

/-- a state without histories and without what is pending, as a value -/
abbrev nilVal (r : Rg) (f c : Sp) : Value := .agg #[.int .i64 r.id, .int .i64 r.ep, .float .f64 r.lo, .float .f64 r.hi, .int .i64 f.w, .int .i64 f.l, .int .i64 f.n, .int .i64 c.w, .int .i64 c.l, .int .i64 c.n, .slice none 0 0, .slice none 0 0]

set_option maxRecDepth 100000 in
set_option maxHeartbeats 4000000 in
theorem stateMay_nil (r : Rg) (f c : Sp) (w : World) (hok : r.ok) (h1 : mayR r = true) (h2 : f.may = true) (h3 : c.may = true) :
    Calls Try.prog 29 #[nilVal r f c] w fun e w' => e = .returned (.bool true) ∧ Below w.heap.size w w' := by
  have hm := fun w => may_any r w hok
  have hf := fun w => hmay_any f w
  have hc := fun w => hmay_any c w
  rw [h1] at hm
  rw [h2] at hf
  rw [h3] at hc
  clear h1 h2 h3
  have hB0 := Blk.new w 30 #[.int .i64 r.id, .int .i64 r.ep, .float .f64 r.lo, .float .f64 r.hi, .int .i64 f.w, .int .i64 f.l, .int .i64 f.n, .int .i64 c.w, .int .i64 c.l, .int .i64 c.n, .slice none 0 0, .slice none 0 0]
  go_enter Try.func29, Try.ntmps29
  go_wp2_with (first
    | ((with_reducible refine (hm _).mono ?_); rintro e w1 ⟨rfl, rfl⟩)
    | ((with_reducible refine (hf _).mono ?_); rintro e w1 ⟨rfl, rfl⟩)
    | ((with_reducible refine (hc _).mono ?_); rintro e w1 ⟨rfl, rfl⟩)
    | ((with_reducible refine (load_nil _ _ _).mono ?_); rintro e w1 ⟨g, rfl, hb⟩
       have hB := Blk.below (((hB0.alloc _).alloc _).alloc _) hb (((hB0.alloc _).alloc _).alloc _).lt
       have c10 := hB.cell 10
       have c11 := hB.cell 11
       simp only [List.getElem?_toArray, List.getElem?_cons_succ, List.getElem?_cons_zero] at c10 c11
       have hbb : Below w.heap.size w w1 := ((((Below.refl _ _).alloc (Nat.le_refl _) _).alloc (by simp) _ |>.alloc (by simp; omega) _).alloc (by simp; omega) _).trans (hb.mono (by simp; omega))))
  go_loop [44] (fun i => i = .int .i64 0) (fun _ => 0)
  case atStart => rfl
  case round =>
    obtain rfl := hrel
    go_wp2
    go_loop [57] (fun i => i = .int .i64 0) (fun _ => 0)
    case atStart => rfl
    case round =>
      obtain rfl := hrel
      go_wp2
      go_ret
      exact ⟨rfl, hbb⟩

/-- what Divide makes of such a state -/
def DivPost (w : World) (a b : Value) (e : Int) : Ending → World → Prop := fun en w' => en = .returned (.tuple #[a, b, .int .i64 e]) ∧ Below w.heap.size w w'
abbrev zeroCells : Array Value := #[.int .i64 0, .int .i64 0, .float .f64 0, .float .f64 0, .int .i64 0, .int .i64 0, .int .i64 0, .int .i64 0, .int .i64 0, .int .i64 0, .slice none 0 0, .slice none 0 0]
abbrev zeroState : Value := .agg zeroCells
/-- five boxes in a row, and what is behind them -/
theorem five {w w1 : World} (t0 t1 t2 t3 t4 : TypeId) (c0 c1 c2 c3 c4 : Array Value) {B : Nat} (hB : w.heap.size + 5 ≤ B)
    (hb : Below B (((((w.alloc (.cells c0 t0)).alloc (.cells c1 t1)).alloc (.cells c2 t2)).alloc (.cells c3 t3)).alloc (.cells c4 t4)) w1) :
    (Blk w1 w.heap.size t0 c0 ∧ Blk w1 (w.heap.size + 1) t1 c1 ∧ Blk w1 (w.heap.size + 1 + 1) t2 c2 ∧ Blk w1 (w.heap.size + 1 + 1 + 1) t3 c3 ∧ Blk w1 (w.heap.size + 1 + 1 + 1 + 1) t4 c4) ∧ Below w.heap.size w w1 := by
  have b0 := (((((Blk.new w t0 c0).alloc (.cells c1 t1)).alloc (.cells c2 t2)).alloc (.cells c3 t3)).alloc (.cells c4 t4)).below hb (by omega)
  have b1 := ((((Blk.new' (w := w.alloc (.cells c0 t0)) (g := w.heap.size + 1) t1 c1 (by simp)).alloc (.cells c2 t2)).alloc (.cells c3 t3)).alloc (.cells c4 t4)).below hb (by omega)
  have b2 := (((Blk.new' (w := (w.alloc (.cells c0 t0)).alloc (.cells c1 t1)) (g := w.heap.size + 1 + 1) t2 c2 (by simp)).alloc (.cells c3 t3)).alloc (.cells c4 t4)).below hb (by omega)
  have b3 := ((Blk.new' (w := ((w.alloc (.cells c0 t0)).alloc (.cells c1 t1)).alloc (.cells c2 t2)) (g := w.heap.size + 1 + 1 + 1) t3 c3 (by simp)).alloc (.cells c4 t4)).below hb (by omega)
  have b4 := (Blk.new' (w := (((w.alloc (.cells c0 t0)).alloc (.cells c1 t1)).alloc (.cells c2 t2)).alloc (.cells c3 t3)) (g := w.heap.size + 1 + 1 + 1 + 1) t4 c4 (by simp)).below hb (by omega)
  refine ⟨⟨b0, b1, b2, b3, b4⟩, ?_⟩
  exact ((((((Below.refl _ _).alloc (Nat.le_refl _) _).alloc (by simp) _).alloc (by simp; omega) _).alloc (by simp; omega) _).alloc (by simp; omega) _).trans (hb.mono (by omega))

/-- the cells of a block of twelve -/
theorem Blk.dozen {w : World} {g : Nat} {t : TypeId} {a b c d e f h i j k l m : Value} (hh : Blk w g t #[a, b, c, d, e, f, h, i, j, k, l, m]) :
    g < w.heap.size ∧ w.cell? ⟨g, 0, none⟩ = some a ∧ w.cell? ⟨g, 1, none⟩ = some b ∧ w.cell? ⟨g, 2, none⟩ = some c ∧ w.cell? ⟨g, 3, none⟩ = some d ∧ w.cell? ⟨g, 4, none⟩ = some e ∧ w.cell? ⟨g, 5, none⟩ = some f ∧
    w.cell? ⟨g, 6, none⟩ = some h ∧ w.cell? ⟨g, 7, none⟩ = some i ∧ w.cell? ⟨g, 8, none⟩ = some j ∧ w.cell? ⟨g, 9, none⟩ = some k ∧ w.cell? ⟨g, 10, none⟩ = some l ∧ w.cell? ⟨g, 11, none⟩ = some m :=
  ⟨hh.lt, hh.cell 0, hh.cell 1, hh.cell 2, hh.cell 3, hh.cell 4, hh.cell 5, hh.cell 6, hh.cell 7, hh.cell 8, hh.cell 9, hh.cell 10, hh.cell 11⟩

set_option maxRecDepth 100000 in
set_option maxHeartbeats 4000000 in
theorem divide_no (r : Rg) (f c s q : Sp) (x : Nat) (k : Int) (w : World) (hok : r.ok) (hx : x < 18446744073709551616) (h1 : mayR r = true) (h2 : f.may = true) (h3 : c.may = true) (h4 : s.may = true) (h5 : q.may = true) (hE : splitE r x k ≠ 0) :
    Calls Try.prog 10 #[nilVal r f c, .float .f64 x, .int .i64 k, s.val, q.val] w (DivPost w zeroState zeroState (splitE r x k)) := by
  have hst := fun w => stateMay_nil r f c w hok h1 h2 h3
  have hs := fun w => hmay_any s w
  have hq := fun w => hmay_any q w
  have hsp := fun w => split_any r x k w hok hx
  rw [h4] at hs
  rw [h5] at hq
  have hE1 : (splitE r x k != 0) = true := by simp [hE]
  clear h1 h2 h3 h4 h5
  generalize splitE r x k = ee at *
  generalize splitL r x k = sl at *
  generalize splitU r x k = su at *
  go_enter Try.func10, Try.ntmps10
  go_upto_region 7 with (first
    | ((with_reducible refine (hst _).mono ?_); rintro e w1 ⟨rfl, hb⟩
       obtain ⟨⟨b0, b1, b2, b3, b4⟩, hb0⟩ := five _ _ _ _ _ _ _ _ _ _ (by simp) hb
       have l4 := b4.lt
       obtain ⟨g2, s0, s1, s2⟩ := b1.three
       obtain ⟨g3, q0, q1, q2⟩ := b2.three
       obtain ⟨g0, z0, z1, z2, z3, z4, z5, z6, z7, z8, z9, z10, z11⟩ := b0.dozen
       have g1 : w.heap.size < w1.heap.size + 1 := by omega
       clear hb)
    | ((with_reducible refine (hs _).mono ?_); rintro e w3 ⟨rfl, rfl⟩)
    | ((with_reducible refine (hq _).mono ?_); rintro e w3 ⟨rfl, rfl⟩)
    | ((with_reducible refine (hsp _).mono ?_); rintro e w2 ⟨rfl, hb2⟩
       have b3' := ((b3.alloc _).alloc _).below hb2 (by simp; omega)
       have b4' := ((b4.alloc _).alloc _).below hb2 (by simp; omega)))
  have b3 := (b3'.alloc (.cells #[.int .i64 sl.id, .int .i64 sl.ep, .float .f64 sl.lo, .float .f64 sl.hi] 24)).alloc (.cells #[.int .i64 su.id, .int .i64 su.ep, .float .f64 su.lo, .float .f64 su.hi] 24)
  have b4 := (b4'.alloc (.cells #[.int .i64 sl.id, .int .i64 sl.ep, .float .f64 sl.lo, .float .f64 sl.hi] 24)).alloc (.cells #[.int .i64 su.id, .int .i64 su.ep, .float .f64 su.lo, .float .f64 su.hi] 24)
  have hbz : Below w.heap.size w ((w2.alloc (.cells #[.int .i64 sl.id, .int .i64 sl.ep, .float .f64 sl.lo, .float .f64 sl.hi] 24)).alloc (.cells #[.int .i64 su.id, .int .i64 su.ep, .float .f64 su.lo, .float .f64 su.hi] 24)) := by
    refine (((hb0.alloc (by omega) _).alloc (by simp; omega) _).trans (hb2.mono (by simp; omega))).alloc ?_ _ |>.alloc ?_ _
    · have := b4'.lt; omega
    · have := b4'.lt; simp; omega
  generalize ((w2.alloc (.cells #[.int .i64 sl.id, .int .i64 sl.ep, .float .f64 sl.lo, .float .f64 sl.hi] 24)).alloc (.cells #[.int .i64 su.id, .int .i64 su.ep, .float .f64 su.lo, .float .f64 su.hi] 24)) = wz at *
  clear b3' b4' hb2 b0 b1 b2
  go_wp2_with (first
    | (refine wpList_store_row rfl 30 _ _ rfl _ _ rfl rfl _ _ b3 (by kernel_rfl) (by kernel_rfl) (by kernel_rfl) ?_)
    | (refine wpList_store_row rfl 30 _ _ rfl _ _ rfl rfl _ _ (b4.setRow_far _ (by omega)) (by kernel_rfl) (by kernel_rfl) (by kernel_rfl) ?_))
  have y3 := (b3.setRow zeroCells).setRow_far (g' := w.heap.size + 1 + 1 + 1 + 1) zeroCells (by omega)
  have y4 := (b4.setRow_far (g' := w.heap.size + 1 + 1 + 1) zeroCells (by omega)).setRow zeroCells
  refine post_cell_cell_tmp rfl (by rfl) (by rfl) y3 y4 rfl rfl (by kernel_rfl) rfl rfl (by kernel_rfl) ?_
  exact ⟨rfl, below_setRow (below_setRow hbz (by omega) _) (by omega) _⟩
end Go.Proofs.Ytipacjbegfingaa
