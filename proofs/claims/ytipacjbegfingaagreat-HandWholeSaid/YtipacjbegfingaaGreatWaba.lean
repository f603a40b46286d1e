/- The walks of hlc.May; of New, Load, StateMay and Divide where a state has neither histories nor what is pending; of first. -/
import Derived.Carry
import Derived.Deep.CutRange
import Derived.Deep.MidRow
import Derived.Test.YtipacjbegfingaaGreatWaac
import Derived.Test.YtipacjbegfingaaGreatWaah
namespace Go.Proofs.YtipacjbegfingaaGreat
open Go.RowKit Fl
attribute [local go_sem] run_store_float

set_option maxHeartbeats 1000000 in
theorem new_any (w : World) : Calls Tryz.prog 77 #[] w fun e w' => ∃ g, e = .returned (.pointer (some ⟨g, 0, none⟩)) ∧ Below w.heap.size w w' := by
  have hmm := @run_makeMap Tryz.prog
  go_enter Tryz.func77, Tryz.ntmps77
  go_wp2
  go_ret
  exact ⟨_, rfl, (((Below.refl _ _).alloc (Nat.le_refl _) _).alloc (by simp) _).alloc (by simp; omega) _⟩

set_option maxHeartbeats 1000000 in
theorem load_nil (c1 c2 : Nat) (w : World) : Calls Tryz.prog 48 #[.slice none 0 c1, .slice none 0 c2] w fun e w' => ∃ g, e = .returned (.tuple #[.pointer (some ⟨g, 0, none⟩), .int .i64 0]) ∧ Below w.heap.size w w' := by
  go_enter Tryz.func48, Tryz.ntmps48
  go_wp2_with fail
  refine (new_any _).mono ?_
  rintro e w1 ⟨g, rfl, hb⟩
  go_wp2_with fail
  go_loop [18] (fun i => i = .int .i64 0) (fun _ => 0)
  case atStart => rfl
  case round =>
    obtain rfl := hrel
    go_wp2
    go_loop [40] (fun i => i = .int .i64 0) (fun _ => 0)
    case atStart => rfl
    case round =>
      obtain rfl := hrel
      go_wp2
      go_ret2
      exact ⟨⟨g, rfl⟩, hb⟩

/-- a state without histories and without what is pending, as a value -/
abbrev nilVal (r : Rg) (f c : Sp) : Value := .agg #[.int .i64 r.id, .int .i64 r.ep, .float .f64 r.lo, .float .f64 r.hi, .int .i64 f.w, .int .i64 f.l, .int .i64 f.n, .int .i64 c.w, .int .i64 c.l, .int .i64 c.n, .slice none 0 0, .slice none 0 0]

set_option maxRecDepth 100000 in
set_option maxHeartbeats 4000000 in
theorem stateMay_nil (r : Rg) (f c : Sp) (w : World) (hok : r.ok) (h1 : mayR r = true) (h2 : f.may = true) (h3 : c.may = true) :
    Calls Tryz.prog 18 #[nilVal r f c] w fun e w' => e = .returned (.bool true) ∧ Below w.heap.size w w' := by
  have hm := fun w => may_any r w hok
  have hf := fun w => hmay_any f w
  have hc := fun w => hmay_any c w
  rw [h1] at hm
  rw [h2] at hf
  rw [h3] at hc
  clear h1 h2 h3
  have hB0 := Blk.new w 30 #[.int .i64 r.id, .int .i64 r.ep, .float .f64 r.lo, .float .f64 r.hi, .int .i64 f.w, .int .i64 f.l, .int .i64 f.n, .int .i64 c.w, .int .i64 c.l, .int .i64 c.n, .slice none 0 0, .slice none 0 0]
  go_enter Tryz.func18, Tryz.ntmps18
  go_wp2_with (first
    | ((with_reducible refine (hm _).mono ?_); rintro e w1 ⟨rfl, rfl⟩)
    | ((with_reducible refine (hf _).mono ?_); rintro e w1 ⟨rfl, rfl⟩)
    | ((with_reducible refine (hc _).mono ?_); rintro e w1 ⟨rfl, rfl⟩)
    | ((with_reducible refine (load_nil _ _ _).mono ?_); rintro e w1 ⟨g, rfl, hb⟩
       have hB := Blk.below (((hB0.alloc _).alloc _).alloc _) hb (((hB0.alloc _).alloc _).alloc _).lt
       have c10 := hB.cell 10
       have c11 := hB.cell 11
       simp only [List.getElem?_toArray, List.getElem?_cons_succ, List.getElem?_cons_zero] at c10 c11
       have hbb : Below w.heap.size w w1 := ((((Below.refl _ _).alloc (Nat.le_refl _) _).alloc (by simp) _ |>.alloc (by simp; omega) _).alloc (by simp; omega) _).trans (hb.mono (by simp; omega))))
  go_loop [44] (fun i => i = .int .i64 0) (fun _ => 0)
  case atStart => rfl
  case round =>
    obtain rfl := hrel
    go_wp2
    go_loop [57] (fun i => i = .int .i64 0) (fun _ => 0)
    case atStart => rfl
    case round =>
      obtain rfl := hrel
      go_wp2
      go_ret
      exact ⟨rfl, hbb⟩

/-- what Divide makes of such a state -/
def DivPost (w : World) (a b : Value) (e : Int) : Ending → World → Prop := fun en w' => en = .returned (.tuple #[a, b, .int .i64 e]) ∧ Below w.heap.size w w'
abbrev zeroCells : Array Value := #[.int .i64 0, .int .i64 0, .float .f64 0, .float .f64 0, .int .i64 0, .int .i64 0, .int .i64 0, .int .i64 0, .int .i64 0, .int .i64 0, .slice none 0 0, .slice none 0 0]
abbrev zeroState : Value := .agg zeroCells
/-- five boxes in a row, and what is behind them -/
theorem five {w w1 : World} (t0 t1 t2 t3 t4 : TypeId) (c0 c1 c2 c3 c4 : Array Value) {B : Nat} (hB : w.heap.size + 5 ≤ B)
    (hb : Below B (((((w.alloc (.cells c0 t0)).alloc (.cells c1 t1)).alloc (.cells c2 t2)).alloc (.cells c3 t3)).alloc (.cells c4 t4)) w1) :
    (Blk w1 w.heap.size t0 c0 ∧ Blk w1 (w.heap.size + 1) t1 c1 ∧ Blk w1 (w.heap.size + 1 + 1) t2 c2 ∧ Blk w1 (w.heap.size + 1 + 1 + 1) t3 c3 ∧ Blk w1 (w.heap.size + 1 + 1 + 1 + 1) t4 c4) ∧ Below w.heap.size w w1 := by
  have b0 := (((((Blk.new w t0 c0).alloc (.cells c1 t1)).alloc (.cells c2 t2)).alloc (.cells c3 t3)).alloc (.cells c4 t4)).below hb (by omega)
  have b1 := ((((Blk.new' (w := w.alloc (.cells c0 t0)) (g := w.heap.size + 1) t1 c1 (by simp)).alloc (.cells c2 t2)).alloc (.cells c3 t3)).alloc (.cells c4 t4)).below hb (by omega)
  have b2 := (((Blk.new' (w := (w.alloc (.cells c0 t0)).alloc (.cells c1 t1)) (g := w.heap.size + 1 + 1) t2 c2 (by simp)).alloc (.cells c3 t3)).alloc (.cells c4 t4)).below hb (by omega)
  have b3 := ((Blk.new' (w := ((w.alloc (.cells c0 t0)).alloc (.cells c1 t1)).alloc (.cells c2 t2)) (g := w.heap.size + 1 + 1 + 1) t3 c3 (by simp)).alloc (.cells c4 t4)).below hb (by omega)
  have b4 := (Blk.new' (w := (((w.alloc (.cells c0 t0)).alloc (.cells c1 t1)).alloc (.cells c2 t2)).alloc (.cells c3 t3)) (g := w.heap.size + 1 + 1 + 1 + 1) t4 c4 (by simp)).below hb (by omega)
  refine ⟨⟨b0, b1, b2, b3, b4⟩, ?_⟩
  exact ((((((Below.refl _ _).alloc (Nat.le_refl _) _).alloc (by simp) _).alloc (by simp; omega) _).alloc (by simp; omega) _).alloc (by simp; omega) _).trans (hb.mono (by omega))

/-- the cells of a block of twelve -/
theorem Blk.dozen {w : World} {g : Nat} {t : TypeId} {a b c d e f h i j k l m : Value} (hh : Blk w g t #[a, b, c, d, e, f, h, i, j, k, l, m]) :
    g < w.heap.size ∧ w.cell? ⟨g, 0, none⟩ = some a ∧ w.cell? ⟨g, 1, none⟩ = some b ∧ w.cell? ⟨g, 2, none⟩ = some c ∧ w.cell? ⟨g, 3, none⟩ = some d ∧ w.cell? ⟨g, 4, none⟩ = some e ∧ w.cell? ⟨g, 5, none⟩ = some f ∧
    w.cell? ⟨g, 6, none⟩ = some h ∧ w.cell? ⟨g, 7, none⟩ = some i ∧ w.cell? ⟨g, 8, none⟩ = some j ∧ w.cell? ⟨g, 9, none⟩ = some k ∧ w.cell? ⟨g, 10, none⟩ = some l ∧ w.cell? ⟨g, 11, none⟩ = some m :=
  ⟨hh.lt, hh.cell 0, hh.cell 1, hh.cell 2, hh.cell 3, hh.cell 4, hh.cell 5, hh.cell 6, hh.cell 7, hh.cell 8, hh.cell 9, hh.cell 10, hh.cell 11⟩

set_option maxRecDepth 100000 in
set_option maxHeartbeats 4000000 in
theorem divide_no (r : Rg) (f c s q : Sp) (x : Nat) (k : Int) (w : World) (hok : r.ok) (hx : x < 18446744073709551616) (h1 : mayR r = true) (h2 : f.may = true) (h3 : c.may = true) (h4 : s.may = true) (h5 : q.may = true) (hE : splitE r x k ≠ 0) :
    Calls Tryz.prog 11 #[nilVal r f c, .float .f64 x, .int .i64 k, s.val, q.val] w (DivPost w zeroState zeroState (splitE r x k)) := by
  have hst := fun w => stateMay_nil r f c w hok h1 h2 h3
  have hs := fun w => hmay_any s w
  have hq := fun w => hmay_any q w
  have hsp := fun w => split_any r x k w hok hx
  rw [h4] at hs
  rw [h5] at hq
  have hE1 : (splitE r x k != 0) = true := by simp [hE]
  clear h1 h2 h3 h4 h5
  generalize splitE r x k = ee at *
  generalize splitL r x k = sl at *
  generalize splitU r x k = su at *
  go_enter Tryz.func11, Tryz.ntmps11
  go_upto_region 7 with (first
    | ((with_reducible refine (hst _).mono ?_); rintro e w1 ⟨rfl, hb⟩
       obtain ⟨⟨b0, b1, b2, b3, b4⟩, hb0⟩ := five _ _ _ _ _ _ _ _ _ _ (by simp) hb
       have l4 := b4.lt
       obtain ⟨g2, s0, s1, s2⟩ := b1.three
       obtain ⟨g3, q0, q1, q2⟩ := b2.three
       obtain ⟨g0, z0, z1, z2, z3, z4, z5, z6, z7, z8, z9, z10, z11⟩ := b0.dozen
       have g1 : w.heap.size < w1.heap.size + 1 := by omega
       clear hb)
    | ((with_reducible refine (hs _).mono ?_); rintro e w3 ⟨rfl, rfl⟩)
    | ((with_reducible refine (hq _).mono ?_); rintro e w3 ⟨rfl, rfl⟩)
    | ((with_reducible refine (hsp _).mono ?_); rintro e w2 ⟨rfl, hb2⟩
       have b3' := ((b3.alloc _).alloc _).below hb2 (by simp; omega)
       have b4' := ((b4.alloc _).alloc _).below hb2 (by simp; omega)))
  have b3 := (b3'.alloc (.cells #[.int .i64 sl.id, .int .i64 sl.ep, .float .f64 sl.lo, .float .f64 sl.hi] 24)).alloc (.cells #[.int .i64 su.id, .int .i64 su.ep, .float .f64 su.lo, .float .f64 su.hi] 24)
  have b4 := (b4'.alloc (.cells #[.int .i64 sl.id, .int .i64 sl.ep, .float .f64 sl.lo, .float .f64 sl.hi] 24)).alloc (.cells #[.int .i64 su.id, .int .i64 su.ep, .float .f64 su.lo, .float .f64 su.hi] 24)
  have hbz : Below w.heap.size w ((w2.alloc (.cells #[.int .i64 sl.id, .int .i64 sl.ep, .float .f64 sl.lo, .float .f64 sl.hi] 24)).alloc (.cells #[.int .i64 su.id, .int .i64 su.ep, .float .f64 su.lo, .float .f64 su.hi] 24)) := by
    refine (((hb0.alloc (by omega) _).alloc (by simp; omega) _).trans (hb2.mono (by simp; omega))).alloc ?_ _ |>.alloc ?_ _
    · have := b4'.lt; omega
    · have := b4'.lt; simp; omega
  generalize ((w2.alloc (.cells #[.int .i64 sl.id, .int .i64 sl.ep, .float .f64 sl.lo, .float .f64 sl.hi] 24)).alloc (.cells #[.int .i64 su.id, .int .i64 su.ep, .float .f64 su.lo, .float .f64 su.hi] 24)) = wz at *
  clear b3' b4' hb2 b0 b1 b2
  go_wp2_with (first
    | (refine wpList_store_row rfl 30 _ _ rfl _ _ rfl rfl _ _ b3 (by kernel_rfl) (by kernel_rfl) (by kernel_rfl) ?_)
    | (refine wpList_store_row rfl 30 _ _ rfl _ _ rfl rfl _ _ (b4.setRow_far _ (by omega)) (by kernel_rfl) (by kernel_rfl) (by kernel_rfl) ?_))
  have y3 := (b3.setRow zeroCells).setRow_far (g' := w.heap.size + 1 + 1 + 1 + 1) zeroCells (by omega)
  have y4 := (b4.setRow_far (g' := w.heap.size + 1 + 1 + 1) zeroCells (by omega)).setRow zeroCells
  refine post_cell_cell_tmp rfl (by rfl) (by rfl) y3 y4 rfl rfl (by kernel_rfl) rfl rfl (by kernel_rfl) ?_
  exact ⟨rfl, below_setRow (below_setRow hbz (by omega) _) (by omega) _⟩
end Go.Proofs.YtipacjbegfingaaGreat
/- The walk of Divide where a state has neither histories nor what is pending, and the split is good. -/
namespace Go.Proofs.YtipacjbegfingaaGreat
open Go.RowKit Fl
attribute [local go_sem] run_store_float

/-- a whole struct, of which the block is known, is taken first in a region that draws -/
theorem yieldsIf_load_blk {P : Program} {ops : Array Oper} {S : World → Prop} {op : Oper} {a : Act} (hw : Region.wanted op (yielded ops a.tmps) = true) (ty : TypeId) (x : Operand) (ho : op.op = .load ty x)
    (g : Nat) (hx : a.eval x = .pointer (some ⟨g, 0, none⟩)) (t : TypeId) (cs : Array Value) (d : TypeDesc) (hS : ∀ w, S w → Blk w g t cs)
    (hu : P.underlying ty = some d) (hd : (match d with | .struct _ | .array _ _ => true | _ => false) = true) (hi : (P.info? ty).map (·.size) = some cs.size) : YieldsIf P ops S op (.agg cs) a :=
  .inl ⟨hw, fun w hw' => by
    unfold execOp
    simp only [ho, hx, Instr.loadAt, Instr.sureAddr, Sem.run_bind, Sem.run_pure, Result.andThen_ok, run_loadVar_row w g t ty cs (0, 0) d (hS w hw') hu hd hi]⟩

theorem setRow_alloc (w : World) (t : TypeId) (c c' : Array Value) : (w.alloc (.cells c t)).setRow w.heap.size c' = w.alloc (.cells c' t) := by
  unfold World.setRow World.alloc
  congr 1
  apply Array.ext_getElem?
  intro i
  simp only [Array.getElem?_modify, Array.getElem?_push]
  by_cases h : i = w.heap.size
  · subst h; simp
  · have h' : w.heap.size ≠ i := fun e => h e.symm
    simp [h, h']
/-- a store of a whole struct into a box that is new -/
theorem wpList_store_new {P : Program} {ops : Array Oper} {rest : List Oper} {o : Oper} {a : Act} {w : World} {Q : Exit → Act → World → Prop} (hgd : o.guard = none) (ty : TypeId) (x y : Operand) (ho : o.op = .store ty x y)
    (cells : Array Value) (hx : a.eval x = .pointer (some ⟨w.heap.size, 0, none⟩)) (hy : a.eval y = .agg cells)
    (t : TypeId) (old : Array Value) (hi : (P.info? ty).map (·.size) = some cells.size)
    (hold : old.size = cells.size) (h1 : cells.all (·.oneCell') = true)
    (h : wpList P ops Q rest (a.put o.dst undef) (w.alloc (.cells cells t))) : wpList P ops Q (o :: rest) a (w.alloc (.cells old t)) :=
  wpList_store_row hgd ty x y ho _ cells hx hy t old (Blk.new w t old) hi hold h1 (by rw [setRow_alloc]; exact h)

abbrev nilCells (r : Rg) (f c : Sp) : Array Value := #[.int .i64 r.id, .int .i64 r.ep, .float .f64 r.lo, .float .f64 r.hi, .int .i64 f.w, .int .i64 f.l, .int .i64 f.n, .int .i64 c.w, .int .i64 c.l, .int .i64 c.n, .slice none 0 0, .slice none 0 0]

set_option maxRecDepth 100000 in
set_option maxHeartbeats 4000000 in
theorem divide_ok (r : Rg) (f c s q : Sp) (x : Nat) (k : Int) (w : World) (hok : r.ok) (hx : x < 18446744073709551616) (h1 : mayR r = true) (h2 : f.may = true) (h3 : c.may = true) (h4 : s.may = true) (h5 : q.may = true) (hE : splitE r x k = 0) :
    Calls Tryz.prog 11 #[nilVal r f c, .float .f64 x, .int .i64 k, s.val, q.val] w (DivPost w (nilVal (splitL r x k) f c) (nilVal (splitU r x k) q s) 0) := by
  have hst := fun w => stateMay_nil r f c w hok h1 h2 h3
  have hs := fun w => hmay_any s w
  have hq := fun w => hmay_any q w
  have hsp := fun w => split_any r x k w hok hx
  rw [h4] at hs
  rw [h5] at hq
  rw [hE] at hsp
  clear h1 h2 h3 h4 h5 hE
  generalize splitL r x k = sl at *
  generalize splitU r x k = su at *
  go_enter Tryz.func11, Tryz.ntmps11
  go_upto_region 8 with (first
    | ((with_reducible refine (hst _).mono ?_); rintro e w1 ⟨rfl, hb⟩
       obtain ⟨⟨b0, b1, b2, b3, b4⟩, hb0⟩ := five _ _ _ _ _ _ _ _ _ _ (by simp) hb
       have l4 := b4.lt
       obtain ⟨g2, s0, s1, s2⟩ := b1.three
       obtain ⟨g3, q0, q1, q2⟩ := b2.three
       obtain ⟨g0, z0, z1, z2, z3, z4, z5, z6, z7, z8, z9, z10, z11⟩ := b0.dozen
       have g1 : w.heap.size < w1.heap.size + 1 := by omega
       clear hb)
    | ((with_reducible refine (hs _).mono ?_); rintro e w3 ⟨rfl, rfl⟩)
    | ((with_reducible refine (hq _).mono ?_); rintro e w3 ⟨rfl, rfl⟩)
    | ((with_reducible refine (hsp _).mono ?_); rintro e w2 ⟨rfl, hb2⟩
       have b0' := ((b0.alloc _).alloc _).below hb2 (by simp; omega)
       have b1' := ((b1.alloc _).alloc _).below hb2 (by simp; omega)
       have b2' := ((b2.alloc _).alloc _).below hb2 (by simp; omega)
       have b3' := ((b3.alloc _).alloc _).below hb2 (by simp; omega)
       have b4' := ((b4.alloc _).alloc _).below hb2 (by simp; omega)))
  have b0 := (b0'.alloc (.cells #[.int .i64 sl.id, .int .i64 sl.ep, .float .f64 sl.lo, .float .f64 sl.hi] 24)).alloc (.cells #[.int .i64 su.id, .int .i64 su.ep, .float .f64 su.lo, .float .f64 su.hi] 24)
  have b1 := (b1'.alloc (.cells #[.int .i64 sl.id, .int .i64 sl.ep, .float .f64 sl.lo, .float .f64 sl.hi] 24)).alloc (.cells #[.int .i64 su.id, .int .i64 su.ep, .float .f64 su.lo, .float .f64 su.hi] 24)
  have b2 := (b2'.alloc (.cells #[.int .i64 sl.id, .int .i64 sl.ep, .float .f64 sl.lo, .float .f64 sl.hi] 24)).alloc (.cells #[.int .i64 su.id, .int .i64 su.ep, .float .f64 su.lo, .float .f64 su.hi] 24)
  have b3 := (b3'.alloc (.cells #[.int .i64 sl.id, .int .i64 sl.ep, .float .f64 sl.lo, .float .f64 sl.hi] 24)).alloc (.cells #[.int .i64 su.id, .int .i64 su.ep, .float .f64 su.lo, .float .f64 su.hi] 24)
  have b4 := (b4'.alloc (.cells #[.int .i64 sl.id, .int .i64 sl.ep, .float .f64 sl.lo, .float .f64 sl.hi] 24)).alloc (.cells #[.int .i64 su.id, .int .i64 su.ep, .float .f64 su.lo, .float .f64 su.hi] 24)
  have r13 := (Blk.new w2 24 #[.int .i64 sl.id, .int .i64 sl.ep, .float .f64 sl.lo, .float .f64 sl.hi]).alloc (.cells #[.int .i64 su.id, .int .i64 su.ep, .float .f64 su.lo, .float .f64 su.hi] 24)
  have r14 := Blk.new' (w := w2.alloc (.cells #[.int .i64 sl.id, .int .i64 sl.ep, .float .f64 sl.lo, .float .f64 sl.hi] 24)) (g := w2.heap.size + 1) 24 #[.int .i64 su.id, .int .i64 su.ep, .float .f64 su.lo, .float .f64 su.hi] (by simp)
  have hbz : Below w.heap.size w ((w2.alloc (.cells #[.int .i64 sl.id, .int .i64 sl.ep, .float .f64 sl.lo, .float .f64 sl.hi] 24)).alloc (.cells #[.int .i64 su.id, .int .i64 su.ep, .float .f64 su.lo, .float .f64 su.hi] 24)) := by
    refine (((hb0.alloc (by omega) _).alloc (by simp; omega) _).trans (hb2.mono (by simp; omega))).alloc ?_ _ |>.alloc ?_ _
    · have := b4'.lt; omega
    · have := b4'.lt; simp; omega
  have hgz : w.heap.size + 1 + 1 + 1 + 1 < w2.heap.size := b4'.lt
  generalize ((w2.alloc (.cells #[.int .i64 sl.id, .int .i64 sl.ep, .float .f64 sl.lo, .float .f64 sl.hi] 24)).alloc (.cells #[.int .i64 su.id, .int .i64 su.ep, .float .f64 su.lo, .float .f64 su.hi] 24)) = wz at *
  generalize w2.heap.size = g13 at *
  clear b0' b1' b2' b3' b4' hb2 s0 s1 s2 q0 q1 q2 z0 z1 z2 z3 z4 z5 z6 z7 z8 z9 z10 z11 g0 g1 g2 g3 hb0 l4 hst hs hq hsp
  obtain ⟨g1, s0, s1, s2⟩ := b1.three
  obtain ⟨g2, q0, q1, q2⟩ := b2.three
  obtain ⟨g0, z0, z1, z2, z3, z4, z5, z6, z7, z8, z9, z10, z11⟩ := b0.dozen
  obtain ⟨g13', x0, x1, x2, x3, -⟩ := r13.four
  obtain ⟨g14', y0, y1, y2, y3, -⟩ := r14.four
  go_wp2_with (first
    | (refine wpList_store_new rfl 30 _ _ rfl _ rfl rfl _ _ (by kernel_rfl) (by kernel_rfl) (by kernel_rfl) ?_))
  have b3z := (b3.alloc (.cells (nilCells sl f c) 30)).alloc (.cells (nilCells su q s) 30)
  have b4z := (b4.alloc (.cells (nilCells sl f c) 30)).alloc (.cells (nilCells su q s) 30)
  have b16 := (Blk.new wz 30 (nilCells sl f c)).alloc (.cells (nilCells su q s) 30)
  have b17 := Blk.new' (w := wz.alloc (.cells (nilCells sl f c) 30)) (g := wz.heap.size + 1) 30 (nilCells su q s) (by simp)
  have b0z := (b0.alloc (.cells (nilCells sl f c) 30)).alloc (.cells (nilCells su q s) 30)
  have hbf := (hbz.alloc (by omega) (.cells (nilCells sl f c) 30)).alloc (by simp; omega) (.cells (nilCells su q s) 30)
  have hgs : w.heap.size + 1 + 1 + 1 + 1 < wz.heap.size := by omega
  generalize (wz.alloc (.cells (nilCells sl f c) 30)).alloc (.cells (nilCells su q s) 30) = wy at *
  generalize wz.heap.size = g16 at *
  clear b0 b1 b2 b3 b4 r13 r14 hbz z0 z1 z2 z3 z4 z5 z6 z7 z8 z9 z10 z11 x0 x1 x2 x3 y0 y1 y2 y3 s0 s1 s2 q0 q1 q2
  obtain ⟨g0, z0, z1, z2, z3, z4, z5, z6, z7, z8, z9, z10, z11⟩ := b0z.dozen
  go_loop [68] (fun i => i = .int .i64 0) (fun _ => 0)
  case atStart => rfl
  case round =>
    obtain rfl := hrel
    go_wp2
    go_loop [97] (fun i => i = .int .i64 0) (fun _ => 0)
    case atStart => rfl
    case round =>
      obtain rfl := hrel
      go_wp2
      have hlt6 := b16.lt
      refine wp_region_held_drew (S := fun w' => Blk w' g16 30 (nilCells sl f c) ∧ Blk w' (g16 + 1) 30 (nilCells su q s)) (by kernel_rfl) ⟨b16, b17⟩ (fun hHeld => ?_)
      refine wpAnyH_take (i := 0) rfl (by kernel_rfl) (by kernel_rfl) (by kernel_rfl) (fun _ _ _ h => h) (yieldsIf_load_blk (by rfl) _ _ rfl g16 rfl _ _ _ (fun _ h => h.1) rfl rfl (by kernel_rfl)) hHeld ?_
      go_frame
      refine wpAnyH_take (i := 1) rfl (by kernel_rfl) (by kernel_rfl) (by kernel_rfl) (fun _ _ _ h => h) (yieldsIf_load_blk (by rfl) _ _ rfl (g16 + 1) rfl _ _ _ (fun _ h => h.2) rfl rfl (by kernel_rfl)) hHeld ?_
      go_frame
      refine wpAnyH_ready (rs := [2]) (by kernel_rfl) (by simp) ?_
      refine AllReadyH.cons rfl (fun K hK => ?_) AllReadyH.nil
      rw [if_pos (by rfl)]
      refine wp_store_row _ _ _ rfl _ _ rfl rfl _ _ b3z (by kernel_rfl) (by kernel_rfl) (by kernel_rfl) ?_
      refine hK.out _ _ ⟨b16.setRow_far _ (by omega), b17.setRow_far _ (by omega)⟩ (fun hHeld => ?_)
      clear hK K
      go_frame
      refine wpAnyH_ready (rs := [3]) (by kernel_rfl) (by simp) ?_
      refine AllReadyH.cons rfl (fun K hK => ?_) AllReadyH.nil
      rw [if_pos (by rfl)]
      refine wp_store_row _ _ _ rfl _ _ rfl rfl _ _ (b4z.setRow_far _ (by omega)) (by kernel_rfl) (by kernel_rfl) (by kernel_rfl) ?_
      refine hK.out _ _ ⟨(b16.setRow_far _ (by omega)).setRow_far _ (by omega), (b17.setRow_far _ (by omega)).setRow_far _ (by omega)⟩ (fun hHeld => ?_)
      clear hK K
      go_frame
      refine wpAnyH_ready (rs := [4]) (by kernel_rfl) (by simp) ?_
      refine AllReadyH.cons rfl (fun K hK => ?_) AllReadyH.nil
      rw [if_pos (by rfl)]
      go_simp
      refine hK.out _ _ ⟨(b16.setRow_far _ (by omega)).setRow_far _ (by omega), (b17.setRow_far _ (by omega)).setRow_far _ (by omega)⟩ (fun hHeld => ?_)
      clear hK K
      refine wpAnyH_done (by kernel_rfl) ?_ _
      have y3 := (b3z.setRow (nilCells sl f c)).setRow_far (g' := w.heap.size + 1 + 1 + 1 + 1) (nilCells su q s) (by omega)
      have y4 := (b4z.setRow_far (g' := w.heap.size + 1 + 1 + 1) (nilCells sl f c) (by omega)).setRow (nilCells su q s)
      go_wp2
      refine post_cell_cell_tmp rfl (by rfl) (by rfl) y3 y4 rfl rfl (by kernel_rfl) rfl rfl (by kernel_rfl) ?_
      exact ⟨rfl, below_setRow (below_setRow hbf.drew (by omega) _) (by omega) _⟩
end Go.Proofs.YtipacjbegfingaaGreat
/- The walk of first: the chapter's examples. -/
namespace Go.Proofs.YtipacjbegfingaaGreat
open Go.RowKit Fl
attribute [local go_sem] run_store_float

theorem setRow_alloc2 (w : World) (t : TypeId) (c c' : Array Value) (o : Obj) : ((w.alloc (.cells c t)).alloc o).setRow w.heap.size c' = (w.alloc (.cells c' t)).alloc o := by
  unfold World.setRow World.alloc
  congr 1
  apply Array.ext_getElem?
  intro i
  simp only [Array.getElem?_modify, Array.getElem?_push, Array.size_push]
  by_cases h : i = w.heap.size
  · subst h; simp
  · have h' : w.heap.size ≠ i := fun e => h e.symm
    by_cases h2 : i = w.heap.size + 1
    · subst h2; simp
    · simp [h, h', h2]
/-- a store of a whole struct into the box that is new but one -/
theorem wpList_store_new2 {P : Program} {ops : Array Oper} {rest : List Oper} {o : Oper} {a : Act} {w : World} {Q : Exit → Act → World → Prop} (hgd : o.guard = none) (ty : TypeId) (x y : Operand) (ho : o.op = .store ty x y)
    (cells : Array Value) (hx : a.eval x = .pointer (some ⟨w.heap.size, 0, none⟩)) (hy : a.eval y = .agg cells)
    (t : TypeId) (old : Array Value) (ob : Obj) (hi : (P.info? ty).map (·.size) = some cells.size)
    (hold : old.size = cells.size) (h1 : cells.all (·.oneCell') = true)
    (h : wpList P ops Q rest (a.put o.dst undef) ((w.alloc (.cells cells t)).alloc ob)) : wpList P ops Q (o :: rest) a ((w.alloc (.cells old t)).alloc ob) :=
  wpList_store_row hgd ty x y ho _ cells hx hy t old ((Blk.new w t old).alloc ob) hi hold h1 (by rw [setRow_alloc2]; exact h)

theorem firstE : splitE ⟨1, 0, 0, 4607182418800017408⟩ 4602678819172646912 2 = 0 := by kernel_rfl
theorem firstL : splitL ⟨1, 0, 0, 4607182418800017408⟩ 4602678819172646912 2 = ⟨1, 1, 0, 4602678819172646912⟩ := by kernel_rfl
theorem firstU : splitU ⟨1, 0, 0, 4607182418800017408⟩ 4602678819172646912 2 = ⟨2, 0, 4602678819172646912, 4607182418800017408⟩ := by kernel_rfl
theorem firstM : mayR ⟨1, 0, 0, 4607182418800017408⟩ = true := by kernel_rfl
theorem firstE2 : splitE ⟨1, 0, 0, 4607182418800017408⟩ 0 2 = 24 := by kernel_rfl
theorem firstOk : Rg.ok ⟨1, 0, 0, 4607182418800017408⟩ := by unfold Rg.ok i64ok; simp

theorem div1 (w : World) : Calls Tryz.prog 11 #[nilVal ⟨1, 0, 0, 4607182418800017408⟩ ⟨0, 0, 0⟩ ⟨0, 0, 0⟩, .float .f64 4602678819172646912, .int .i64 2, .agg #[.int .i64 5, .int .i64 0, .int .i64 1], .agg #[.int .i64 9, .int .i64 0, .int .i64 0]] w
    (DivPost w (nilVal ⟨1, 1, 0, 4602678819172646912⟩ ⟨0, 0, 0⟩ ⟨0, 0, 0⟩) (nilVal ⟨2, 0, 4602678819172646912, 4607182418800017408⟩ ⟨9, 0, 0⟩ ⟨5, 0, 1⟩) 0) := by
  have h := divide_ok ⟨1, 0, 0, 4607182418800017408⟩ ⟨0, 0, 0⟩ ⟨0, 0, 0⟩ ⟨5, 0, 1⟩ ⟨9, 0, 0⟩ 4602678819172646912 2 w firstOk (by omega) firstM (by kernel_rfl) (by kernel_rfl) (by kernel_rfl) (by kernel_rfl) firstE
  rw [firstL, firstU] at h
  exact h
theorem div2 (w : World) : Calls Tryz.prog 11 #[nilVal ⟨1, 0, 0, 4607182418800017408⟩ ⟨0, 0, 0⟩ ⟨0, 0, 0⟩, .float .f64 0, .int .i64 2, .agg #[.int .i64 0, .int .i64 0, .int .i64 0], .agg #[.int .i64 0, .int .i64 0, .int .i64 0]] w
    (DivPost w zeroState zeroState 24) := by
  have h := divide_no ⟨1, 0, 0, 4607182418800017408⟩ ⟨0, 0, 0⟩ ⟨0, 0, 0⟩ ⟨0, 0, 0⟩ ⟨0, 0, 0⟩ 0 2 w firstOk (by omega) firstM (by kernel_rfl) (by kernel_rfl) (by kernel_rfl) (by kernel_rfl) (by rw [firstE2]; omega)
  rw [firstE2] at h
  exact h
theorem rng1 (w : World) : Calls Tryz.prog 14 #[.agg #[.int .i64 1, .int .i64 1, .float .f64 0, .float .f64 4602678819172646912], .agg #[.int .i64 1, .int .i64 1, .float .f64 0, .float .f64 4602678819172646912]] w fun e w' => e = .returned (.bool true) ∧ Below w.heap.size w w' :=
  range_any ⟨1, 1, 0, 4602678819172646912⟩ ⟨1, 1, 0, 4602678819172646912⟩ w
theorem rng2 (w : World) : Calls Tryz.prog 14 #[.agg #[.int .i64 2, .int .i64 0, .float .f64 4602678819172646912, .float .f64 4607182418800017408], .agg #[.int .i64 2, .int .i64 0, .float .f64 4602678819172646912, .float .f64 4607182418800017408]] w fun e w' => e = .returned (.bool true) ∧ Below w.heap.size w w' :=
  range_any ⟨2, 0, 4602678819172646912, 4607182418800017408⟩ ⟨2, 0, 4602678819172646912, 4607182418800017408⟩ w

set_option maxRecDepth 100000 in
set_option maxHeartbeats 4000000 in
theorem first_any (w : World) : Calls Tryz.prog 5 #[] w fun e w' => e = .returned (.bool true) ∧ Below w.heap.size w w' := by
  go_enter Tryz.func5, Tryz.ntmps5
  go_wp2_with (first
    | (refine wpList_store_new rfl 30 _ _ rfl _ rfl rfl _ _ (by kernel_rfl) (by kernel_rfl) (by kernel_rfl) ?_)
    | (refine wpList_store_new2 rfl 30 _ _ rfl _ rfl rfl _ _ _ (by kernel_rfl) (by kernel_rfl) (by kernel_rfl) ?_)
    | (go_at_call 11; fail))
  refine (div1 _).mono ?_
  rintro e w1 ⟨rfl, hb1⟩
  have c1 := (Blk.new w 30 (nilCells ⟨1, 0, 0, 4607182418800017408⟩ ⟨0, 0, 0⟩ ⟨0, 0, 0⟩)).below hb1 (by simp)
  have hw1 : Below w.heap.size w w1 := ((Below.refl _ _).alloc (Nat.le_refl _) _).trans (hb1.mono (by simp))
  obtain ⟨g0, z0, z1, z2, z3, z4, z5, z6, z7, z8, z9, z10, z11⟩ := c1.dozen
  have g1 : w.heap.size < w1.heap.size + 1 := by omega
  go_wp2_with (first
    | (refine wpList_store_new rfl 30 _ _ rfl _ rfl rfl _ _ (by kernel_rfl) (by kernel_rfl) (by kernel_rfl) ?_)
    | (refine wpList_store_new2 rfl 30 _ _ rfl _ rfl rfl _ _ _ (by kernel_rfl) (by kernel_rfl) (by kernel_rfl) ?_)
    | (go_at_call 11; fail))
  refine (div2 _).mono ?_
  rintro e w2 ⟨rfl, hb2⟩
  have c2 := ((Blk.new w1 30 (nilCells ⟨1, 1, 0, 4602678819172646912⟩ ⟨0, 0, 0⟩ ⟨0, 0, 0⟩)).alloc (.cells (nilCells ⟨2, 0, 4602678819172646912, 4607182418800017408⟩ ⟨9, 0, 0⟩ ⟨5, 0, 1⟩) 30)).below hb2 (by simp <;> omega)
  have c3 := (Blk.new' (w := w1.alloc (.cells (nilCells ⟨1, 1, 0, 4602678819172646912⟩ ⟨0, 0, 0⟩ ⟨0, 0, 0⟩) 30)) (g := w1.heap.size + 1) 30 (nilCells ⟨2, 0, 4602678819172646912, 4607182418800017408⟩ ⟨9, 0, 0⟩ ⟨5, 0, 1⟩) (by simp)).below hb2 (by simp <;> omega)
  have hw2 : Below w.heap.size w w2 := ((hw1.alloc (by omega) _).alloc (by simp; omega) _).trans (hb2.mono (by simp; omega))
  clear z0 z1 z2 z3 z4 z5 z6 z7 z8 z9 z10 z11 hb2 hb1 c1 g1 hw1
  generalize w1.heap.size = g at *
  obtain ⟨g2, x0, x1, x2, x3, x4, x5, x6, x7, x8, x9, x10, x11⟩ := c2.dozen
  obtain ⟨g3, y0, y1, y2, y3, y4, y5, y6, y7, y8, y9, y10, y11⟩ := c3.dozen
  have k2 : g < w2.heap.size + 1 := by omega
  have k3 : g + 1 < w2.heap.size + 1 := by omega
  go_wp2_with (first
    | (refine wpList_store_new rfl 30 _ _ rfl _ rfl rfl _ _ (by kernel_rfl) (by kernel_rfl) (by kernel_rfl) ?_)
    | (refine wpList_store_new2 rfl 30 _ _ rfl _ rfl rfl _ _ _ (by kernel_rfl) (by kernel_rfl) (by kernel_rfl) ?_)
    | ((with_reducible refine (rng1 _).mono ?_); rintro e w3 ⟨rfl, hb3⟩
       have c3' := ((c3.alloc _).alloc _).below hb3 (by simp; omega)
       obtain ⟨g3', y0', y1', y2', y3', y4', y5', y6', y7', y8', y9', y10', y11'⟩ := c3'.dozen
       have hw3 : Below w.heap.size w w3 := ((hw2.alloc (by omega) _).alloc (by simp; omega) _).trans (hb3.mono (by simp; omega)))
    | ((with_reducible refine (rng2 _).mono ?_); rintro e w4 ⟨rfl, hb4⟩
       have c3'' := c3'.below hb4 (by omega)
       obtain ⟨g3'', y0'', y1'', y2'', y3'', y4'', y5'', y6'', y7'', y8'', y9'', y10'', y11''⟩ := c3''.dozen
       have hw4 : Below w.heap.size w w4 := hw3.trans (hb4.mono (by omega))))
  go_ret
  exact ⟨rfl, hw4⟩
end Go.Proofs.YtipacjbegfingaaGreat
