/- The walk of Divide where a state has neither histories nor what is pending, and the split is good. -/
import Derived.Test.YtipacjbegfingaaFi
import Derived.Deep.MidRow
namespace Go.Proofs.Ytipacjbegfingaa
open Go.RowKit Fl
attribute [local go_sem] run_store_float

/-- a whole struct, of which the block is known, is taken first in a region that draws -/
theorem yieldsIf_load_blk {P : Program} {ops : Array Oper} {S : World → Prop} {op : Oper} {a : Act} (hw : Region.wanted op (yielded ops a.tmps) = true) (ty : TypeId) (x : Operand) (ho : op.op = .load ty x)
    (g : Nat) (hx : a.eval x = .pointer (some ⟨g, 0, none⟩)) (t : TypeId) (cs : Array Value) (d : TypeDesc) (hS : ∀ w, S w → Blk w g t cs)
    (hu : P.underlying ty = some d) (hd : (match d with | .struct _ | .array _ _ => true | _ => false) = true) (hi : (P.info? ty).map (·.size) = some cs.size) : YieldsIf P ops S op (.agg cs) a :=
  .inl ⟨hw, fun w hw' => by
    unfold execOp
    simp only [ho, hx, Instr.loadAt, Instr.sureAddr, Sem.run_bind, Sem.run_pure, Result.andThen_ok, run_loadVar_row w g t ty cs (0, 0) d (hS w hw') hu hd hi]⟩

theorem setRow_alloc (w : World) (t : TypeId) (c c' : Array Value) : (w.alloc (.cells c t)).setRow w.heap.size c' = w.alloc (.cells c' t) := by
  unfold World.setRow World.alloc
  congr 1
  apply Array.ext_getElem?
  intro i
  simp only [Array.getElem?_modify, Array.getElem?_push]
  by_cases h : i = w.heap.size
  · subst h; simp
  · have h' : w.heap.size ≠ i := fun e => h e.symm
    simp [h, h']
/-- a store of a whole struct into a box that is new -/
theorem wpList_store_new {P : Program} {ops : Array Oper} {rest : List Oper} {o : Oper} {a : Act} {w : World} {Q : Exit → Act → World → Prop} (hgd : o.guard = none) (ty : TypeId) (x y : Operand) (ho : o.op = .store ty x y)
    (cells : Array Value) (hx : a.eval x = .pointer (some ⟨w.heap.size, 0, none⟩)) (hy : a.eval y = .agg cells)
    (t : TypeId) (old : Array Value) (hi : (P.info? ty).map (·.size) = some cells.size)
    (hold : old.size = cells.size) (h1 : cells.all (·.oneCell') = true)
    (h : wpList P ops Q rest (a.put o.dst undef) (w.alloc (.cells cells t))) : wpList P ops Q (o :: rest) a (w.alloc (.cells old t)) :=
  wpList_store_row hgd ty x y ho _ cells hx hy t old (Blk.new w t old) hi hold h1 (by rw [setRow_alloc]; exact h)

abbrev nilCells (r : Rg) (f c : Sp) : Array Value := #[.int .i64 r.id, .int .i64 r.ep, .float .f64 r.lo, .float .f64 r.hi, .int .i64 f.w, .int .i64 f.l, .int .i64 f.n, .int .i64 c.w, .int .i64 c.l, .int .i64 c.n, .slice none 0 0, .slice none 0 0]

set_option maxRecDepth 100000 in
set_option maxHeartbeats 4000000 in
theorem divide_ok (r : Rg) (f c s q : Sp) (x : Nat) (k : Int) (w : World) (hok : r.ok) (hx : x < 18446744073709551616) (h1 : mayR r = true) (h2 : f.may = true) (h3 : c.may = true) (h4 : s.may = true) (h5 : q.may = true) (hE : splitE r x k = 0) :
    Calls Try.prog 10 #[nilVal r f c, .float .f64 x, .int .i64 k, s.val, q.val] w (DivPost w (nilVal (splitL r x k) f c) (nilVal (splitU r x k) q s) 0) := by
  have hst := fun w => stateMay_nil r f c w hok h1 h2 h3
  have hs := fun w => hmay_any s w
  have hq := fun w => hmay_any q w
  have hsp := fun w => split_any r x k w hok hx
  rw [h4] at hs
  rw [h5] at hq
  rw [hE] at hsp
  clear h1 h2 h3 h4 h5 hE
  generalize splitL r x k = sl at *
  generalize splitU r x k = su at *
  go_enter Try.func10, Try.ntmps10
  go_upto_region 8 with (first
    | ((with_reducible refine (hst _).mono ?_); rintro e w1 ⟨rfl, hb⟩
       obtain ⟨⟨b0, b1, b2, b3, b4⟩, hb0⟩ := five _ _ _ _ _ _ _ _ _ _ (by simp) hb
       have l4 := b4.lt
       obtain ⟨g2, s0, s1, s2⟩ := b1.three
       obtain ⟨g3, q0, q1, q2⟩ := b2.three
       obtain ⟨g0, z0, z1, z2, z3, z4, z5, z6, z7, z8, z9, z10, z11⟩ := b0.dozen
       have g1 : w.heap.size < w1.heap.size + 1 := by omega
       clear hb)
    | ((with_reducible refine (hs _).mono ?_); rintro e w3 ⟨rfl, rfl⟩)
    | ((with_reducible refine (hq _).mono ?_); rintro e w3 ⟨rfl, rfl⟩)
    | ((with_reducible refine (hsp _).mono ?_); rintro e w2 ⟨rfl, hb2⟩
       have b0' := ((b0.alloc _).alloc _).below hb2 (by simp; omega)
       have b1' := ((b1.alloc _).alloc _).below hb2 (by simp; omega)
       have b2' := ((b2.alloc _).alloc _).below hb2 (by simp; omega)
       have b3' := ((b3.alloc _).alloc _).below hb2 (by simp; omega)
       have b4' := ((b4.alloc _).alloc _).below hb2 (by simp; omega)))
  have b0 := (b0'.alloc (.cells #[.int .i64 sl.id, .int .i64 sl.ep, .float .f64 sl.lo, .float .f64 sl.hi] 24)).alloc (.cells #[.int .i64 su.id, .int .i64 su.ep, .float .f64 su.lo, .float .f64 su.hi] 24)
  have b1 := (b1'.alloc (.cells #[.int .i64 sl.id, .int .i64 sl.ep, .float .f64 sl.lo, .float .f64 sl.hi] 24)).alloc (.cells #[.int .i64 su.id, .int .i64 su.ep, .float .f64 su.lo, .float .f64 su.hi] 24)
  have b2 := (b2'.alloc (.cells #[.int .i64 sl.id, .int .i64 sl.ep, .float .f64 sl.lo, .float .f64 sl.hi] 24)).alloc (.cells #[.int .i64 su.id, .int .i64 su.ep, .float .f64 su.lo, .float .f64 su.hi] 24)
  have b3 := (b3'.alloc (.cells #[.int .i64 sl.id, .int .i64 sl.ep, .float .f64 sl.lo, .float .f64 sl.hi] 24)).alloc (.cells #[.int .i64 su.id, .int .i64 su.ep, .float .f64 su.lo, .float .f64 su.hi] 24)
  have b4 := (b4'.alloc (.cells #[.int .i64 sl.id, .int .i64 sl.ep, .float .f64 sl.lo, .float .f64 sl.hi] 24)).alloc (.cells #[.int .i64 su.id, .int .i64 su.ep, .float .f64 su.lo, .float .f64 su.hi] 24)
  have r13 := (Blk.new w2 24 #[.int .i64 sl.id, .int .i64 sl.ep, .float .f64 sl.lo, .float .f64 sl.hi]).alloc (.cells #[.int .i64 su.id, .int .i64 su.ep, .float .f64 su.lo, .float .f64 su.hi] 24)
  have r14 := Blk.new' (w := w2.alloc (.cells #[.int .i64 sl.id, .int .i64 sl.ep, .float .f64 sl.lo, .float .f64 sl.hi] 24)) (g := w2.heap.size + 1) 24 #[.int .i64 su.id, .int .i64 su.ep, .float .f64 su.lo, .float .f64 su.hi] (by simp)
  have hbz : Below w.heap.size w ((w2.alloc (.cells #[.int .i64 sl.id, .int .i64 sl.ep, .float .f64 sl.lo, .float .f64 sl.hi] 24)).alloc (.cells #[.int .i64 su.id, .int .i64 su.ep, .float .f64 su.lo, .float .f64 su.hi] 24)) := by
    refine (((hb0.alloc (by omega) _).alloc (by simp; omega) _).trans (hb2.mono (by simp; omega))).alloc ?_ _ |>.alloc ?_ _
    · have := b4'.lt; omega
    · have := b4'.lt; simp; omega
  have hgz : w.heap.size + 1 + 1 + 1 + 1 < w2.heap.size := b4'.lt
  generalize ((w2.alloc (.cells #[.int .i64 sl.id, .int .i64 sl.ep, .float .f64 sl.lo, .float .f64 sl.hi] 24)).alloc (.cells #[.int .i64 su.id, .int .i64 su.ep, .float .f64 su.lo, .float .f64 su.hi] 24)) = wz at *
  generalize w2.heap.size = g13 at *
  clear b0' b1' b2' b3' b4' hb2 s0 s1 s2 q0 q1 q2 z0 z1 z2 z3 z4 z5 z6 z7 z8 z9 z10 z11 g0 g1 g2 g3 hb0 l4 hst hs hq hsp
  obtain ⟨g1, s0, s1, s2⟩ := b1.three
  obtain ⟨g2, q0, q1, q2⟩ := b2.three
  obtain ⟨g0, z0, z1, z2, z3, z4, z5, z6, z7, z8, z9, z10, z11⟩ := b0.dozen
  obtain ⟨g13', x0, x1, x2, x3, -⟩ := r13.four
  obtain ⟨g14', y0, y1, y2, y3, -⟩ := r14.four
  go_wp2_with (first
    | (refine wpList_store_new rfl 30 _ _ rfl _ rfl rfl _ _ (by kernel_rfl) (by kernel_rfl) (by kernel_rfl) ?_))
  have b3z := (b3.alloc (.cells (nilCells sl f c) 30)).alloc (.cells (nilCells su q s) 30)
  have b4z := (b4.alloc (.cells (nilCells sl f c) 30)).alloc (.cells (nilCells su q s) 30)
  have b16 := (Blk.new wz 30 (nilCells sl f c)).alloc (.cells (nilCells su q s) 30)
  have b17 := Blk.new' (w := wz.alloc (.cells (nilCells sl f c) 30)) (g := wz.heap.size + 1) 30 (nilCells su q s) (by simp)
  have b0z := (b0.alloc (.cells (nilCells sl f c) 30)).alloc (.cells (nilCells su q s) 30)
  have hbf := (hbz.alloc (by omega) (.cells (nilCells sl f c) 30)).alloc (by simp; omega) (.cells (nilCells su q s) 30)
  have hgs : w.heap.size + 1 + 1 + 1 + 1 < wz.heap.size := by omega
  generalize (wz.alloc (.cells (nilCells sl f c) 30)).alloc (.cells (nilCells su q s) 30) = wy at *
  generalize wz.heap.size = g16 at *
  clear b0 b1 b2 b3 b4 r13 r14 hbz z0 z1 z2 z3 z4 z5 z6 z7 z8 z9 z10 z11 x0 x1 x2 x3 y0 y1 y2 y3 s0 s1 s2 q0 q1 q2
  obtain ⟨g0, z0, z1, z2, z3, z4, z5, z6, z7, z8, z9, z10, z11⟩ := b0z.dozen
  go_loop [68] (fun i => i = .int .i64 0) (fun _ => 0)
  case atStart => rfl
  case round =>
    obtain rfl := hrel
    go_wp2
    go_loop [97] (fun i => i = .int .i64 0) (fun _ => 0)
    case atStart => rfl
    case round =>
      obtain rfl := hrel
      go_wp2
      have hlt6 := b16.lt
      refine wp_region_held_drew (S := fun w' => Blk w' g16 30 (nilCells sl f c) ∧ Blk w' (g16 + 1) 30 (nilCells su q s)) (by kernel_rfl) ⟨b16, b17⟩ (fun hHeld => ?_)
      refine wpAnyH_take (i := 0) rfl (by kernel_rfl) (by kernel_rfl) (by kernel_rfl) (fun _ _ _ h => h) (yieldsIf_load_blk (by rfl) _ _ rfl g16 rfl _ _ _ (fun _ h => h.1) rfl rfl (by kernel_rfl)) hHeld ?_
      go_frame
      refine wpAnyH_take (i := 1) rfl (by kernel_rfl) (by kernel_rfl) (by kernel_rfl) (fun _ _ _ h => h) (yieldsIf_load_blk (by rfl) _ _ rfl (g16 + 1) rfl _ _ _ (fun _ h => h.2) rfl rfl (by kernel_rfl)) hHeld ?_
      go_frame
      refine wpAnyH_ready (rs := [2]) (by kernel_rfl) (by simp) ?_
      refine AllReadyH.cons rfl (fun K hK => ?_) AllReadyH.nil
      rw [if_pos (by rfl)]
      refine wp_store_row _ _ _ rfl _ _ rfl rfl _ _ b3z (by kernel_rfl) (by kernel_rfl) (by kernel_rfl) ?_
      refine hK.out _ _ ⟨b16.setRow_far _ (by omega), b17.setRow_far _ (by omega)⟩ (fun hHeld => ?_)
      clear hK K
      go_frame
      refine wpAnyH_ready (rs := [3]) (by kernel_rfl) (by simp) ?_
      refine AllReadyH.cons rfl (fun K hK => ?_) AllReadyH.nil
      rw [if_pos (by rfl)]
      refine wp_store_row _ _ _ rfl _ _ rfl rfl _ _ (b4z.setRow_far _ (by omega)) (by kernel_rfl) (by kernel_rfl) (by kernel_rfl) ?_
      refine hK.out _ _ ⟨(b16.setRow_far _ (by omega)).setRow_far _ (by omega), (b17.setRow_far _ (by omega)).setRow_far _ (by omega)⟩ (fun hHeld => ?_)
      clear hK K
      go_frame
      refine wpAnyH_ready (rs := [4]) (by kernel_rfl) (by simp) ?_
      refine AllReadyH.cons rfl (fun K hK => ?_) AllReadyH.nil
      rw [if_pos (by rfl)]
      go_simp
      refine hK.out _ _ ⟨(b16.setRow_far _ (by omega)).setRow_far _ (by omega), (b17.setRow_far _ (by omega)).setRow_far _ (by omega)⟩ (fun hHeld => ?_)
      clear hK K
      refine wpAnyH_done (by kernel_rfl) ?_ _
      have y3 := (b3z.setRow (nilCells sl f c)).setRow_far (g' := w.heap.size + 1 + 1 + 1 + 1) (nilCells su q s) (by omega)
      have y4 := (b4z.setRow_far (g' := w.heap.size + 1 + 1 + 1) (nilCells sl f c) (by omega)).setRow (nilCells su q s)
      go_wp2
      refine post_cell_cell_tmp rfl (by rfl) (by rfl) y3 y4 rfl rfl (by kernel_rfl) rfl rfl (by kernel_rfl) ?_
      exact ⟨rfl, below_setRow (below_setRow hbf.drew (by omega) _) (by omega) _⟩
end Go.Proofs.Ytipacjbegfingaa
