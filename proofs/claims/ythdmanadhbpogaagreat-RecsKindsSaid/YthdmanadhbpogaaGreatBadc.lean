/- The walks of CopyInts and CopyRec. -/
import Derived.Test.YthdmanadhbpogaaGreatBace
import Derived.Test.YthdmanadhbpogaaGreatBada
import Derived.Test.YthdmanadhbpogaaGreatBadb
namespace Go.Proofs.YthdmanadhbpogaaGreat
set_option linter.unusedVariables false
open Go.RowKit Fl
attribute [local go_sem] run_store_float

theorem nm_info : (Tryz.prog.info? 3).map (fun i => (i.zero, i.size, i.bytes)) = some (some (.int .i64 0), 1, 8) := by kernel_rfl
theorem pr_info : (Tryz.prog.info? 61).map (fun i => (i.zero, i.size, i.bytes)) = some (some (.agg #[.string ⟨#[]⟩, .int .i64 0, .float .f64 0, .string ⟨#[]⟩]), 4, 48) := by kernel_rfl
set_option maxRecDepth 100000 in
set_option maxHeartbeats 4000000 in
theorem ints_any (A : Option Addr) (n c : Nat) (l : List Int) (w : World) (h : Sl NmRel 1 w w.heap.size A n l) (hn : n ≤ 1000000) :
    Calls Tryz.prog 39 #[.slice A n c] w fun e w' => ∃ v, e = .returned v ∧ OwnL nmCells 3 1 w.heap.size w' v l ∧ Below w.heap.size w w' := by
  obtain ⟨i0, hi0, hz0, hz1, hz2⟩ := info_parts nm_info
  have hl := h.1
  have hle : l.length ≤ n := by omega
  have hge : n ≤ l.length := by omega
  clear hl
  go_enter Tryz.func39, Tryz.ntmps39
  go_wp2
  go_loopw [3, 4] (fun v i wr => CopyRel nmCells 3 1 l w v i wr) (fun _ i _ => n - (intOf i).toNat)
  case atStart => exact ⟨0, by omega, rfl, OwnL.nil _, Below.refl _ _⟩
  case round =>
    obtain ⟨k, hk, rfl, ho, hb⟩ := hrel
    have hzz := hb.size
    by_cases hlt : k < n
    · obtain ⟨ad, a, rfl, ha, hbk, hok, c0⟩ := (h.below NmRel.kept hb).nm hlt
      have hd1 : decide ((k : Int) < (n : Int)) = true := by simp; omega
      have hk0 : (0 : Int) ≤ (k : Int) := by omega
      have hk1 : (k : Int) < (n : Int) := by omega
      have HS := Lib.hid (show l.take (k + 1) = l.take k ++ [a] by rw [List.take_add_one, ha]; rfl)
      have hln : (l.take k).length ≤ 1000000 := by simp; omega
      clear ha
      obtain ⟨A1, q1, rfl, hq1, hq1m⟩ := ho.form
      generalize l.take k = ks at *
      have hX : Below wr.heap.size wr (wr.alloc (.cells (nmCells a).toArray 3)) := (Below.refl _ _).alloc (Nat.le_refl _) _
      have hown0 := ho.below hX
      have hrd0 := reads_new' wr 3 (nmCells a) 1 rfl
      go_wp2_with (first
        | (at_builtin
           refine wpList_append_any _ rfl (.tmp 11) (.tmp 16) _ rfl w.heap.size 3 i0 _ 1 8 Tryz.underlying29 hi0 hz0 hz1 hz2 rfl (by omega) (.slice A1 ks.length q1) _ (ks.flatMap nmCells) (by rfl) hown0 _ (some ⟨wr.heap.size, 0, none⟩) 1 1 (nmCells a) (by rfl)
             hrd0 (nm_one a) (by unfold maxLen; omega) (by omega) (by simp; omega) ?_
           intro v3 w3 hown3 hg3 hat3
           obtain ⟨A3, q3, rfl, hq3, hq3m⟩ := own_form hown3))
      have hp := OwnL.push a hown3
      have hbw := (hb.trans (hX.mono hzz)).grown hg3 (by simp; omega) (fun q hq => (hown0.lt q hq).1)
      go_roundw
      case rel =>
        refine ⟨k + 1, by omega, by go_num, ?_, hbw⟩
        rw [HS.out]
        exact hp
      case measure => simp [intOf]; omega
    · have hd1 : decide ((k : Int) < (n : Int)) = false := by simp; omega
      rw [List.take_of_length_le (by omega)] at ho
      obtain ⟨A1, q1, rfl, hq1, hq1m⟩ := ho.form
      go_wp2
      go_ret
      exact ⟨_, rfl, ho, hb⟩
theorem setCells_far {b j : Nat} (hj : j ≠ b) : ∀ (vs : List Value) (o : Nat) (w : World), (w.setCells b o vs).heap[j]? = w.heap[j]? := by
  intro vs
  induction vs with
  | nil => intro o w; rfl
  | cons v vs ih => intro o w; exact (ih (o + 1) (w.setCell ⟨b, o, none⟩ v)).trans (Below.heap_setCell _ _ _ _ hj)
theorem setCells_size {b : Nat} : ∀ (vs : List Value) (o : Nat) (w : World), (w.setCells b o vs).heap.size = w.heap.size := by
  intro vs
  induction vs with
  | nil => intro o w; rfl
  | cons v vs ih => intro o w; exact (ih (o + 1) (w.setCell ⟨b, o, none⟩ v)).trans (by simp)
theorem setCells_below {B b : Nat} (hb : B ≤ b) {w : World} : ∀ (vs : List Value) (o : Nat) (w1 : World), Below B w w1 → Below B w (w1.setCells b o vs) := by
  intro vs
  induction vs with
  | nil => intro o w1 h; exact h
  | cons v vs ih => intro o w1 h; exact ih (o + 1) _ (h.setCell (p := ⟨b, o, none⟩) hb v)
def setA : Array Value → Nat → List Value → Array Value
  | cs, _, [] => cs
  | cs, o, v :: vs => setA (cs.setIfInBounds o v) (o + 1) vs
theorem Blk.setCells {g : Nat} {t : TypeId} : ∀ (vs : List Value) (o : Nat) (w : World) (cs : Array Value), Blk w g t cs → Blk (w.setCells g o vs) g t (setA cs o vs) := by
  intro vs
  induction vs with
  | nil => intro o w cs h; exact h
  | cons v vs ih => intro o w cs h; exact ih (o + 1) _ _ (h.set_ o v)
theorem HdRel.hd {α : Type} {R : Rel α} {size : Nat} {w : World} {B : Nat} {A : Option Addr} {n c : Nat} {l : List α} (h : HdRel R size w B (.slice A n c) l) : Sl R size w B A n l ∧ n ≤ c ∧ c ≤ maxLen := by
  obtain ⟨A', n', c', e, h1, h2, h3⟩ := h
  injection e with a1 a2 a3
  subst a1 a2 a3
  exact ⟨h3, h1, h2⟩
abbrev zeroRc : Array Value := #[.int .i64 0, .int .i64 0, .int .i64 0, .int .i64 0, .int .i64 0, .int .i64 0, .int .i64 0, .int .i64 0, .int .i64 0, .int .i64 0, .bool false, .int .i64 0, .float .f64 0, .slice none 0 0, .slice none 0 0, .slice none 0 0, .slice none 0 0, .int .i64 0, .int .i64 0, .float .f64 0, .float .f64 0, .int .i64 0, .int .i64 0, .int .i64 0, .int .i64 0, .int .i64 0, .int .i64 0, .slice none 0 0, .slice none 0 0]
/-- a copy under way: the plain fields, its lists so far -/
abbrev Rc.part (r : Rc) (v1 v2 v3 v4 : Value) : Array Value := #[.int .i64 r.k, .int .i64 r.t.c, .int .i64 r.t.l, .int .i64 r.t.s, .int .i64 r.s.w, .int .i64 r.s.l, .int .i64 r.s.n, .int .i64 r.pv.w, .int .i64 r.pv.l, .int .i64 r.pv.n, .bool r.cm, .int .i64 r.n, .float .f64 r.pt, v1, v2, v3, v4, .int .i64 0, .int .i64 0, .float .f64 0, .float .f64 0, .int .i64 0, .int .i64 0, .int .i64 0, .int .i64 0, .int .i64 0, .int .i64 0, .slice none 0 0, .slice none 0 0]
theorem keepR {w w' : World} {base : Nat} {E size : Nat} {α : Type} {f : α → List Value} {v : Value} {l : List α} (h : OwnL f E size base w v l) (hb : ∀ k, base ≤ k → k < w.heap.size → w'.heap[k]? = w.heap[k]?) : OwnL f E size base w' v l := owns_same h hb
def PrRel (r : Rc) (h : Hds) (w W : World) (v1 v2 v3 i : Value) (wr : World) : Prop := ∃ (k : Nat) (v4 : Value), k ≤ h.d.n ∧ i = .int .i64 (k : Int) ∧ Blk wr w.heap.size 38 (r.vals h) ∧ Blk wr (w.heap.size + 1) 38 zeroRc ∧ Blk wr (w.heap.size + 1 + 1) 38 (r.part v1 v2 v3 v4) ∧
  OwnL Wt.cells 61 4 W.heap.size wr v4 (r.pr.take k) ∧ (∀ j, w.heap.size + 1 + 1 + 1 ≤ j → j < W.heap.size → wr.heap[j]? = W.heap[j]?) ∧ Below w.heap.size w wr ∧ W.heap.size ≤ wr.heap.size
structure CopyRP (r : Rc) (w : World) (e : Ending) (w' : World) : Prop where
  res : ∃ g : Hds, e = .returned (.agg (r.vals g)) ∧ g.caps ∧ RcIn w' r g
  below : Below w.heap.size w w'
set_option maxRecDepth 100000 in
set_option maxHeartbeats 8000000 in
theorem copyRec_any (r : Rc) (h : Hds) (w : World) (i : RcIn w r h) (sm : RcSm r h) :
    Calls Tryz.prog 11 #[.agg (r.vals h)] w (CopyRP r w) := by
  have hX : Below w.heap.size w ((w.alloc (.cells (r.vals h) 38)).alloc (.cells zeroRc 38)) := by go_grown
  have k1 : Blk ((w.alloc (.cells (r.vals h) 38)).alloc (.cells zeroRc 38)) w.heap.size 38 (r.vals h) := (Blk.new _ _ _).alloc _
  have k2 : Blk ((w.alloc (.cells (r.vals h) 38)).alloc (.cells zeroRc 38)) (w.heap.size + 1) 38 zeroRc := Blk.new' _ _ (by simp)
  have c0 : ((w.alloc (.cells (r.vals h) 38)).alloc (.cells zeroRc 38)).cell? ⟨w.heap.size, 0, none⟩ = some (.int .i64 r.k) := k1.cell 0
  have c1 : ((w.alloc (.cells (r.vals h) 38)).alloc (.cells zeroRc 38)).cell? ⟨w.heap.size, 1, none⟩ = some (.int .i64 r.t.c) := k1.cell 1
  have c2 : ((w.alloc (.cells (r.vals h) 38)).alloc (.cells zeroRc 38)).cell? ⟨w.heap.size, 2, none⟩ = some (.int .i64 r.t.l) := k1.cell 2
  have c3 : ((w.alloc (.cells (r.vals h) 38)).alloc (.cells zeroRc 38)).cell? ⟨w.heap.size, 3, none⟩ = some (.int .i64 r.t.s) := k1.cell 3
  have c4 : ((w.alloc (.cells (r.vals h) 38)).alloc (.cells zeroRc 38)).cell? ⟨w.heap.size, 4, none⟩ = some (.int .i64 r.s.w) := k1.cell 4
  have c5 : ((w.alloc (.cells (r.vals h) 38)).alloc (.cells zeroRc 38)).cell? ⟨w.heap.size, 5, none⟩ = some (.int .i64 r.s.l) := k1.cell 5
  have c6 : ((w.alloc (.cells (r.vals h) 38)).alloc (.cells zeroRc 38)).cell? ⟨w.heap.size, 6, none⟩ = some (.int .i64 r.s.n) := k1.cell 6
  have c7 : ((w.alloc (.cells (r.vals h) 38)).alloc (.cells zeroRc 38)).cell? ⟨w.heap.size, 7, none⟩ = some (.int .i64 r.pv.w) := k1.cell 7
  have c8 : ((w.alloc (.cells (r.vals h) 38)).alloc (.cells zeroRc 38)).cell? ⟨w.heap.size, 8, none⟩ = some (.int .i64 r.pv.l) := k1.cell 8
  have c9 : ((w.alloc (.cells (r.vals h) 38)).alloc (.cells zeroRc 38)).cell? ⟨w.heap.size, 9, none⟩ = some (.int .i64 r.pv.n) := k1.cell 9
  have c10 : ((w.alloc (.cells (r.vals h) 38)).alloc (.cells zeroRc 38)).cell? ⟨w.heap.size, 10, none⟩ = some (.bool r.cm) := k1.cell 10
  have c11 : ((w.alloc (.cells (r.vals h) 38)).alloc (.cells zeroRc 38)).cell? ⟨w.heap.size, 11, none⟩ = some (.int .i64 r.n) := k1.cell 11
  have c12 : ((w.alloc (.cells (r.vals h) 38)).alloc (.cells zeroRc 38)).cell? ⟨w.heap.size, 12, none⟩ = some (.float .f64 r.pt) := k1.cell 12
  have hY : Below w.heap.size w (((w.alloc (.cells (r.vals h) 38)).alloc (.cells zeroRc 38)).alloc (.cells (r.part (.slice none 0 0) (.slice none 0 0) (.slice none 0 0) (.slice none 0 0)) 38)) := by go_grown
  have y1 : Blk (((w.alloc (.cells (r.vals h) 38)).alloc (.cells zeroRc 38)).alloc (.cells (r.part (.slice none 0 0) (.slice none 0 0) (.slice none 0 0) (.slice none 0 0)) 38)) w.heap.size 38 (r.vals h) := k1.alloc _
  have y2 : Blk (((w.alloc (.cells (r.vals h) 38)).alloc (.cells zeroRc 38)).alloc (.cells (r.part (.slice none 0 0) (.slice none 0 0) (.slice none 0 0) (.slice none 0 0)) 38)) (w.heap.size + 1) 38 zeroRc := k2.alloc _
  have y3 : Blk (((w.alloc (.cells (r.vals h) 38)).alloc (.cells zeroRc 38)).alloc (.cells (r.part (.slice none 0 0) (.slice none 0 0) (.slice none 0 0) (.slice none 0 0)) 38)) (w.heap.size + 1 + 1) 38 (r.part (.slice none 0 0) (.slice none 0 0) (.slice none 0 0) (.slice none 0 0)) := Blk.new' _ _ (by simp)
  have hzY : ((((w.alloc (.cells (r.vals h) 38)).alloc (.cells zeroRc 38)).alloc (.cells (r.part (.slice none 0 0) (.slice none 0 0) (.slice none 0 0) (.slice none 0 0)) 38))).heap.size = w.heap.size + 1 + 1 + 1 := by simp
  have HZY := Lib.hid hzY
  clear hzY
  go_enter Tryz.func11, Tryz.ntmps11
  go_wp2_with (refine wpList_store_at rfl 38 _ _ rfl (w.heap.size + 1 + 1) _ rfl rfl (by simp) _ _ (by kernel_rfl) (by kernel_rfl) (by kernel_rfl) ?_)
  clear c0 c1 c2 c3 c4 c5 c6 c7 c8 c9 c10 c11 c12 k1 k2 hX
  refine (strings_any h.a.A h.a.n h.a.c r.rd _ (i.below hY).rd sm.a).mono ?_
  rintro e w1 ⟨v1, rfl, o1, hb1⟩
  obtain ⟨A1, q1, rfl, hq1, hm1⟩ := o1.form
  have hz1 := hb1.size
  replace y1 := y1.below hb1 y1.lt
  replace y2 := y2.below hb1 y2.lt
  replace y3 := y3.below hb1 y3.lt
  have hB1 : Below w.heap.size w w1 := hY.trans (hb1.mono hY.size)
  have z1 : w1.cell? ⟨w.heap.size + 1 + 1, 13, none⟩ = some (.slice none 0 0) := y3.cell 13
  have f1 : w1.frozen? ⟨w.heap.size + 1 + 1, 13, none⟩ = false := y3.frozen 13
  have n1 : w1.cell? ⟨w.heap.size, 14, none⟩ = some h.b.v := y1.cell 14
  have hW1 : Below w.heap.size w (w1.setCell ⟨w.heap.size + 1 + 1, 13, none⟩ (.slice A1 r.rd.length q1)) := hB1.setCell (p := ⟨w.heap.size + 1 + 1, 13, none⟩) (by simp; omega) _
  replace y1 := y1.far (p := ⟨w.heap.size + 1 + 1, 13, none⟩) (by simp; omega) (.slice A1 r.rd.length q1)
  replace y2 := y2.far (p := ⟨w.heap.size + 1 + 1, 13, none⟩) (by simp) (.slice A1 r.rd.length q1)
  replace y3 : Blk (w1.setCell ⟨w.heap.size + 1 + 1, 13, none⟩ (.slice A1 r.rd.length q1)) (w.heap.size + 1 + 1) 38 (r.part (.slice A1 r.rd.length q1) (.slice none 0 0) (.slice none 0 0) (.slice none 0 0)) := y3.set_ 13 (.slice A1 r.rd.length q1)
  have hs1 : w.heap.size + 1 + 1 + 1 ≤ ((((w.alloc (.cells (r.vals h) 38)).alloc (.cells zeroRc 38)).alloc (.cells (r.part (.slice none 0 0) (.slice none 0 0) (.slice none 0 0) (.slice none 0 0)) 38))).heap.size := by rw [HZY.out]; exact Nat.le_refl _
  replace o1 := o1.set_far (p := ⟨w.heap.size + 1 + 1, 13, none⟩) (by simp only; omega) (.slice A1 r.rd.length q1)
  go_wp2_with fail
  refine (copyW_any h.b.A h.b.n h.b.c r.wr _ (i.below hW1).wr sm.b).mono ?_
  rintro e w2 ⟨v2, rfl, o2, hb2⟩
  obtain ⟨A2, q2, rfl, hq2, hm2⟩ := o2.form
  have hz2 := hb2.size
  replace y1 := y1.below hb2 y1.lt
  replace y2 := y2.below hb2 y2.lt
  replace y3 := y3.below hb2 y3.lt
  have hB2 : Below w.heap.size w w2 := hW1.trans (hb2.mono hW1.size)
  replace o1 := o1.below hb2
  have z2 : w2.cell? ⟨w.heap.size + 1 + 1, 14, none⟩ = some (.slice none 0 0) := y3.cell 14
  have f2 : w2.frozen? ⟨w.heap.size + 1 + 1, 14, none⟩ = false := y3.frozen 14
  have n2 : w2.cell? ⟨w.heap.size, 15, none⟩ = some h.c.v := y1.cell 15
  have hW2 : Below w.heap.size w (w2.setCell ⟨w.heap.size + 1 + 1, 14, none⟩ (.slice A2 r.wr.length q2)) := hB2.setCell (p := ⟨w.heap.size + 1 + 1, 14, none⟩) (by simp; omega) _
  replace y1 := y1.far (p := ⟨w.heap.size + 1 + 1, 14, none⟩) (by simp; omega) (.slice A2 r.wr.length q2)
  replace y2 := y2.far (p := ⟨w.heap.size + 1 + 1, 14, none⟩) (by simp) (.slice A2 r.wr.length q2)
  replace y3 : Blk (w2.setCell ⟨w.heap.size + 1 + 1, 14, none⟩ (.slice A2 r.wr.length q2)) (w.heap.size + 1 + 1) 38 (r.part (.slice A1 r.rd.length q1) (.slice A2 r.wr.length q2) (.slice none 0 0) (.slice none 0 0)) := y3.set_ 14 (.slice A2 r.wr.length q2)
  have hs2 : w.heap.size + 1 + 1 + 1 ≤ (w1.setCell ⟨w.heap.size + 1 + 1, 13, none⟩ (.slice A1 r.rd.length q1)).heap.size := by have := hb1.size; have := HZY.out; simp; omega
  replace o1 := o1.set_far (p := ⟨w.heap.size + 1 + 1, 14, none⟩) (by simp only; omega) (.slice A2 r.wr.length q2)
  replace o2 := o2.set_far (p := ⟨w.heap.size + 1 + 1, 14, none⟩) (by simp only; omega) (.slice A2 r.wr.length q2)
  go_wp2_with fail
  refine (ints_any h.c.A h.c.n h.c.c r.ps _ (i.below hW2).ps sm.c).mono ?_
  rintro e w3 ⟨v3, rfl, o3, hb3⟩
  obtain ⟨A3, q3, rfl, hq3, hm3⟩ := o3.form
  have hz3 := hb3.size
  replace y1 := y1.below hb3 y1.lt
  replace y2 := y2.below hb3 y2.lt
  replace y3 := y3.below hb3 y3.lt
  have hB3 : Below w.heap.size w w3 := hW2.trans (hb3.mono hW2.size)
  replace o1 := o1.below hb3
  replace o2 := o2.below hb3
  have z3 : w3.cell? ⟨w.heap.size + 1 + 1, 15, none⟩ = some (.slice none 0 0) := y3.cell 15
  have f3 : w3.frozen? ⟨w.heap.size + 1 + 1, 15, none⟩ = false := y3.frozen 15
  have n3 : w3.cell? ⟨w.heap.size, 16, none⟩ = some h.d.v := y1.cell 16
  have hW3 : Below w.heap.size w (w3.setCell ⟨w.heap.size + 1 + 1, 15, none⟩ (.slice A3 r.ps.length q3)) := hB3.setCell (p := ⟨w.heap.size + 1 + 1, 15, none⟩) (by simp; omega) _
  replace y1 := y1.far (p := ⟨w.heap.size + 1 + 1, 15, none⟩) (by simp; omega) (.slice A3 r.ps.length q3)
  replace y2 := y2.far (p := ⟨w.heap.size + 1 + 1, 15, none⟩) (by simp) (.slice A3 r.ps.length q3)
  replace y3 : Blk (w3.setCell ⟨w.heap.size + 1 + 1, 15, none⟩ (.slice A3 r.ps.length q3)) (w.heap.size + 1 + 1) 38 (r.part (.slice A1 r.rd.length q1) (.slice A2 r.wr.length q2) (.slice A3 r.ps.length q3) (.slice none 0 0)) := y3.set_ 15 (.slice A3 r.ps.length q3)
  have hs3 : w.heap.size + 1 + 1 + 1 ≤ (w2.setCell ⟨w.heap.size + 1 + 1, 14, none⟩ (.slice A2 r.wr.length q2)).heap.size := by have := hb1.size; have := HZY.out; simp; omega
  replace o1 := o1.set_far (p := ⟨w.heap.size + 1 + 1, 15, none⟩) (by simp only; omega) (.slice A3 r.ps.length q3)
  replace o2 := o2.set_far (p := ⟨w.heap.size + 1 + 1, 15, none⟩) (by simp only; omega) (.slice A3 r.ps.length q3)
  replace o3 := o3.set_far (p := ⟨w.heap.size + 1 + 1, 15, none⟩) (by simp only; omega) (.slice A3 r.ps.length q3)
  go_wp2_with fail
  obtain ⟨i0, hi0, hz0, hz01, hz02⟩ := info_parts pr_info
  have hlr : r.pr.length = h.d.n := i.pr.1
  have hle : r.pr.length ≤ h.d.n := by omega
  have hge : h.d.n ≤ r.pr.length := by omega
  have hdn := sm.d
  clear hlr
  have hs4 : w.heap.size + 1 + 1 + 1 ≤ (w3.setCell ⟨w.heap.size + 1 + 1, 15, none⟩ (.slice A3 r.ps.length q3)).heap.size := by have := hb1.size; have := hb2.size; have := HZY.out; simp; simp at *; omega
  have HS2 := Lib.hid hs2
  have HS3 := Lib.hid hs3
  clear z1 f1 n1 z2 f2 n2 z3 f3 n3 hs1 hs2 hs3 hz1 hz2 hz3 hb1 hb2 hb3 hW1 hW2 hB1 hB2 hB3 hY
  go_loopw [4] (fun i wr => PrRel r h w (w3.setCell ⟨w.heap.size + 1 + 1, 15, none⟩ (.slice A3 r.ps.length q3)) (.slice A1 r.rd.length q1) (.slice A2 r.wr.length q2) (.slice A3 r.ps.length q3) i wr) (fun i _ => h.d.n - (intOf i).toNat)
  case atStart => exact ⟨0, .slice none 0 0, by omega, rfl, y1, y2, y3, OwnL.nil _, fun _ _ _ => rfl, hW3, Nat.le_refl _⟩
  case round =>
    obtain ⟨k, v4, hk, rfl, e1, e2, e3, ho, hsame, hbw, hszw⟩ := hrel
    have hln : (r.pr.take k).length ≤ 1000000 := by simp; omega
    obtain ⟨A4, q4, rfl, hq4, hq4m⟩ := ho.form
    have l1 := e1.lt
    have l3 := e3.lt
    have t1 : wr.cell? ⟨w.heap.size, 16, none⟩ = some h.d.v := e1.cell 16
    have t3 : wr.cell? ⟨w.heap.size + 1 + 1, 16, none⟩ = some (.slice A4 (r.pr.take k).length q4) := e3.cell 16
    have g3 : wr.frozen? ⟨w.heap.size + 1 + 1, 16, none⟩ = false := e3.frozen 16
    by_cases hlt : k < h.d.n
    · obtain ⟨ad, a, hA, ha, hbk, hok, c0, c1, c2, c3⟩ := (i.pr.below WtRel.kept hbw).wt hlt
      rw [show h.d.v = .slice h.d.A h.d.n h.d.c from rfl, hA] at t1
      have hd1 : decide ((k : Int) < (h.d.n : Int)) = true := by simp; omega
      have hk0 : (0 : Int) ≤ (k : Int) := by omega
      have hk1 : (k : Int) < (h.d.n : Int) := by omega
      have HS := Lib.hid (show r.pr.take (k + 1) = r.pr.take k ++ [a] by rw [List.take_add_one, ha]; rfl)
      have hbk2 : (ad.add (k * 4)).block < wr.heap.size := Nat.lt_of_lt_of_le hbk hbw.size
      clear ha hA
      generalize r.pr.take k = ks at *
      have hX : Below wr.heap.size wr (wr.alloc (.cells a.cells.toArray 61)).drew := ((Below.refl _ _).alloc (Nat.le_refl _) _).drew
      have hown0 := ho.below hX
      have hrd0 := (reads_new' wr 61 a.cells 4 rfl).drew
      go_wp2
      go_region_law (refine step_append_any _ rfl (.tmp 40) (.tmp 46) _ rfl (w3.setCell ⟨w.heap.size + 1 + 1, 15, none⟩ (.slice A3 r.ps.length q3)).heap.size 61 i0 _ 4 48 Tryz.underlying30 hi0 hz0 hz01 hz02 rfl (by omega) (.slice A4 ks.length q4) _ (ks.flatMap Wt.cells) (by simp [Act.eval]) hown0 _ (some ⟨wr.heap.size, 0, none⟩) 1 1 a.cells (by simp [Act.eval]) hrd0 (wt_one a) (by unfold maxLen; omega) (by omega) (by simp; simp at hszw; omega) ?_; intro v5 w5 hown5 hg5 hat5; have e5 := (e3.alloc (.cells a.cells.toArray 61)).drew.grown hg5 (ho.ne (by omega)); have z5 := e5.cell 16; simp only [List.getElem?_toArray, List.getElem?_cons_succ, List.getElem?_cons_zero] at z5; have f5 := e5.frozen 16; obtain ⟨A5, q5, rfl, hq5, hq5m⟩ := own_form hown5)
      all_goals
        have hp5 := (OwnL.push a hown5).set_far (p := ⟨w.heap.size + 1 + 1, 16, none⟩) (by simp only; omega) (.slice A5 (ks.length + 1) q5)
        have hbw5 := ((hbw.trans (hX.mono hbw.size)).grown hg5 (by have := hX.size; have := hbw.size; omega) (fun q hq => by have := (hown0.lt q hq).1; omega)).setCell (p := ⟨w.heap.size + 1 + 1, 16, none⟩) (by simp only; omega) (.slice A5 (ks.length + 1) q5)
        have e15 := ((e1.alloc (.cells a.cells.toArray 61)).drew.grown hg5 (ho.ne (by omega))).far (p := ⟨w.heap.size + 1 + 1, 16, none⟩) (by simp only; omega) (.slice A5 (ks.length + 1) q5)
        have e25 := ((e2.alloc (.cells a.cells.toArray 61)).drew.grown hg5 (ho.ne (by omega))).far (p := ⟨w.heap.size + 1 + 1, 16, none⟩) (by simp only; omega) (.slice A5 (ks.length + 1) q5)
        have hsame5 : ∀ j, w.heap.size + 1 + 1 + 1 ≤ j → j < (w3.setCell ⟨w.heap.size + 1 + 1, 15, none⟩ (.slice A3 r.ps.length q3)).heap.size → (w5.setCell ⟨w.heap.size + 1 + 1, 16, none⟩ (.slice A5 (ks.length + 1) q5)).heap[j]? = (w3.setCell ⟨w.heap.size + 1 + 1, 15, none⟩ (.slice A3 r.ps.length q3)).heap[j]? := fun j hj hj2 =>
          (Below.heap_setCell _ _ _ _ (by simp only; omega)).trans ((hg5.block j (by show j < (wr.alloc _).heap.size; rw [World.size_alloc]; omega) (ho.ne hj2)).trans ((hX.block j (by omega)).trans (hsame j hj hj2)))
        have hsz5 : (w3.setCell ⟨w.heap.size + 1 + 1, 15, none⟩ (.slice A3 r.ps.length q3)).heap.size ≤ (w5.setCell ⟨w.heap.size + 1 + 1, 16, none⟩ (.slice A5 (ks.length + 1) q5)).heap.size := by have := hg5.size; have := hX.size; simp at *; omega
        have HSM := Lib.hid hsame5
        clear hsame hsame5
        go_wp2
        go_roundw
        case rel =>
          refine ⟨k + 1, _, by omega, by go_num, e15, e25, e5.set_ 16 _, ?_, HSM.out, hbw5, hsz5⟩
          rw [HS.out]
          exact hp5
        case measure => simp [intOf]; omega
    · have hd1 : decide ((k : Int) < (h.d.n : Int)) = false := by simp; omega
      rw [List.take_of_length_le (by omega)] at ho e3
      have HSM := Lib.hid hsame
      clear hsame
      have s17 : wr.cell? ⟨w.heap.size, 17, none⟩ = some (.int .i64 r.st.r.id) := e1.cell 17
      have s18 : wr.cell? ⟨w.heap.size, 18, none⟩ = some (.int .i64 r.st.r.ep) := e1.cell 18
      have s19 : wr.cell? ⟨w.heap.size, 19, none⟩ = some (.float .f64 r.st.r.lo) := e1.cell 19
      have s20 : wr.cell? ⟨w.heap.size, 20, none⟩ = some (.float .f64 r.st.r.hi) := e1.cell 20
      have s21 : wr.cell? ⟨w.heap.size, 21, none⟩ = some (.int .i64 r.st.f.w) := e1.cell 21
      have s22 : wr.cell? ⟨w.heap.size, 22, none⟩ = some (.int .i64 r.st.f.l) := e1.cell 22
      have s23 : wr.cell? ⟨w.heap.size, 23, none⟩ = some (.int .i64 r.st.f.n) := e1.cell 23
      have s24 : wr.cell? ⟨w.heap.size, 24, none⟩ = some (.int .i64 r.st.c.w) := e1.cell 24
      have s25 : wr.cell? ⟨w.heap.size, 25, none⟩ = some (.int .i64 r.st.c.l) := e1.cell 25
      have s26 : wr.cell? ⟨w.heap.size, 26, none⟩ = some (.int .i64 r.st.c.n) := e1.cell 26
      have s27 : wr.cell? ⟨w.heap.size, 27, none⟩ = some (h.e.v) := e1.cell 27
      have s28 : wr.cell? ⟨w.heap.size, 28, none⟩ = some (h.f.v) := e1.cell 28
      have hlr : r.pr.length = r.pr.length := rfl
      clear hlr t3 g3
      go_wp2_with fail
      have iw := i.below hbw
      refine (copyS_low r.st h.e.A h.f.A h.e.n h.f.n h.e.c h.f.c wr iw.hs iw.pn sm.h sm.p).mono ?_
      rintro e w5 ⟨C1, m1, d1, C2, m2, d2, rfl, p1, p2, p3, p4, p5, p6, hb5⟩
      have x1 := e1.below hb5 l1
      have x2 := e2.below hb5 e2.lt
      have x3 := e3.below hb5 l3
      have x4 := ho.below hb5
      have hb6 := hbw.trans (hb5.mono hbw.size)
      have x6 : Blk (w5.setCells (w.heap.size + 1 + 1) 17 [.int .i64 r.st.r.id, .int .i64 r.st.r.ep, .float .f64 r.st.r.lo, .float .f64 r.st.r.hi, .int .i64 r.st.f.w, .int .i64 r.st.f.l, .int .i64 r.st.f.n, .int .i64 r.st.c.w, .int .i64 r.st.c.l, .int .i64 r.st.c.n, .slice C1 m1 d1, .slice C2 m2 d2]) (w.heap.size + 1 + 1) 38 #[.int .i64 r.k, .int .i64 r.t.c, .int .i64 r.t.l, .int .i64 r.t.s, .int .i64 r.s.w, .int .i64 r.s.l, .int .i64 r.s.n, .int .i64 r.pv.w, .int .i64 r.pv.l, .int .i64 r.pv.n, .bool r.cm, .int .i64 r.n, .float .f64 r.pt, (.slice A1 r.rd.length q1), (.slice A2 r.wr.length q2), (.slice A3 r.ps.length q3), (.slice A4 r.pr.length q4), .int .i64 r.st.r.id, .int .i64 r.st.r.ep, .float .f64 r.st.r.lo, .float .f64 r.st.r.hi, .int .i64 r.st.f.w, .int .i64 r.st.f.l, .int .i64 r.st.f.n, .int .i64 r.st.c.w, .int .i64 r.st.c.l, .int .i64 r.st.c.n, .slice C1 m1 d1, .slice C2 m2 d2] :=
        by
          have hx := Blk.setCells [.int .i64 r.st.r.id, .int .i64 r.st.r.ep, .float .f64 r.st.r.lo, .float .f64 r.st.r.hi, .int .i64 r.st.f.w, .int .i64 r.st.f.l, .int .i64 r.st.f.n, .int .i64 r.st.c.w, .int .i64 r.st.c.l, .int .i64 r.st.c.n, .slice C1 m1 d1, .slice C2 m2 d2] 17 _ _ x3
          rw [show setA (r.part (.slice A1 r.rd.length q1) (.slice A2 r.wr.length q2) (.slice A3 r.ps.length q3) (.slice A4 r.pr.length q4)) 17 [.int .i64 r.st.r.id, .int .i64 r.st.r.ep, .float .f64 r.st.r.lo, .float .f64 r.st.r.hi, .int .i64 r.st.f.w, .int .i64 r.st.f.l, .int .i64 r.st.f.n, .int .i64 r.st.c.w, .int .i64 r.st.c.l, .int .i64 r.st.c.n, .slice C1 m1 d1, .slice C2 m2 d2] = #[.int .i64 r.k, .int .i64 r.t.c, .int .i64 r.t.l, .int .i64 r.t.s, .int .i64 r.s.w, .int .i64 r.s.l, .int .i64 r.s.n, .int .i64 r.pv.w, .int .i64 r.pv.l, .int .i64 r.pv.n, .bool r.cm, .int .i64 r.n, .float .f64 r.pt, (.slice A1 r.rd.length q1), (.slice A2 r.wr.length q2), (.slice A3 r.ps.length q3), (.slice A4 r.pr.length q4), .int .i64 r.st.r.id, .int .i64 r.st.r.ep, .float .f64 r.st.r.lo, .float .f64 r.st.r.hi, .int .i64 r.st.f.w, .int .i64 r.st.f.l, .int .i64 r.st.f.n, .int .i64 r.st.c.w, .int .i64 r.st.c.l, .int .i64 r.st.c.n, .slice C1 m1 d1, .slice C2 m2 d2] from by kernel_rfl] at hx
          exact hx
      have x7 : Blk (w5.setCells (w.heap.size + 1 + 1) 17 [.int .i64 r.st.r.id, .int .i64 r.st.r.ep, .float .f64 r.st.r.lo, .float .f64 r.st.r.hi, .int .i64 r.st.f.w, .int .i64 r.st.f.l, .int .i64 r.st.f.n, .int .i64 r.st.c.w, .int .i64 r.st.c.l, .int .i64 r.st.c.n, .slice C1 m1 d1, .slice C2 m2 d2]) (w.heap.size + 1) 38 zeroRc := (setCells_far (by omega) _ _ _).trans x2
      have hb7 : Below w.heap.size w (w5.setCells (w.heap.size + 1 + 1) 17 [.int .i64 r.st.r.id, .int .i64 r.st.r.ep, .float .f64 r.st.r.lo, .float .f64 r.st.r.hi, .int .i64 r.st.f.w, .int .i64 r.st.f.l, .int .i64 r.st.f.n, .int .i64 r.st.c.w, .int .i64 r.st.c.l, .int .i64 r.st.c.n, .slice C1 m1 d1, .slice C2 m2 d2]) := setCells_below (by omega) _ _ _ hb6
      have hf7 : ∀ j, w.heap.size + 1 + 1 + 1 ≤ j → (w5.setCells (w.heap.size + 1 + 1) 17 [.int .i64 r.st.r.id, .int .i64 r.st.r.ep, .float .f64 r.st.r.lo, .float .f64 r.st.r.hi, .int .i64 r.st.f.w, .int .i64 r.st.f.l, .int .i64 r.st.f.n, .int .i64 r.st.c.w, .int .i64 r.st.c.l, .int .i64 r.st.c.n, .slice C1 m1 d1, .slice C2 m2 d2]).heap[j]? = w5.heap[j]? := fun j hj => setCells_far (by omega) _ _ _
      have HF7 := Lib.hid hf7
      clear hf7
      have hsz : (r.part (.slice A1 r.rd.length q1) (.slice A2 r.wr.length q2) (.slice A3 r.ps.length q3) (.slice A4 r.pr.length q4)).size = 29 := by kernel_rfl
      have ht : w5.there (w.heap.size + 1 + 1) 17 12 := x3.there 17 12 (by rw [hsz]; omega)
      clear hsz
      have HSZ : RowKit.Hid ((w5.setCells (w.heap.size + 1 + 1) 17 [.int .i64 r.st.r.id, .int .i64 r.st.r.ep, .float .f64 r.st.r.lo, .float .f64 r.st.r.hi, .int .i64 r.st.f.w, .int .i64 r.st.f.l, .int .i64 r.st.f.n, .int .i64 r.st.c.w, .int .i64 r.st.c.l, .int .i64 r.st.c.n, .slice C1 m1 d1, .slice C2 m2 d2]).heap.size = w5.heap.size) := Lib.hid (setCells_size _ _ _)
      have go : ∀ W6 : World, W6 = (w5.setCells (w.heap.size + 1 + 1) 17 [.int .i64 r.st.r.id, .int .i64 r.st.r.ep, .float .f64 r.st.r.lo, .float .f64 r.st.r.hi, .int .i64 r.st.f.w, .int .i64 r.st.f.l, .int .i64 r.st.f.n, .int .i64 r.st.c.w, .int .i64 r.st.c.l, .int .i64 r.st.c.n, .slice C1 m1 d1, .slice C2 m2 d2]) → Blk W6 (w.heap.size + 1 + 1) 38 #[.int .i64 r.k, .int .i64 r.t.c, .int .i64 r.t.l, .int .i64 r.t.s, .int .i64 r.s.w, .int .i64 r.s.l, .int .i64 r.s.n, .int .i64 r.pv.w, .int .i64 r.pv.l, .int .i64 r.pv.n, .bool r.cm, .int .i64 r.n, .float .f64 r.pt, (.slice A1 r.rd.length q1), (.slice A2 r.wr.length q2), (.slice A3 r.ps.length q3), (.slice A4 r.pr.length q4), .int .i64 r.st.r.id, .int .i64 r.st.r.ep, .float .f64 r.st.r.lo, .float .f64 r.st.r.hi, .int .i64 r.st.f.w, .int .i64 r.st.f.l, .int .i64 r.st.f.n, .int .i64 r.st.c.w, .int .i64 r.st.c.l, .int .i64 r.st.c.n, .slice C1 m1 d1, .slice C2 m2 d2] ∧ Blk W6 (w.heap.size + 1) 38 zeroRc ∧ Below w.heap.size w W6 ∧ RowKit.Hid (∀ j, w.heap.size + 1 + 1 + 1 ≤ j → W6.heap[j]? = w5.heap[j]?) ∧ RowKit.Hid (W6.heap.size = w5.heap.size) := by
        intro W6 hW6
        subst hW6
        exact ⟨x6, x7, hb7, HF7, HSZ⟩
      clear x6 x7 hb7 HF7 HSZ
      go_wp2_with (first
        | (guard_target =~ wpList _ _ _ _ _ _; refine wpList_store_mid rfl 36 _ _ rfl (w.heap.size + 1 + 1) 17 #[.int .i64 r.st.r.id, .int .i64 r.st.r.ep, .float .f64 r.st.r.lo, .float .f64 r.st.r.hi, .int .i64 r.st.f.w, .int .i64 r.st.f.l, .int .i64 r.st.f.n, .int .i64 r.st.c.w, .int .i64 r.st.c.l, .int .i64 r.st.c.n, .slice C1 m1 d1, .slice C2 m2 d2] (by kernel_rfl) (by kernel_rfl) ht (by kernel_rfl) (by kernel_rfl) ?_
           obtain ⟨W6, hW6⟩ : ∃ W6 : World, W6 = w5.setCells (w.heap.size + 1 + 1) 17 (#[.int .i64 r.st.r.id, .int .i64 r.st.r.ep, .float .f64 r.st.r.lo, .float .f64 r.st.r.hi, .int .i64 r.st.f.w, .int .i64 r.st.f.l, .int .i64 r.st.f.n, .int .i64 r.st.c.w, .int .i64 r.st.c.l, .int .i64 r.st.c.n, .slice C1 m1 d1, .slice C2 m2 d2] : Array Value).toList := ⟨_, rfl⟩
           rw [← hW6]
           obtain ⟨x6, x7, hb7, HF7, HSZ⟩ := go W6 hW6
           clear go hW6)
        | (guard_target =~ wpList _ _ _ _ _ _; refine wpList_load_row rfl 38 _ rfl (w.heap.size + 1 + 1) (by kernel_rfl) _ _ (0, 0) _ x6 rfl rfl (by kernel_rfl) ?_)
        | (guard_target =~ wpList _ _ _ _ _ _; refine wpList_store_row rfl 38 _ _ rfl (w.heap.size + 1) #[.int .i64 r.k, .int .i64 r.t.c, .int .i64 r.t.l, .int .i64 r.t.s, .int .i64 r.s.w, .int .i64 r.s.l, .int .i64 r.s.n, .int .i64 r.pv.w, .int .i64 r.pv.l, .int .i64 r.pv.n, .bool r.cm, .int .i64 r.n, .float .f64 r.pt, (.slice A1 r.rd.length q1), (.slice A2 r.wr.length q2), (.slice A3 r.ps.length q3), (.slice A4 r.pr.length q4), .int .i64 r.st.r.id, .int .i64 r.st.r.ep, .float .f64 r.st.r.lo, .float .f64 r.st.r.hi, .int .i64 r.st.f.w, .int .i64 r.st.f.l, .int .i64 r.st.f.n, .int .i64 r.st.c.w, .int .i64 r.st.c.l, .int .i64 r.st.c.n, .slice C1 m1 d1, .slice C2 m2 d2] (by kernel_rfl) (by kernel_rfl) _ _ x7 (by kernel_rfl) (by kernel_rfl) (by kernel_rfl) ?_))
      refine post_cell rfl (by rfl) (x7.setRow _) rfl rfl (by kernel_rfl) ?_
      have hz7 : (W6.setRow (w.heap.size + 1) #[.int .i64 r.k, .int .i64 r.t.c, .int .i64 r.t.l, .int .i64 r.t.s, .int .i64 r.s.w, .int .i64 r.s.l, .int .i64 r.s.n, .int .i64 r.pv.w, .int .i64 r.pv.l, .int .i64 r.pv.n, .bool r.cm, .int .i64 r.n, .float .f64 r.pt, (.slice A1 r.rd.length q1), (.slice A2 r.wr.length q2), (.slice A3 r.ps.length q3), (.slice A4 r.pr.length q4), .int .i64 r.st.r.id, .int .i64 r.st.r.ep, .float .f64 r.st.r.lo, .float .f64 r.st.r.hi, .int .i64 r.st.f.w, .int .i64 r.st.f.l, .int .i64 r.st.f.n, .int .i64 r.st.c.w, .int .i64 r.st.c.l, .int .i64 r.st.c.n, .slice C1 m1 d1, .slice C2 m2 d2]).heap.size = w5.heap.size := by rw [size_setRow, HSZ.out]
      have hk7 : ∀ j, w.heap.size + 1 + 1 + 1 ≤ j → (W6.setRow (w.heap.size + 1) #[.int .i64 r.k, .int .i64 r.t.c, .int .i64 r.t.l, .int .i64 r.t.s, .int .i64 r.s.w, .int .i64 r.s.l, .int .i64 r.s.n, .int .i64 r.pv.w, .int .i64 r.pv.l, .int .i64 r.pv.n, .bool r.cm, .int .i64 r.n, .float .f64 r.pt, (.slice A1 r.rd.length q1), (.slice A2 r.wr.length q2), (.slice A3 r.ps.length q3), (.slice A4 r.pr.length q4), .int .i64 r.st.r.id, .int .i64 r.st.r.ep, .float .f64 r.st.r.lo, .float .f64 r.st.r.hi, .int .i64 r.st.f.w, .int .i64 r.st.f.l, .int .i64 r.st.f.n, .int .i64 r.st.c.w, .int .i64 r.st.c.l, .int .i64 r.st.c.n, .slice C1 m1 d1, .slice C2 m2 d2]).heap[j]? = w5.heap[j]? := fun j hj => (setRow_other _ _ _ _ (by omega)).trans (HF7.out j hj)
      have hb8 : Below w.heap.size w (W6.setRow (w.heap.size + 1) #[.int .i64 r.k, .int .i64 r.t.c, .int .i64 r.t.l, .int .i64 r.t.s, .int .i64 r.s.w, .int .i64 r.s.l, .int .i64 r.s.n, .int .i64 r.pv.w, .int .i64 r.pv.l, .int .i64 r.pv.n, .bool r.cm, .int .i64 r.n, .float .f64 r.pt, (.slice A1 r.rd.length q1), (.slice A2 r.wr.length q2), (.slice A3 r.ps.length q3), (.slice A4 r.pr.length q4), .int .i64 r.st.r.id, .int .i64 r.st.r.ep, .float .f64 r.st.r.lo, .float .f64 r.st.r.hi, .int .i64 r.st.f.w, .int .i64 r.st.f.l, .int .i64 r.st.f.n, .int .i64 r.st.c.w, .int .i64 r.st.c.l, .int .i64 r.st.c.n, .slice C1 m1 d1, .slice C2 m2 d2]) := below_setRow hb7 (by omega) _
      generalize (W6.setRow (w.heap.size + 1) #[.int .i64 r.k, .int .i64 r.t.c, .int .i64 r.t.l, .int .i64 r.t.s, .int .i64 r.s.w, .int .i64 r.s.l, .int .i64 r.s.n, .int .i64 r.pv.w, .int .i64 r.pv.l, .int .i64 r.pv.n, .bool r.cm, .int .i64 r.n, .float .f64 r.pt, (.slice A1 r.rd.length q1), (.slice A2 r.wr.length q2), (.slice A3 r.ps.length q3), (.slice A4 r.pr.length q4), .int .i64 r.st.r.id, .int .i64 r.st.r.ep, .float .f64 r.st.r.lo, .float .f64 r.st.r.hi, .int .i64 r.st.f.w, .int .i64 r.st.f.l, .int .i64 r.st.f.n, .int .i64 r.st.c.w, .int .i64 r.st.c.l, .int .i64 r.st.c.n, .slice C1 m1 d1, .slice C2 m2 d2]) = W7 at *
      have hzy := HZY.out
      have hzw : wr.heap.size ≤ w5.heap.size := hb5.size
      have hs4' := hs4
      have e1 := (keepR (w' := W7) ((keepR (w' := wr) o1 (fun j hj hj2 => HSM.out j (by have h0 := hj; simp at h0; omega) hj2)).below hb5) (fun j hj _ => hk7 j (by have h0 := hj; simp at h0; omega))).sl (ok := fun k : ByteArray => k.size ≤ 140737488351232) (Nat.succ_pos 0) (fun a => rfl) (fun a ha => by obtain ⟨_, _, hok⟩ := i.rd.mem ha; exact hok)
      have hB2 : w.heap.size + 1 + 1 + 1 ≤ (w1.setCell ⟨w.heap.size + 1 + 1, 13, none⟩ (.slice A1 r.rd.length q1)).heap.size := by have := HS2.out; omega
      have e2 := (keepR (w' := W7) ((keepR (w' := wr) o2 (fun j hj hj2 => HSM.out j (by have h0 := hj; simp at h0; have h1 := HS2.out; simp at h1; omega) hj2)).below hb5) (fun j hj _ => hk7 j (by have h0 := hj; simp at h0; have h1 := HS2.out; simp at h1; omega))).sl (ok := Wt.ok) (Nat.succ_pos 3) (fun a => rfl) (fun a ha => by obtain ⟨_, _, hok⟩ := i.wr.mem ha; exact hok)
      have hB3 : w.heap.size + 1 + 1 + 1 ≤ (w2.setCell ⟨w.heap.size + 1 + 1, 14, none⟩ (.slice A2 r.wr.length q2)).heap.size := by have := HS3.out; omega
      have e3 := (keepR (w' := W7) ((keepR (w' := wr) o3 (fun j hj hj2 => HSM.out j (by have h0 := hj; simp at h0; have h1 := HS3.out; simp at h1; omega) hj2)).below hb5) (fun j hj _ => hk7 j (by have h0 := hj; simp at h0; have h1 := HS3.out; simp at h1; omega))).sl (ok := i64ok) (Nat.succ_pos 0) (fun a => rfl) (fun a ha => by obtain ⟨_, _, hok⟩ := i.ps.mem ha; exact hok)
      have e4 := (keepR (w' := W7) x4 (fun j hj _ => hk7 j (by omega))).sl (ok := Wt.ok) (Nat.succ_pos 3) (fun a => rfl) (fun a ha => by obtain ⟨_, _, hok⟩ := i.pr.mem ha; exact hok)
      have hr5 : HdRel HsRel 2 (only (rng wr.heap.size w5.heap.size) w5) w5.heap.size (.slice C1 m1 d1) r.st.h := ⟨C1, m1, d1, rfl, p1, p2, p3⟩
      have hr6 : HdRel PnRel 8 (only (rng wr.heap.size w5.heap.size) w5) w5.heap.size (.slice C2 m2 d2) r.st.p := ⟨C2, m2, d2, rfl, p4, p5, p6⟩
      have e5 := (hr5.stay (w' := W7) HsRel.kept (fun j hj => hk7 j (by rw [rng_iff] at hj; omega))).out HsRel.kept HsRel.mono (by omega)
      have e6 := (hr6.stay (w' := W7) PnRel.kept (fun j hj => hk7 j (by rw [rng_iff] at hj; omega))).out PnRel.kept PnRel.mono (by omega)
      exact ⟨⟨⟨⟨A1, r.rd.length, q1⟩, ⟨A2, r.wr.length, q2⟩, ⟨A3, r.ps.length, q3⟩, ⟨A4, r.pr.length, q4⟩, ⟨C1, m1, d1⟩, ⟨C2, m2, d2⟩⟩, rfl, ⟨⟨hq1, hm1⟩, ⟨hq2, hm2⟩, ⟨hq3, hm3⟩, ⟨e4.hd.2.1, e4.hd.2.2⟩, ⟨p1, p2⟩, ⟨p4, p5⟩⟩,
        ⟨e1.hd.1, e2.hd.1, e3.hd.1, e4.hd.1, e5.hd.1, e6.hd.1, Nat.le_trans hq1 hm1, Nat.le_trans hq2 hm2, Nat.le_trans hq3 hm3, Nat.le_trans e4.hd.2.1 e4.hd.2.2, Nat.le_trans p1 p2, Nat.le_trans p4 p5⟩⟩, hb8⟩
end Go.Proofs.YthdmanadhbpogaaGreat
