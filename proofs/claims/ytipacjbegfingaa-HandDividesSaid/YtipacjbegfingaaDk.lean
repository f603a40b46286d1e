/- The walk of hand.halves. -/
import Derived.Test.YtipacjbegfingaaDj
namespace Go.Proofs.Ytipacjbegfingaa
open Go.RowKit Fl
attribute [local go_sem] run_store_float

theorem post_cell_cell {P : Program} {fn : Func} {R : Ending → World → Prop} {tmps : Array Value} {w : World} {p q : Tmp} {g k : Nat} {t ty t' ty' : TypeId} {cs cs' : Array Value} {d d' : TypeDesc} (h : fn.results = #[.cell p ty, .cell q ty']) (hp : tmps.getD p undef = .pointer (some ⟨g, 0, none⟩)) (hq : tmps.getD q undef = .pointer (some ⟨k, 0, none⟩))
    (hb : Blk w g t cs) (hb' : Blk w k t' cs')
    (hu : P.underlying ty = some d) (hd : (match d with | .struct _ | .array _ _ => true | _ => false) = true) (hi : (P.info? ty).map (·.size) = some cs.size)
    (hu' : P.underlying ty' = some d') (hd' : (match d' with | .struct _ | .array _ _ => true | _ => false) = true) (hi' : (P.info? ty').map (·.size) = some cs'.size)
    (hR : R (.returned (.tuple #[.agg cs, .agg cs'])) w) : bodyPost P fn R .ret ⟨tmps, []⟩ w := by
  refine bodyPost_ret ?_ rfl hR
  have hp' : tmps[p]?.getD undef = .pointer (some ⟨g, 0, none⟩) := by simpa using hp
  have hq' : tmps[q]?.getD undef = .pointer (some ⟨k, 0, none⟩) := by simpa using hq
  simp [results, h, hp', hq', asAddr, run_loadVar_blk hb hu hd hi, run_loadVar_blk hb' hu' hd' hi', Sem.run_bind, Result.andThen]
/-- one store of a whole struct comes up alone; the world behind it is told -/
theorem wpAnyH_store_rowE {P : Program} {md : Region.Mode} {ops : Array Oper} {Q : Exit → Act → World → Prop} {S : World → Prop} {fuel : Nat} {listed : Array Bool} {a : Act} {w : World} {i : Nat} {op : Oper}
    (hr : Region.ready md ops listed = [i]) (ho : ops[i]? = some op) (hg : op.guard = none) (ty : TypeId) (x y : Operand) (hop : op.op = .store ty x y)
    (g : Nat) (cells : Array Value) (hx : a.eval x = .pointer (some ⟨g, 0, none⟩)) (hy : a.eval y = .agg cells) (t : TypeId) (old : Array Value) (hb : Blk w g t old) (hi : (P.info? ty).map (·.size) = some cells.size) (hold : old.size = cells.size) (h1 : cells.all (·.oneCell') = true)
    (hS : S (w.setRow g cells)) (h : ∀ w', w' = w.setRow g cells → wpAnyH P md ops Q S fuel (listed.setIfInBounds i true) (a.put op.dst undef) w') : wpAnyH P md ops Q S (fuel + 1) listed a w := by
  refine wpAnyH_all hr (by simp) (fun j hj => ?_)
  obtain rfl : j = i := by simpa using hj
  refine wpOp_step ho (fun K' hK => ?_)
  have hw : Region.wanted op (yielded ops a.tmps) = true := by simp [Region.wanted, hg]
  rw [if_pos hw]
  exact wp_store_row ty x y hop g cells hx hy t old hb hi hold h1 (hK _ _ ⟨hS, h _ rfl⟩)
theorem yieldsIf_load_row {P : Program} {ops : Array Oper} {S : World → Prop} {op : Oper} {a : Act} (hw : Region.wanted op (yielded ops a.tmps) = true) (ty : TypeId) (x : Operand) (ho : op.op = .load ty x)
    (g : Nat) (hx : a.eval x = .pointer (some ⟨g, 0, none⟩)) (t : TypeId) (cs : Array Value) (d : TypeDesc) (hS : ∀ w, S w → Blk w g t cs)
    (hu : P.underlying ty = some d) (hd : (match d with | .struct _ | .array _ _ => true | _ => false) = true) (hi : (P.info? ty).map (·.size) = some cs.size) : YieldsIf P ops S op (.agg cs) a :=
  .inl ⟨hw, fun w hw' => by
    unfold execOp
    simp only [ho, hx, Instr.loadAt, Instr.sureAddr, Sem.run_bind, Sem.run_pure, Result.andThen_ok, run_loadVar_row w g t ty cs (0, 0) d (hS w hw') hu hd hi]⟩
theorem OwnL.ne {α : Type} {f : α → List Value} {E size base : Nat} {w : World} {v : Value} {l : List α} (h : OwnL f E size base w v l) {g : Nat} (hg : g < base) : some g ≠ v.ownBlock := by
  rcases h.far hg with e | e
  · rw [e]; simp
  · exact fun e2 => e e2.symm

theorem OwnL.drew {α : Type} {f : α → List Value} {E size base : Nat} {w : World} {v : Value} {l : List α} (h : OwnL f E size base w v l) : OwnL f E size base w.drew v l := World.ownsRow.drew h
def keysL (l : List ByteArray) (x : Nat) : List ByteArray := l.filter fun k => belowB k x
def keysR (l : List ByteArray) (x : Nat) : List ByteArray := l.filter fun k => !belowB k x
theorem keys_snoc {l : List ByteArray} {k : Nat} {a : ByteArray} (p : Nat) (h : l[k]? = some a) :
    (belowB a p = true → keysL (l.take (k + 1)) p = keysL (l.take k) p ++ [a] ∧ keysR (l.take (k + 1)) p = keysR (l.take k) p) ∧
    (belowB a p = false → keysL (l.take (k + 1)) p = keysL (l.take k) p ∧ keysR (l.take (k + 1)) p = keysR (l.take k) p ++ [a]) := by
  unfold keysL keysR
  rw [List.take_add_one, h, List.filter_append, List.filter_append]
  constructor
  · intro hb; simp [hb]
  · intro hb; simp [hb]
def pnL (p : Pn) (x : Nat) : Pn := ⟨p.t, p.s, keysL p.r x, halveL p.w x⟩
def pnR (p : Pn) (x : Nat) : Pn := ⟨p.t, p.s, keysR p.r x, halveR p.w x⟩
def HalfRel (p : Pn) (x : Nat) (A1 : Value) (A2 : Value) (w : World) (i : Value) (wr : World) : Prop :=
  ∃ (k : Nat) (v1 v2 : Value), k ≤ p.r.length ∧ i = .int .i64 (k : Int) ∧ Blk wr w.heap.size 47 (p.arr A1 A2) ∧ Blk wr (w.heap.size + 1) 47 (p.arr v1 (.slice none 0 0)) ∧ Blk wr (w.heap.size + 1 + 1) 47 (p.arr v2 (.slice none 0 0)) ∧
    OwnL keyCells 9 1 (w.heap.size + 3) wr v1 (keysL (p.r.take k) x) ∧ OwnL keyCells 9 1 (w.heap.size + 3) wr v2 (keysR (p.r.take k) x) ∧ Dis v1 v2 ∧ Below w.heap.size w wr

set_option maxRecDepth 100000 in
set_option maxHeartbeats 4000000 in
theorem halves_any (p : Pn) (x : Nat) (A1 A2 : Option Addr) (n1 n2 c1 c2 : Nat) (w : World) (hr : Sl KyRel 1 w w.heap.size A1 n1 p.r) (hw : Sl WtRel 4 w w.heap.size A2 n2 p.w) (hn1 : n1 ≤ 1000000) (hn2 : n2 ≤ 1000000) :
    Calls Try.prog 34 #[p.val (.slice A1 n1 c1) (.slice A2 n2 c2), .float .f64 x] w fun e w' => ∃ r1 q1 r2 q2, e = .returned (.tuple #[(pnL p x).val r1 q1, (pnR p x).val r2 q2]) ∧
      OwnL keyCells 9 1 w.heap.size w' r1 (keysL p.r x) ∧ OwnL Wt.cells 96 4 w.heap.size w' q1 (halveL p.w x) ∧ OwnL keyCells 9 1 w.heap.size w' r2 (keysR p.r x) ∧ OwnL Wt.cells 96 4 w.heap.size w' q2 (halveR p.w x) ∧ Below w.heap.size w w' := by
  obtain ⟨i0, hi0, hz0, hz1, hz2⟩ := info_parts ky_info
  have hl := hr.1
  have hge : n1 ≤ p.r.length := by omega
  have hle : p.r.length ≤ n1 := by omega
  clear hl
  go_enter Try.func34, Try.ntmps34
  go_wp2
  have i2 : Blk (((w.alloc (.cells (p.arr (.slice A1 n1 c1) (.slice A2 n2 c2)) 47)).alloc (.cells zeroPn 47)).alloc (.cells zeroPn 47)) w.heap.size 47 (p.arr (.slice A1 n1 c1) (.slice A2 n2 c2)) := ((Blk.new _ _ _).alloc _).alloc _
  have i4 : Blk (((w.alloc (.cells (p.arr (.slice A1 n1 c1) (.slice A2 n2 c2)) 47)).alloc (.cells zeroPn 47)).alloc (.cells zeroPn 47)) (w.heap.size + 1) 47 zeroPn := (Blk.new' _ _ (by simp)).alloc _
  have i5 : Blk (((w.alloc (.cells (p.arr (.slice A1 n1 c1) (.slice A2 n2 c2)) 47)).alloc (.cells zeroPn 47)).alloc (.cells zeroPn 47)) (w.heap.size + 1 + 1) 47 zeroPn := Blk.new' _ _ (by simp)
  have hX : Below w.heap.size w (((w.alloc (.cells (p.arr (.slice A1 n1 c1) (.slice A2 n2 c2)) 47)).alloc (.cells zeroPn 47)).alloc (.cells zeroPn 47)) := by go_grown
  obtain ⟨w0, hw0e⟩ : ∃ w0, w0 = (((w.alloc (.cells (p.arr (.slice A1 n1 c1) (.slice A2 n2 c2)) 47)).alloc (.cells zeroPn 47)).alloc (.cells zeroPn 47)) := ⟨_, rfl⟩
  rw [← hw0e] at i2 i4 i5 hX
  have hsz : w0.heap.size = w.heap.size + 3 := by rw [hw0e]; simp
  refine wp_region_held_drew (S := fun w' => Blk w' w.heap.size 47 (p.arr (.slice A1 n1 c1) (.slice A2 n2 c2))) (by kernel_rfl) (by rw [hw0e] at i2; exact i2) (fun hHeld => ?_)
  refine wpAnyH_take (i := 0) (v := .pointer (some ⟨w.heap.size, 0, none⟩)) rfl (by kernel_rfl) (by kernel_rfl) (by kernel_rfl) (fun _ _ _ h => h) (Or.inl ⟨by kernel_rfl, fun W hSw => by clear hSw; go_simp⟩) hHeld ?_
  go_frame
  refine wpAnyH_take (i := 1) rfl (by kernel_rfl) (by kernel_rfl) (by kernel_rfl) (fun _ _ _ h => h) (yieldsIf_load_mid (by kernel_rfl) _ _ rfl w.heap.size 0 rfl [.int .i64 p.t.c, .int .i64 p.t.l, .int .i64 p.t.s] _ (fun W hSw => Blk.range hSw 0 _ (three_of rfl rfl rfl)) rfl rfl (by kernel_rfl)) hHeld ?_
  go_frame
  refine wpAnyH_take (i := 2) (v := .pointer (some ⟨w.heap.size, 3, none⟩)) rfl (by kernel_rfl) (by kernel_rfl) (by kernel_rfl) (fun _ _ _ h => h) (Or.inl ⟨by kernel_rfl, fun W hSw => by clear hSw; go_simp⟩) hHeld ?_
  go_frame
  refine wpAnyH_take (i := 3) rfl (by kernel_rfl) (by kernel_rfl) (by kernel_rfl) (fun _ _ _ h => h) (yieldsIf_load_mid (by kernel_rfl) _ _ rfl w.heap.size 3 rfl [.int .i64 p.s.w, .int .i64 p.s.l, .int .i64 p.s.n] _ (fun W hSw => Blk.range hSw 3 _ (three_of rfl rfl rfl)) rfl rfl (by kernel_rfl)) hHeld ?_
  go_frame
  refine wpAnyH_take (i := 4) (v := .agg (p.arr (.slice none 0 0) (.slice none 0 0))) rfl (by kernel_rfl) (by kernel_rfl) (by kernel_rfl) (fun _ _ _ h => h) (Or.inl ⟨by kernel_rfl, fun W hSw => by clear hSw; go_simp⟩) hHeld ?_
  go_frame
  refine wpAnyH_take (i := 5) (v := .pointer (some ⟨w.heap.size, 0, none⟩)) rfl (by kernel_rfl) (by kernel_rfl) (by kernel_rfl) (fun _ _ _ h => h) (Or.inl ⟨by kernel_rfl, fun W hSw => by clear hSw; go_simp⟩) hHeld ?_
  go_frame
  refine wpAnyH_take (i := 6) rfl (by kernel_rfl) (by kernel_rfl) (by kernel_rfl) (fun _ _ _ h => h) (yieldsIf_load_mid (by kernel_rfl) _ _ rfl w.heap.size 0 rfl [.int .i64 p.t.c, .int .i64 p.t.l, .int .i64 p.t.s] _ (fun W hSw => Blk.range hSw 0 _ (three_of rfl rfl rfl)) rfl rfl (by kernel_rfl)) hHeld ?_
  go_frame
  refine wpAnyH_take (i := 7) (v := .pointer (some ⟨w.heap.size, 3, none⟩)) rfl (by kernel_rfl) (by kernel_rfl) (by kernel_rfl) (fun _ _ _ h => h) (Or.inl ⟨by kernel_rfl, fun W hSw => by clear hSw; go_simp⟩) hHeld ?_
  go_frame
  refine wpAnyH_take (i := 8) rfl (by kernel_rfl) (by kernel_rfl) (by kernel_rfl) (fun _ _ _ h => h) (yieldsIf_load_mid (by kernel_rfl) _ _ rfl w.heap.size 3 rfl [.int .i64 p.s.w, .int .i64 p.s.l, .int .i64 p.s.n] _ (fun W hSw => Blk.range hSw 3 _ (three_of rfl rfl rfl)) rfl rfl (by kernel_rfl)) hHeld ?_
  go_frame
  refine wpAnyH_take (i := 9) (v := .agg (p.arr (.slice none 0 0) (.slice none 0 0))) rfl (by kernel_rfl) (by kernel_rfl) (by kernel_rfl) (fun _ _ _ h => h) (Or.inl ⟨by kernel_rfl, fun W hSw => by clear hSw; go_simp⟩) hHeld ?_
  go_frame
  rw [← hw0e]
  have hn4 : w.heap.size + 1 ≠ w.heap.size := by omega
  have s2a := i2.drew.setRow_far (g' := w.heap.size + 1) (p.arr (.slice none 0 0) (.slice none 0 0)) (by omega)
  have s4a := i4.drew.setRow (p.arr (.slice none 0 0) (.slice none 0 0))
  have s5a := i5.drew.setRow_far (g' := w.heap.size + 1) (p.arr (.slice none 0 0) (.slice none 0 0)) (by omega)
  have hXa := below_setRow hX.drew (g := w.heap.size + 1) (by omega) (p.arr (.slice none 0 0) (.slice none 0 0))
  refine wpAnyH_store_rowE (i := 10) (by kernel_rfl) rfl rfl _ _ _ rfl (w.heap.size + 1) (p.arr (.slice none 0 0) (.slice none 0 0)) (by kernel_rfl) (by kernel_rfl) _ zeroPn i4.drew (by kernel_rfl) rfl (by kernel_rfl) s2a ?_
  intro w1 hw1
  rw [← hw1] at s2a s4a s5a hXa
  go_frame
  have s2b := s2a.setRow_far (g' := w.heap.size + 1 + 1) (p.arr (.slice none 0 0) (.slice none 0 0)) (by omega)
  have s4b := s4a.setRow_far (g' := w.heap.size + 1 + 1) (p.arr (.slice none 0 0) (.slice none 0 0)) (by omega)
  have s5b := s5a.setRow (p.arr (.slice none 0 0) (.slice none 0 0))
  have hXb := below_setRow hXa (g := w.heap.size + 1 + 1) (by omega) (p.arr (.slice none 0 0) (.slice none 0 0))
  have hsz2 : (w1.setRow (w.heap.size + 1 + 1) (p.arr (.slice none 0 0) (.slice none 0 0))).heap.size = w.heap.size + 3 := by rw [size_setRow, hw1, size_setRow]; exact hsz
  refine wpAnyH_store_rowE (i := 11) (by kernel_rfl) rfl rfl _ _ _ rfl (w.heap.size + 1 + 1) (p.arr (.slice none 0 0) (.slice none 0 0)) (by kernel_rfl) (by kernel_rfl) _ zeroPn s5a (by kernel_rfl) rfl (by kernel_rfl) s2b ?_
  intro w2 hw2
  rw [← hw2] at s2b s4b s5b hXb hsz2
  go_frame
  refine wpAnyH_done (by kernel_rfl) ?_ _
  clear s2a s4a s5a hXa hw1 hw2 i2 i4 i5 hX hw0e hsz hHeld
  have x0 := s2b.cell 6
  simp only [List.getElem?_toArray, List.getElem?_cons_succ, List.getElem?_cons_zero] at x0
  have l2 := s2b.lt
  go_wp2
  go_loopw [21] (fun i wr => HalfRel p x (.slice A1 n1 c1) (.slice A2 n2 c2) w i wr) (fun i _ => n1 - (intOf i).toNat)
  case atStart => exact ⟨0, _, _, by omega, rfl, s2b, s4b, s5b, OwnL.nil _, OwnL.nil _, Dis.nil _, hXb⟩
  case round =>
    obtain ⟨k, v1, v2, hk, rfl, b2, b4, b5, ho1, ho2, hdis, hb⟩ := hrel
    have hzz := hb.size
    have hf1 : (keysL (p.r.take k) x).length ≤ 1000000 := by
      have h1 := List.length_filter_le (fun a : ByteArray => belowB a x) (p.r.take k)
      have h2 := List.length_take_le k p.r
      unfold keysL; omega
    have hf2 : (keysR (p.r.take k) x).length ≤ 1000000 := by
      have h1 := List.length_filter_le (fun a : ByteArray => !belowB a x) (p.r.take k)
      have h2 := List.length_take_le k p.r
      unfold keysR; omega
    have l5 := b5.lt
    by_cases hlt : k < n1
    · obtain ⟨ad, a, rfl, ha, hbk, hok, c0⟩ := (hr.below KyRel.kept hb).ky hlt
      have hd1 : decide ((k : Int) < (n1 : Int)) = true := by simp; omega
      have hk0 : (0 : Int) ≤ (k : Int) := by omega
      have hk1 : (k : Int) < (n1 : Int) := by omega
      have hsn := keys_snoc x ha
      have hof := of_any a wr (reach_max hok)
      obtain ⟨A3, q3, rfl, hq3, hq3m⟩ := ho1.form
      obtain ⟨A4, q4, rfl, hq4, hq4m⟩ := ho2.form
      generalize keysL (p.r.take k) x = a1 at *
      generalize keysR (p.r.take k) x = a2 at *
      by_cases hbel : belowB a x = true
      · have HS := Lib.hid (hsn.1 hbel)
        have hfl : flt (ofB a) x = true := hbel
        unfold flt at hfl
        clear hsn hbel
        have hX := (Below.refl wr.heap.size wr).alloc (Nat.le_refl _) (.cells (keyCells a).toArray 9)
        have hown0 := ho1.below hX
        have hrd0 := reads_new' wr 9 (keyCells a) 1 rfl
        have hsz0 : (wr.alloc (.cells (keyCells a).toArray 9)).heap.size = wr.heap.size + 1 := by simp
        have y6 := b4.cell 6
        simp only [List.getElem?_toArray, List.getElem?_cons_succ, List.getElem?_cons_zero] at y6
        have l6 := b4.lt
        have l66 : w.heap.size + 1 < wr.heap.size + 1 := by omega
        clear ha
        go_wp2_with (first
          | ((with_reducible refine hof.mono ?_); rintro e w5 ⟨rfl, rfl⟩)
          | (at_builtin
             refine wpList_append_any _ rfl (.tmp 30) (.tmp 32) _ rfl (w.heap.size + 3) 9 i0 _ 1 16 Try.underlying44 hi0 hz0 hz1 hz2 rfl (by omega) (.slice A3 a1.length q3) _ (a1.flatMap keyCells) (by rfl) hown0 _ (some ⟨wr.heap.size, 0, none⟩) 1 1 (keyCells a) (by rfl)
               hrd0 (ky_one a) (by unfold maxLen; omega) (by omega) (by simp; omega) ?_
             intro v3 w3 hown3 hg3 hat3
             have e4 := (b4.alloc (.cells (keyCells a).toArray 9)).grown hg3 (ho1.ne (by omega))
             have e5 := (b5.alloc (.cells (keyCells a).toArray 9)).grown hg3 (ho1.ne (by omega))
             have e2 := (b2.alloc (.cells (keyCells a).toArray 9)).grown hg3 (ho1.ne (by omega))
             have z6 := e4.cell 6
             simp only [List.getElem?_toArray, List.getElem?_cons_succ, List.getElem?_cons_zero] at z6
             have f6 := e4.frozen 6
             obtain ⟨A6, q6, rfl, hq6, hq6m⟩ := own_form hown3))
        have hp := OwnL.push a hown3
        have hbw := (hb.trans (hX.mono hzz)).grown hg3 (by simp; omega) (fun q hq => by have := (hown0.lt q hq).1; omega)
        have hoth := (ho2.below hX).beside hg3 hdis
        have hdis' := hdis.push (ho2.below hX) hat3
        go_roundw
        case rel =>
          refine ⟨k + 1, _, _, by omega, by go_num, e2.far (by simp <;> omega) _, e4.set_ 6 _, e5.far (by simp <;> omega) _, ?_, ?_, hdis', hbw.setCell (by simp; try omega) _⟩
          · rw [HS.out.1]
            exact hp.set_far (by simp; try omega) _
          · rw [HS.out.2]
            exact hoth.set_far (by simp; try omega) _
        case measure => simp [intOf]; omega
      · have hbf : belowB a x = false := by simpa using hbel
        have HS := Lib.hid (hsn.2 hbf)
        have hfl : flt (ofB a) x = false := hbf
        unfold flt at hfl
        clear hsn hbel hbf
        have hX := (Below.refl wr.heap.size wr).alloc (Nat.le_refl _) (.cells (keyCells a).toArray 9)
        have hown0 := ho2.below hX
        have hrd0 := reads_new' wr 9 (keyCells a) 1 rfl
        have hsz0 : (wr.alloc (.cells (keyCells a).toArray 9)).heap.size = wr.heap.size + 1 := by simp
        have y6 := b5.cell 6
        simp only [List.getElem?_toArray, List.getElem?_cons_succ, List.getElem?_cons_zero] at y6
        have l6 := b5.lt
        have l66 : w.heap.size + 1 + 1 < wr.heap.size + 1 := by omega
        clear ha
        go_wp2_with (first
          | ((with_reducible refine hof.mono ?_); rintro e w5 ⟨rfl, rfl⟩)
          | (at_builtin
             refine wpList_append_any _ rfl (.tmp 36) (.tmp 38) _ rfl (w.heap.size + 3) 9 i0 _ 1 16 Try.underlying44 hi0 hz0 hz1 hz2 rfl (by omega) (.slice A4 a2.length q4) _ (a2.flatMap keyCells) (by rfl) hown0 _ (some ⟨wr.heap.size, 0, none⟩) 1 1 (keyCells a) (by rfl)
               hrd0 (ky_one a) (by unfold maxLen; omega) (by omega) (by simp; omega) ?_
             intro v3 w3 hown3 hg3 hat3
             have e4 := (b4.alloc (.cells (keyCells a).toArray 9)).grown hg3 (ho2.ne (by omega))
             have e5 := (b5.alloc (.cells (keyCells a).toArray 9)).grown hg3 (ho2.ne (by omega))
             have e2 := (b2.alloc (.cells (keyCells a).toArray 9)).grown hg3 (ho2.ne (by omega))
             have z6 := e5.cell 6
             simp only [List.getElem?_toArray, List.getElem?_cons_succ, List.getElem?_cons_zero] at z6
             have f6 := e5.frozen 6
             obtain ⟨A6, q6, rfl, hq6, hq6m⟩ := own_form hown3))
        have hp := OwnL.push a hown3
        have hbw := (hb.trans (hX.mono hzz)).grown hg3 (by simp; omega) (fun q hq => by have := (hown0.lt q hq).1; omega)
        have hoth := (ho1.below hX).beside hg3 hdis.symm
        have hdis' := hdis.symm.push (ho1.below hX) hat3
        go_roundw
        case rel =>
          refine ⟨k + 1, _, _, by omega, by go_num, e2.far (by simp <;> omega) _, e4.far (by simp <;> omega) _, e5.set_ 6 _, ?_, ?_, hdis'.symm, hbw.setCell (by simp; try omega) _⟩
          · rw [HS.out.1]
            exact hoth.set_far (by simp; try omega) _
          · rw [HS.out.2]
            exact hp.set_far (by simp; try omega) _
        case measure => simp [intOf]; omega
    · have hd1 : decide ((k : Int) < (n1 : Int)) = false := by simp; omega
      rw [List.take_of_length_le (by omega)] at ho1 ho2
      obtain ⟨A3, q3, rfl, hq3, hq3m⟩ := ho1.form
      obtain ⟨A4, q4, rfl, hq4, hq4m⟩ := ho2.form
      have y7 := b2.cell 7
      simp only [List.getElem?_toArray, List.getElem?_cons_succ, List.getElem?_cons_zero] at y7
      have l2' := b2.lt
      have l4' := b4.lt
      have hHv := halve_any A2 n2 c2 p.w x wr ((hw.below WtRel.kept hb).more WtRel.kept hzz) (by omega)
      clear hf1 hf2 hdis
      generalize hkl : keysL p.r x = kl at *
      generalize hkr : keysR p.r x = kr at *
      go_wp2_with (go_at_call 22; fail)
      refine hHv.mono ?_
      rintro e w5 ⟨u1, u2, rfl, o1, o2, -, hb5⟩
      obtain ⟨A5, q5, rfl, hq5, hq5m⟩ := o1.form
      obtain ⟨A6, q6, rfl, hq6, hq6m⟩ := o2.form
      have c4 := b4.below hb5 l4'
      have c5 := b5.below hb5 l5
      have hb6 : Below w.heap.size w w5 := hb.trans (hb5.mono hzz)
      have p1 := ho1.below hb5
      have p2 := ho2.below hb5
      have l45 := c4.lt
      have l55 := c5.lt
      have f4 := c4.frozen 7
      have f5 := c5.frozen 7
      have z4 := c4.cell 7
      have z5 := c5.cell 7
      simp only [List.getElem?_toArray, List.getElem?_cons_succ, List.getElem?_cons_zero] at z4 z5
      clear y7 hHv b2 b4 b5 ho1 ho2
      go_wp2
      have hz5 := hb5.size
      have g4 : Blk (w5.setCell ⟨w.heap.size + 1, 7, none⟩ (.slice A5 (halveL p.w x).length q5)) (w.heap.size + 1) 47 (p.arr (.slice A3 kl.length q3) (.slice A5 (halveL p.w x).length q5)) := c4.set_ 7 _
      have d4 : Blk ((w5.setCell ⟨w.heap.size + 1, 7, none⟩ (.slice A5 (halveL p.w x).length q5)).setCell ⟨w.heap.size + 1 + 1, 7, none⟩ (.slice A6 (halveR p.w x).length q6)) (w.heap.size + 1) 47 (p.arr (.slice A3 kl.length q3) (.slice A5 (halveL p.w x).length q5)) := g4.far (by simp) _
      have g5 := c5.far (p := ⟨w.heap.size + 1, 7, none⟩) (by simp) (.slice A5 (halveL p.w x).length q5)
      have d5 : Blk ((w5.setCell ⟨w.heap.size + 1, 7, none⟩ (.slice A5 (halveL p.w x).length q5)).setCell ⟨w.heap.size + 1 + 1, 7, none⟩ (.slice A6 (halveR p.w x).length q6)) (w.heap.size + 1 + 1) 47 (p.arr (.slice A4 kr.length q4) (.slice A6 (halveR p.w x).length q6)) := g5.set_ 7 _
      have hb7 : Below w.heap.size w ((w5.setCell ⟨w.heap.size + 1, 7, none⟩ (.slice A5 (halveL p.w x).length q5)).setCell ⟨w.heap.size + 1 + 1, 7, none⟩ (.slice A6 (halveR p.w x).length q6)) := (hb6.setCell (by simp) _).setCell (by simp; omega) _
      have r1 := (p1.set_far (p := ⟨w.heap.size + 1, 7, none⟩) (by simp) (.slice A5 (halveL p.w x).length q5)).set_far (p := ⟨w.heap.size + 1 + 1, 7, none⟩) (by simp) (.slice A6 (halveR p.w x).length q6)
      have r2 := (p2.set_far (p := ⟨w.heap.size + 1, 7, none⟩) (by simp) (.slice A5 (halveL p.w x).length q5)).set_far (p := ⟨w.heap.size + 1 + 1, 7, none⟩) (by simp) (.slice A6 (halveR p.w x).length q6)
      have s1 := (o1.set_far (p := ⟨w.heap.size + 1, 7, none⟩) (by simp; omega) (.slice A5 (halveL p.w x).length q5)).set_far (p := ⟨w.heap.size + 1 + 1, 7, none⟩) (by simp; omega) (.slice A6 (halveR p.w x).length q6)
      have s2 := (o2.set_far (p := ⟨w.heap.size + 1, 7, none⟩) (by simp; omega) (.slice A5 (halveL p.w x).length q5)).set_far (p := ⟨w.heap.size + 1 + 1, 7, none⟩) (by simp; omega) (.slice A6 (halveR p.w x).length q6)
      have hsz6 : ((w5.setCell ⟨w.heap.size + 1, 7, none⟩ (.slice A5 (halveL p.w x).length q5)).setCell ⟨w.heap.size + 1 + 1, 7, none⟩ (.slice A6 (halveR p.w x).length q6)).heap.size = w5.heap.size := by simp
      clear g4 g5 c4 c5 p1 p2 o1 o2 f4 f5 z4 z5 hb6
      obtain ⟨w6, he6⟩ : ∃ w6, w6 = ((w5.setCell ⟨w.heap.size + 1, 7, none⟩ (.slice A5 (halveL p.w x).length q5)).setCell ⟨w.heap.size + 1 + 1, 7, none⟩ (.slice A6 (halveR p.w x).length q6)) := ⟨_, rfl⟩
      rw [← he6] at d4 d5 hb7 r1 r2 s1 s2 hsz6 ⊢
      clear he6
      refine wp_region_held_drew (S := fun w' => Blk w' (w.heap.size + 1) 47 (p.arr (.slice A3 kl.length q3) (.slice A5 (halveL p.w x).length q5)) ∧ Blk w' (w.heap.size + 1 + 1) 47 (p.arr (.slice A4 kr.length q4) (.slice A6 (halveR p.w x).length q6))) (by kernel_rfl) ⟨d4, d5⟩ (fun hHeld => ?_)
      refine wpAnyH_take (i := 0) (oi := ⟨some 51, .load 47 (.tmp 4), _, _, _, _⟩) rfl (by kernel_rfl) (by kernel_rfl) (by kernel_rfl) (fun _ _ _ h => h) (yieldsIf_load_row (by rfl) _ _ rfl (w.heap.size + 1) rfl _ _ _ (fun _ h => h.1) rfl rfl (by kernel_rfl)) hHeld ?_
      go_frame
      refine wpAnyH_take (i := 1) (oi := ⟨some 52, .load 47 (.tmp 5), _, _, _, _⟩) rfl (by kernel_rfl) (by kernel_rfl) (by kernel_rfl) (fun _ _ _ h => h) (yieldsIf_load_row (by rfl) _ _ rfl (w.heap.size + 1 + 1) rfl _ _ _ (fun _ h => h.2) rfl rfl (by kernel_rfl)) hHeld ?_
      go_frame
      have k4 := d4.drew.setRow (p.arr (.slice A3 kl.length q3) (.slice A5 (halveL p.w x).length q5))
      have k5 := d5.drew.setRow_far (g' := w.heap.size + 1) (p.arr (.slice A3 kl.length q3) (.slice A5 (halveL p.w x).length q5)) (by omega)
      have kb := below_setRow hb7.drew (g := w.heap.size + 1) (by omega) (p.arr (.slice A3 kl.length q3) (.slice A5 (halveL p.w x).length q5))
      have t1 := (OwnL.drew r1).setRow_far (g := w.heap.size + 1) (by omega) (p.arr (.slice A3 kl.length q3) (.slice A5 (halveL p.w x).length q5))
      have t2 := (OwnL.drew r2).setRow_far (g := w.heap.size + 1) (by omega) (p.arr (.slice A3 kl.length q3) (.slice A5 (halveL p.w x).length q5))
      have t3 := (OwnL.drew s1).setRow_far (g := w.heap.size + 1) (by omega) (p.arr (.slice A3 kl.length q3) (.slice A5 (halveL p.w x).length q5))
      have t4 := (OwnL.drew s2).setRow_far (g := w.heap.size + 1) (by omega) (p.arr (.slice A3 kl.length q3) (.slice A5 (halveL p.w x).length q5))
      refine wpAnyH_store_rowE (i := 2) (by kernel_rfl) rfl rfl _ _ _ rfl (w.heap.size + 1) (p.arr (.slice A3 kl.length q3) (.slice A5 (halveL p.w x).length q5)) (by kernel_rfl) (by kernel_rfl) _ _ d4.drew (by kernel_rfl) rfl (by kernel_rfl) ⟨k4, k5⟩ ?_
      intro w7 hw7
      rw [← hw7] at k4 k5 kb t1 t2 t3 t4
      clear hw7 d4 d5 r1 r2 s1 s2 hHeld
      go_frame
      have m4 := k4.setRow_far (g' := w.heap.size + 1 + 1) (p.arr (.slice A4 kr.length q4) (.slice A6 (halveR p.w x).length q6)) (by omega)
      have m5 := k5.setRow (p.arr (.slice A4 kr.length q4) (.slice A6 (halveR p.w x).length q6))
      have mb := below_setRow kb (g := w.heap.size + 1 + 1) (by omega) (p.arr (.slice A4 kr.length q4) (.slice A6 (halveR p.w x).length q6))
      have v1 := t1.setRow_far (g := w.heap.size + 1 + 1) (by omega) (p.arr (.slice A4 kr.length q4) (.slice A6 (halveR p.w x).length q6))
      have v2 := t2.setRow_far (g := w.heap.size + 1 + 1) (by omega) (p.arr (.slice A4 kr.length q4) (.slice A6 (halveR p.w x).length q6))
      have v3 := t3.setRow_far (g := w.heap.size + 1 + 1) (by omega) (p.arr (.slice A4 kr.length q4) (.slice A6 (halveR p.w x).length q6))
      have v4 := t4.setRow_far (g := w.heap.size + 1 + 1) (by omega) (p.arr (.slice A4 kr.length q4) (.slice A6 (halveR p.w x).length q6))
      refine wpAnyH_store_rowE (i := 3) (by kernel_rfl) rfl rfl _ _ _ rfl (w.heap.size + 1 + 1) (p.arr (.slice A4 kr.length q4) (.slice A6 (halveR p.w x).length q6)) (by kernel_rfl) (by kernel_rfl) _ _ k5 (by kernel_rfl) rfl (by kernel_rfl) ⟨m4, m5⟩ ?_
      intro w8 hw8
      rw [← hw8] at m4 m5 mb v1 v2 v3 v4
      clear hw8 k4 k5 kb t1 t2 t3 t4
      go_frame
      refine wpAnyH_done (by kernel_rfl) ?_ _
      go_wp2
      refine post_cell_cell rfl (by kernel_rfl) (by kernel_rfl) m4 m5 rfl rfl (by kernel_rfl) rfl rfl (by kernel_rfl) ?_
      refine ⟨_, _, _, _, rfl, ?_, ?_, ?_, ?_, mb⟩
      · first | exact v1.mono_base (by omega) | (rw [hkl]; exact v1.mono_base (by omega))
      · exact v3.mono_base (by omega)
      · first | exact v2.mono_base (by omega) | (rw [hkr]; exact v2.mono_base (by omega))
      · exact v4.mono_base (by omega)
end Go.Proofs.Ytipacjbegfingaa
