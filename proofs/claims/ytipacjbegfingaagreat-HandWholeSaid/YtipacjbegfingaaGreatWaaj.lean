/- The walk of hand.halves. -/
import Derived.Sort.Walk0
import Derived.Test.YtipacjbegfingaaGreatWaac
import Derived.Test.YtipacjbegfingaaGreatWaad
import Derived.Test.YtipacjbegfingaaGreatWaah
namespace Go.Proofs.YtipacjbegfingaaGreat
open Go.RowKit Fl
attribute [local go_sem] run_store_float

theorem post_cell_cell {P : Program} {fn : Func} {R : Ending → World → Prop} {tmps : Array Value} {w : World} {p q : Tmp} {g k : Nat} {t ty t' ty' : TypeId} {cs cs' : Array Value} {d d' : TypeDesc} (h : fn.results = #[.cell p ty, .cell q ty']) (hp : tmps.getD p undef = .pointer (some ⟨g, 0, none⟩)) (hq : tmps.getD q undef = .pointer (some ⟨k, 0, none⟩))
    (hb : Blk w g t cs) (hb' : Blk w k t' cs')
    (hu : P.underlying ty = some d) (hd : (match d with | .struct _ | .array _ _ => true | _ => false) = true) (hi : (P.info? ty).map (·.size) = some cs.size)
    (hu' : P.underlying ty' = some d') (hd' : (match d' with | .struct _ | .array _ _ => true | _ => false) = true) (hi' : (P.info? ty').map (·.size) = some cs'.size)
    (hR : R (.returned (.tuple #[.agg cs, .agg cs'])) w) : bodyPost P fn R .ret ⟨tmps, []⟩ w := by
  refine bodyPost_ret ?_ rfl hR
  have hp' : tmps[p]?.getD undef = .pointer (some ⟨g, 0, none⟩) := by simpa using hp
  have hq' : tmps[q]?.getD undef = .pointer (some ⟨k, 0, none⟩) := by simpa using hq
  simp [results, h, hp', hq', asAddr, run_loadVar_blk hb hu hd hi, run_loadVar_blk hb' hu' hd' hi', Sem.run_bind, Result.andThen]
/-- one store of a whole struct comes up alone; the world behind it is told -/
theorem wpAnyH_store_rowE {P : Program} {md : Region.Mode} {ops : Array Oper} {Q : Exit → Act → World → Prop} {S : World → Prop} {fuel : Nat} {listed : Array Bool} {a : Act} {w : World} {i : Nat} {op : Oper}
    (hr : Region.ready md ops listed = [i]) (ho : ops[i]? = some op) (hg : op.guard = none) (ty : TypeId) (x y : Operand) (hop : op.op = .store ty x y)
    (g : Nat) (cells : Array Value) (hx : a.eval x = .pointer (some ⟨g, 0, none⟩)) (hy : a.eval y = .agg cells) (t : TypeId) (old : Array Value) (hb : Blk w g t old) (hi : (P.info? ty).map (·.size) = some cells.size) (hold : old.size = cells.size) (h1 : cells.all (·.oneCell') = true)
    (hS : S (w.setRow g cells)) (h : ∀ w', w' = w.setRow g cells → wpAnyH P md ops Q S fuel (listed.setIfInBounds i true) (a.put op.dst undef) w') : wpAnyH P md ops Q S (fuel + 1) listed a w := by
  refine wpAnyH_all hr (by simp) (fun j hj => ?_)
  obtain rfl : j = i := by simpa using hj
  refine wpOp_step ho (fun K' hK => ?_)
  have hw : Region.wanted op (yielded ops a.tmps) = true := by simp [Region.wanted, hg]
  rw [if_pos hw]
  exact wp_store_row ty x y hop g cells hx hy t old hb hi hold h1 (hK _ _ ⟨hS, h _ rfl⟩)
theorem yieldsIf_load_row {P : Program} {ops : Array Oper} {S : World → Prop} {op : Oper} {a : Act} (hw : Region.wanted op (yielded ops a.tmps) = true) (ty : TypeId) (x : Operand) (ho : op.op = .load ty x)
    (g : Nat) (hx : a.eval x = .pointer (some ⟨g, 0, none⟩)) (t : TypeId) (cs : Array Value) (d : TypeDesc) (hS : ∀ w, S w → Blk w g t cs)
    (hu : P.underlying ty = some d) (hd : (match d with | .struct _ | .array _ _ => true | _ => false) = true) (hi : (P.info? ty).map (·.size) = some cs.size) : YieldsIf P ops S op (.agg cs) a :=
  .inl ⟨hw, fun w hw' => by
    unfold execOp
    simp only [ho, hx, Instr.loadAt, Instr.sureAddr, Sem.run_bind, Sem.run_pure, Result.andThen_ok, run_loadVar_row w g t ty cs (0, 0) d (hS w hw') hu hd hi]⟩
theorem OwnL.ne {α : Type} {f : α → List Value} {E size base : Nat} {w : World} {v : Value} {l : List α} (h : OwnL f E size base w v l) {g : Nat} (hg : g < base) : some g ≠ v.ownBlock := by
  rcases h.far hg with e | e
  · rw [e]; simp
  · exact fun e2 => e e2.symm

theorem OwnL.drew {α : Type} {f : α → List Value} {E size base : Nat} {w : World} {v : Value} {l : List α} (h : OwnL f E size base w v l) : OwnL f E size base w.drew v l := World.ownsRow.drew h
def keysL (l : List ByteArray) (x : Nat) : List ByteArray := l.filter fun k => belowB k x
def keysR (l : List ByteArray) (x : Nat) : List ByteArray := l.filter fun k => !belowB k x
theorem keys_snoc {l : List ByteArray} {k : Nat} {a : ByteArray} (p : Nat) (h : l[k]? = some a) :
    (belowB a p = true → keysL (l.take (k + 1)) p = keysL (l.take k) p ++ [a] ∧ keysR (l.take (k + 1)) p = keysR (l.take k) p) ∧
    (belowB a p = false → keysL (l.take (k + 1)) p = keysL (l.take k) p ∧ keysR (l.take (k + 1)) p = keysR (l.take k) p ++ [a]) := by
  unfold keysL keysR
  rw [List.take_add_one, h, List.filter_append, List.filter_append]
  constructor
  · intro hb; simp [hb]
  · intro hb; simp [hb]
def pnL (p : Pn) (x : Nat) : Pn := ⟨p.t, p.s, keysL p.r x, halveL p.w x⟩
def pnR (p : Pn) (x : Nat) : Pn := ⟨p.t, p.s, keysR p.r x, halveR p.w x⟩
def HalfRel (p : Pn) (x : Nat) (A1 : Value) (A2 : Value) (w : World) (i : Value) (wr : World) : Prop :=
  ∃ (k : Nat) (v1 v2 : Value), k ≤ p.r.length ∧ i = .int .i64 (k : Int) ∧ Blk wr w.heap.size 45 (p.arr A1 A2) ∧ Blk wr (w.heap.size + 1) 45 (p.arr v1 (.slice none 0 0)) ∧ Blk wr (w.heap.size + 1 + 1) 45 (p.arr v2 (.slice none 0 0)) ∧
    OwnL keyCells 9 1 (w.heap.size + 3) wr v1 (keysL (p.r.take k) x) ∧ OwnL keyCells 9 1 (w.heap.size + 3) wr v2 (keysR (p.r.take k) x) ∧ Dis v1 v2 ∧ Below w.heap.size w wr

set_option maxRecDepth 100000 in
set_option maxHeartbeats 4000000 in
theorem halves_any (p : Pn) (x : Nat) (A1 A2 : Option Addr) (n1 n2 c1 c2 : Nat) (w : World) (hr : Sl KyRel 1 w w.heap.size A1 n1 p.r) (hw : Sl WtRel 4 w w.heap.size A2 n2 p.w) (hn1 : n1 ≤ 1000000) (hn2 : n2 ≤ 1000000) :
    Calls Tryz.prog 36 #[p.val (.slice A1 n1 c1) (.slice A2 n2 c2), .float .f64 x] w fun e w' => ∃ r1 q1 r2 q2, e = .returned (.tuple #[(pnL p x).val r1 q1, (pnR p x).val r2 q2]) ∧
      OwnL keyCells 9 1 w.heap.size w' r1 (keysL p.r x) ∧ OwnL Wt.cells 86 4 w.heap.size w' q1 (halveL p.w x) ∧ OwnL keyCells 9 1 w.heap.size w' r2 (keysR p.r x) ∧ OwnL Wt.cells 86 4 w.heap.size w' q2 (halveR p.w x) ∧ Below w.heap.size w w' := by
  obtain ⟨i0, hi0, hz0, hz1, hz2⟩ := info_parts ky_info
  have hl := hr.1
  have hge : n1 ≤ p.r.length := by omega
  have hle : p.r.length ≤ n1 := by omega
  clear hl
  go_enter Tryz.func36, Tryz.ntmps36
  go_wp2
  have i2 : Blk (((w.alloc (.cells (p.arr (.slice A1 n1 c1) (.slice A2 n2 c2)) 45)).alloc (.cells zeroPn 45)).alloc (.cells zeroPn 45)) w.heap.size 45 (p.arr (.slice A1 n1 c1) (.slice A2 n2 c2)) := ((Blk.new _ _ _).alloc _).alloc _
  have i4 : Blk (((w.alloc (.cells (p.arr (.slice A1 n1 c1) (.slice A2 n2 c2)) 45)).alloc (.cells zeroPn 45)).alloc (.cells zeroPn 45)) (w.heap.size + 1) 45 zeroPn := (Blk.new' _ _ (by simp)).alloc _
  have i5 : Blk (((w.alloc (.cells (p.arr (.slice A1 n1 c1) (.slice A2 n2 c2)) 45)).alloc (.cells zeroPn 45)).alloc (.cells zeroPn 45)) (w.heap.size + 1 + 1) 45 zeroPn := Blk.new' _ _ (by simp)
  have hX : Below w.heap.size w (((w.alloc (.cells (p.arr (.slice A1 n1 c1) (.slice A2 n2 c2)) 45)).alloc (.cells zeroPn 45)).alloc (.cells zeroPn 45)) := by go_grown
  obtain ⟨w0, hw0e⟩ : ∃ w0, w0 = (((w.alloc (.cells (p.arr (.slice A1 n1 c1) (.slice A2 n2 c2)) 45)).alloc (.cells zeroPn 45)).alloc (.cells zeroPn 45)) := ⟨_, rfl⟩
  rw [← hw0e] at i2 i4 i5 hX
  have hsz : w0.heap.size = w.heap.size + 3 := by rw [hw0e]; simp
  refine wp_region_held_drew (S := fun w' => Blk w' w.heap.size 45 (p.arr (.slice A1 n1 c1) (.slice A2 n2 c2))) (by kernel_rfl) (by rw [hw0e] at i2; exact i2) (fun hHeld => ?_)
  refine wpAnyH_take (i := 0) (v := .pointer (some ⟨w.heap.size, 0, none⟩)) rfl (by kernel_rfl) (by kernel_rfl) (by kernel_rfl) (fun _ _ _ h => h) (Or.inl ⟨by kernel_rfl, fun W hSw => by clear hSw; go_simp⟩) hHeld ?_
  go_frame
  refine wpAnyH_take (i := 1) rfl (by kernel_rfl) (by kernel_rfl) (by kernel_rfl) (fun _ _ _ h => h) (yieldsIf_load_mid (by kernel_rfl) _ _ rfl w.heap.size 0 rfl [.int .i64 p.t.c, .int .i64 p.t.l, .int .i64 p.t.s] _ (fun W hSw => Blk.range hSw 0 _ (three_of rfl rfl rfl)) rfl rfl (by kernel_rfl)) hHeld ?_
  go_frame
  refine wpAnyH_take (i := 2) (v := .pointer (some ⟨w.heap.size, 3, none⟩)) rfl (by kernel_rfl) (by kernel_rfl) (by kernel_rfl) (fun _ _ _ h => h) (Or.inl ⟨by kernel_rfl, fun W hSw => by clear hSw; go_simp⟩) hHeld ?_
  go_frame
  refine wpAnyH_take (i := 3) rfl (by kernel_rfl) (by kernel_rfl) (by kernel_rfl) (fun _ _ _ h => h) (yieldsIf_load_mid (by kernel_rfl) _ _ rfl w.heap.size 3 rfl [.int .i64 p.s.w, .int .i64 p.s.l, .int .i64 p.s.n] _ (fun W hSw => Blk.range hSw 3 _ (three_of rfl rfl rfl)) rfl rfl (by kernel_rfl)) hHeld ?_
  go_frame
  refine wpAnyH_take (i := 4) (v := .agg (p.arr (.slice none 0 0) (.slice none 0 0))) rfl (by kernel_rfl) (by kernel_rfl) (by kernel_rfl) (fun _ _ _ h => h) (Or.inl ⟨by kernel_rfl, fun W hSw => by clear hSw; go_simp⟩) hHeld ?_
  go_frame
  refine wpAnyH_take (i := 5) (v := .pointer (some ⟨w.heap.size, 0, none⟩)) rfl (by kernel_rfl) (by kernel_rfl) (by kernel_rfl) (fun _ _ _ h => h) (Or.inl ⟨by kernel_rfl, fun W hSw => by clear hSw; go_simp⟩) hHeld ?_
  go_frame
  refine wpAnyH_take (i := 6) rfl (by kernel_rfl) (by kernel_rfl) (by kernel_rfl) (fun _ _ _ h => h) (yieldsIf_load_mid (by kernel_rfl) _ _ rfl w.heap.size 0 rfl [.int .i64 p.t.c, .int .i64 p.t.l, .int .i64 p.t.s] _ (fun W hSw => Blk.range hSw 0 _ (three_of rfl rfl rfl)) rfl rfl (by kernel_rfl)) hHeld ?_
  go_frame
  refine wpAnyH_take (i := 7) (v := .pointer (some ⟨w.heap.size, 3, none⟩)) rfl (by kernel_rfl) (by kernel_rfl) (by kernel_rfl) (fun _ _ _ h => h) (Or.inl ⟨by kernel_rfl, fun W hSw => by clear hSw; go_simp⟩) hHeld ?_
  go_frame
  refine wpAnyH_take (i := 8) rfl (by kernel_rfl) (by kernel_rfl) (by kernel_rfl) (fun _ _ _ h => h) (yieldsIf_load_mid (by kernel_rfl) _ _ rfl w.heap.size 3 rfl [.int .i64 p.s.w, .int .i64 p.s.l, .int .i64 p.s.n] _ (fun W hSw => Blk.range hSw 3 _ (three_of rfl rfl rfl)) rfl rfl (by kernel_rfl)) hHeld ?_
  go_frame
  refine wpAnyH_take (i := 9) (v := .agg (p.arr (.slice none 0 0) (.slice none 0 0))) rfl (by kernel_rfl) (by kernel_rfl) (by kernel_rfl) (fun _ _ _ h => h) (Or.inl ⟨by kernel_rfl, fun W hSw => by clear hSw; go_simp⟩) hHeld ?_
  go_frame
  rw [← hw0e]
  have hn4 : w.heap.size + 1 ≠ w.heap.size := by omega
  have s2a := i2.drew.setRow_far (g' := w.heap.size + 1) (p.arr (.slice none 0 0) (.slice none 0 0)) (by omega)
  have s4a := i4.drew.setRow (p.arr (.slice none 0 0) (.slice none 0 0))
  have s5a := i5.drew.setRow_far (g' := w.heap.size + 1) (p.arr (.slice none 0 0) (.slice none 0 0)) (by omega)
  have hXa := below_setRow hX.drew (g := w.heap.size + 1) (by omega) (p.arr (.slice none 0 0) (.slice none 0 0))
  refine wpAnyH_store_rowE (i := 10) (by kernel_rfl) rfl rfl _ _ _ rfl (w.heap.size + 1) (p.arr (.slice none 0 0) (.slice none 0 0)) (by kernel_rfl) (by kernel_rfl) _ zeroPn i4.drew (by kernel_rfl) rfl (by kernel_rfl) s2a ?_
  intro w1 hw1
  rw [← hw1] at s2a s4a s5a hXa
  go_frame
  have s2b := s2a.setRow_far (g' := w.heap.size + 1 + 1) (p.arr (.slice none 0 0) (.slice none 0 0)) (by omega)
  have s4b := s4a.setRow_far (g' := w.heap.size + 1 + 1) (p.arr (.slice none 0 0) (.slice none 0 0)) (by omega)
  have s5b := s5a.setRow (p.arr (.slice none 0 0) (.slice none 0 0))
  have hXb := below_setRow hXa (g := w.heap.size + 1 + 1) (by omega) (p.arr (.slice none 0 0) (.slice none 0 0))
  have hsz2 : (w1.setRow (w.heap.size + 1 + 1) (p.arr (.slice none 0 0) (.slice none 0 0))).heap.size = w.heap.size + 3 := by rw [size_setRow, hw1, size_setRow]; exact hsz
  refine wpAnyH_store_rowE (i := 11) (by kernel_rfl) rfl rfl _ _ _ rfl (w.heap.size + 1 + 1) (p.arr (.slice none 0 0) (.slice none 0 0)) (by kernel_rfl) (by kernel_rfl) _ zeroPn s5a (by kernel_rfl) rfl (by kernel_rfl) s2b ?_
  intro w2 hw2
  rw [← hw2] at s2b s4b s5b hXb hsz2
  go_frame
  refine wpAnyH_done (by kernel_rfl) ?_ _
  clear s2a s4a s5a hXa hw1 hw2 i2 i4 i5 hX hw0e hsz hHeld
  have x0 := s2b.cell 6
  simp only [List.getElem?_toArray, List.getElem?_cons_succ, List.getElem?_cons_zero] at x0
  have l2 := s2b.lt
  go_wp2
  go_loopw [21] (fun i wr => HalfRel p x (.slice A1 n1 c1) (.slice A2 n2 c2) w i wr) (fun i _ => n1 - (intOf i).toNat)
  case atStart => exact ⟨0, _, _, by omega, rfl, s2b, s4b, s5b, OwnL.nil _, OwnL.nil _, Dis.nil _, hXb⟩
  case round =>
    obtain ⟨k, v1, v2, hk, rfl, b2, b4, b5, ho1, ho2, hdis, hb⟩ := hrel
    have hzz := hb.size
    have hf1 : (keysL (p.r.take k) x).length ≤ 1000000 := by
      have h1 := List.length_filter_le (fun a : ByteArray => belowB a x) (p.r.take k)
      have h2 := List.length_take_le k p.r
      unfold keysL; omega
    have hf2 : (keysR (p.r.take k) x).length ≤ 1000000 := by
      have h1 := List.length_filter_le (fun a : ByteArray => !belowB a x) (p.r.take k)
      have h2 := List.length_take_le k p.r
      unfold keysR; omega
    have l5 := b5.lt
    by_cases hlt : k < n1
    · obtain ⟨ad, a, rfl, ha, hbk, hok, c0⟩ := (hr.below KyRel.kept hb).ky hlt
      have hd1 : decide ((k : Int) < (n1 : Int)) = true := by simp; omega
      have hk0 : (0 : Int) ≤ (k : Int) := by omega
      have hk1 : (k : Int) < (n1 : Int) := by omega
      have hsn := keys_snoc x ha
      have hof := of_any a wr (reach_max hok)
      obtain ⟨A3, q3, rfl, hq3, hq3m⟩ := ho1.form
      obtain ⟨A4, q4, rfl, hq4, hq4m⟩ := ho2.form
      generalize keysL (p.r.take k) x = a1 at *
      generalize keysR (p.r.take k) x = a2 at *
      by_cases hbel : belowB a x = true
      · have HS := Lib.hid (hsn.1 hbel)
        have hfl : flt (ofB a) x = true := hbel
        unfold flt at hfl
        clear hsn hbel
        have hX := (Below.refl wr.heap.size wr).alloc (Nat.le_refl _) (.cells (keyCells a).toArray 9)
        have hown0 := ho1.below hX
        have hrd0 := reads_new' wr 9 (keyCells a) 1 rfl
        have hsz0 : (wr.alloc (.cells (keyCells a).toArray 9)).heap.size = wr.heap.size + 1 := by simp
        have y6 := b4.cell 6
        simp only [List.getElem?_toArray, List.getElem?_cons_succ, List.getElem?_cons_zero] at y6
        have l6 := b4.lt
        have l66 : w.heap.size + 1 < wr.heap.size + 1 := by omega
        clear ha
        go_wp2_with (first
          | ((with_reducible refine hof.mono ?_); rintro e w5 ⟨rfl, rfl⟩)
          | (at_builtin
             refine wpList_append_any _ rfl (.tmp 30) (.tmp 32) _ rfl (w.heap.size + 3) 9 i0 _ 1 16 Tryz.underlying42 hi0 hz0 hz1 hz2 rfl (by omega) (.slice A3 a1.length q3) _ (a1.flatMap keyCells) (by rfl) hown0 _ (some ⟨wr.heap.size, 0, none⟩) 1 1 (keyCells a) (by rfl)
               hrd0 (ky_one a) (by unfold maxLen; omega) (by omega) (by simp; omega) ?_
             intro v3 w3 hown3 hg3 hat3
             have e4 := (b4.alloc (.cells (keyCells a).toArray 9)).grown hg3 (ho1.ne (by omega))
             have e5 := (b5.alloc (.cells (keyCells a).toArray 9)).grown hg3 (ho1.ne (by omega))
             have e2 := (b2.alloc (.cells (keyCells a).toArray 9)).grown hg3 (ho1.ne (by omega))
             have z6 := e4.cell 6
             simp only [List.getElem?_toArray, List.getElem?_cons_succ, List.getElem?_cons_zero] at z6
             have f6 := e4.frozen 6
             obtain ⟨A6, q6, rfl, hq6, hq6m⟩ := own_form hown3))
        have hp := OwnL.push a hown3
        have hbw := (hb.trans (hX.mono hzz)).grown hg3 (by simp; omega) (fun q hq => by have := (hown0.lt q hq).1; omega)
        have hoth := (ho2.below hX).beside hg3 hdis
        have hdis' := hdis.push (ho2.below hX) hat3
        go_roundw
        case rel =>
          refine ⟨k + 1, _, _, by omega, by go_num, e2.far (by simp <;> omega) _, e4.set_ 6 _, e5.far (by simp <;> omega) _, ?_, ?_, hdis', hbw.setCell (by simp; try omega) _⟩
          · rw [HS.out.1]
            exact hp.set_far (by simp; try omega) _
          · rw [HS.out.2]
            exact hoth.set_far (by simp; try omega) _
        case measure => simp [intOf]; omega
      · have hbf : belowB a x = false := by simpa using hbel
        have HS := Lib.hid (hsn.2 hbf)
        have hfl : flt (ofB a) x = false := hbf
        unfold flt at hfl
        clear hsn hbel hbf
        have hX := (Below.refl wr.heap.size wr).alloc (Nat.le_refl _) (.cells (keyCells a).toArray 9)
        have hown0 := ho2.below hX
        have hrd0 := reads_new' wr 9 (keyCells a) 1 rfl
        have hsz0 : (wr.alloc (.cells (keyCells a).toArray 9)).heap.size = wr.heap.size + 1 := by simp
        have y6 := b5.cell 6
        simp only [List.getElem?_toArray, List.getElem?_cons_succ, List.getElem?_cons_zero] at y6
        have l6 := b5.lt
        have l66 : w.heap.size + 1 + 1 < wr.heap.size + 1 := by omega
        clear ha
        go_wp2_with (first
          | ((with_reducible refine hof.mono ?_); rintro e w5 ⟨rfl, rfl⟩)
          | (at_builtin
             refine wpList_append_any _ rfl (.tmp 36) (.tmp 38) _ rfl (w.heap.size + 3) 9 i0 _ 1 16 Tryz.underlying42 hi0 hz0 hz1 hz2 rfl (by omega) (.slice A4 a2.length q4) _ (a2.flatMap keyCells) (by rfl) hown0 _ (some ⟨wr.heap.size, 0, none⟩) 1 1 (keyCells a) (by rfl)
               hrd0 (ky_one a) (by unfold maxLen; omega) (by omega) (by simp; omega) ?_
             intro v3 w3 hown3 hg3 hat3
             have e4 := (b4.alloc (.cells (keyCells a).toArray 9)).grown hg3 (ho2.ne (by omega))
             have e5 := (b5.alloc (.cells (keyCells a).toArray 9)).grown hg3 (ho2.ne (by omega))
             have e2 := (b2.alloc (.cells (keyCells a).toArray 9)).grown hg3 (ho2.ne (by omega))
             have z6 := e5.cell 6
             simp only [List.getElem?_toArray, List.getElem?_cons_succ, List.getElem?_cons_zero] at z6
             have f6 := e5.frozen 6
             obtain ⟨A6, q6, rfl, hq6, hq6m⟩ := own_form hown3))
        have hp := OwnL.push a hown3
        have hbw := (hb.trans (hX.mono hzz)).grown hg3 (by simp; omega) (fun q hq => by have := (hown0.lt q hq).1; omega)
        have hoth := (ho1.below hX).beside hg3 hdis.symm
        have hdis' := hdis.symm.push (ho1.below hX) hat3
        go_roundw
        case rel =>
          refine ⟨k + 1, _, _, by omega, by go_num, e2.far (by simp <;> omega) _, e4.far (by simp <;> omega) _, e5.set_ 6 _, ?_, ?_, hdis'.symm, hbw.setCell (by simp; try omega) _⟩
          · rw [HS.out.1]
            exact hoth.set_far (by simp; try omega) _
          · rw [HS.out.2]
            exact hp.set_far (by simp; try omega) _
        case measure => simp [intOf]; omega
    · have hd1 : decide ((k : Int) < (n1 : Int)) = false := by simp; omega
      rw [List.take_of_length_le (by omega)] at ho1 ho2
      obtain ⟨A3, q3, rfl, hq3, hq3m⟩ := ho1.form
      obtain ⟨A4, q4, rfl, hq4, hq4m⟩ := ho2.form
      have y7 := b2.cell 7
      simp only [List.getElem?_toArray, List.getElem?_cons_succ, List.getElem?_cons_zero] at y7
      have l2' := b2.lt
      have l4' := b4.lt
      have hHv := halve_any A2 n2 c2 p.w x wr ((hw.below WtRel.kept hb).more WtRel.kept hzz) (by omega)
      clear hf1 hf2 hdis
      generalize hkl : keysL p.r x = kl at *
      generalize hkr : keysR p.r x = kr at *
      go_wp2_with (go_at_call 62; fail)
      refine hHv.mono ?_
      rintro e w5 ⟨u1, u2, rfl, o1, o2, -, hb5⟩
      obtain ⟨A5, q5, rfl, hq5, hq5m⟩ := o1.form
      obtain ⟨A6, q6, rfl, hq6, hq6m⟩ := o2.form
      have c4 := b4.below hb5 l4'
      have c5 := b5.below hb5 l5
      have hb6 : Below w.heap.size w w5 := hb.trans (hb5.mono hzz)
      have p1 := ho1.below hb5
      have p2 := ho2.below hb5
      have l45 := c4.lt
      have l55 := c5.lt
      have f4 := c4.frozen 7
      have f5 := c5.frozen 7
      have z4 := c4.cell 7
      have z5 := c5.cell 7
      simp only [List.getElem?_toArray, List.getElem?_cons_succ, List.getElem?_cons_zero] at z4 z5
      clear y7 hHv b2 b4 b5 ho1 ho2
      go_wp2
      have hz5 := hb5.size
      have g4 : Blk (w5.setCell ⟨w.heap.size + 1, 7, none⟩ (.slice A5 (halveL p.w x).length q5)) (w.heap.size + 1) 45 (p.arr (.slice A3 kl.length q3) (.slice A5 (halveL p.w x).length q5)) := c4.set_ 7 _
      have d4 : Blk ((w5.setCell ⟨w.heap.size + 1, 7, none⟩ (.slice A5 (halveL p.w x).length q5)).setCell ⟨w.heap.size + 1 + 1, 7, none⟩ (.slice A6 (halveR p.w x).length q6)) (w.heap.size + 1) 45 (p.arr (.slice A3 kl.length q3) (.slice A5 (halveL p.w x).length q5)) := g4.far (by simp) _
      have g5 := c5.far (p := ⟨w.heap.size + 1, 7, none⟩) (by simp) (.slice A5 (halveL p.w x).length q5)
      have d5 : Blk ((w5.setCell ⟨w.heap.size + 1, 7, none⟩ (.slice A5 (halveL p.w x).length q5)).setCell ⟨w.heap.size + 1 + 1, 7, none⟩ (.slice A6 (halveR p.w x).length q6)) (w.heap.size + 1 + 1) 45 (p.arr (.slice A4 kr.length q4) (.slice A6 (halveR p.w x).length q6)) := g5.set_ 7 _
      have hb7 : Below w.heap.size w ((w5.setCell ⟨w.heap.size + 1, 7, none⟩ (.slice A5 (halveL p.w x).length q5)).setCell ⟨w.heap.size + 1 + 1, 7, none⟩ (.slice A6 (halveR p.w x).length q6)) := (hb6.setCell (by simp) _).setCell (by simp; omega) _
      have r1 := (p1.set_far (p := ⟨w.heap.size + 1, 7, none⟩) (by simp) (.slice A5 (halveL p.w x).length q5)).set_far (p := ⟨w.heap.size + 1 + 1, 7, none⟩) (by simp) (.slice A6 (halveR p.w x).length q6)
      have r2 := (p2.set_far (p := ⟨w.heap.size + 1, 7, none⟩) (by simp) (.slice A5 (halveL p.w x).length q5)).set_far (p := ⟨w.heap.size + 1 + 1, 7, none⟩) (by simp) (.slice A6 (halveR p.w x).length q6)
      have s1 := (o1.set_far (p := ⟨w.heap.size + 1, 7, none⟩) (by simp; omega) (.slice A5 (halveL p.w x).length q5)).set_far (p := ⟨w.heap.size + 1 + 1, 7, none⟩) (by simp; omega) (.slice A6 (halveR p.w x).length q6)
      have s2 := (o2.set_far (p := ⟨w.heap.size + 1, 7, none⟩) (by simp; omega) (.slice A5 (halveL p.w x).length q5)).set_far (p := ⟨w.heap.size + 1 + 1, 7, none⟩) (by simp; omega) (.slice A6 (halveR p.w x).length q6)
      have hsz6 : ((w5.setCell ⟨w.heap.size + 1, 7, none⟩ (.slice A5 (halveL p.w x).length q5)).setCell ⟨w.heap.size + 1 + 1, 7, none⟩ (.slice A6 (halveR p.w x).length q6)).heap.size = w5.heap.size := by simp
      clear g4 g5 c4 c5 p1 p2 o1 o2 f4 f5 z4 z5 hb6
      obtain ⟨w6, he6⟩ : ∃ w6, w6 = ((w5.setCell ⟨w.heap.size + 1, 7, none⟩ (.slice A5 (halveL p.w x).length q5)).setCell ⟨w.heap.size + 1 + 1, 7, none⟩ (.slice A6 (halveR p.w x).length q6)) := ⟨_, rfl⟩
      rw [← he6] at d4 d5 hb7 r1 r2 s1 s2 hsz6 ⊢
      clear he6
      refine wp_region_held_drew (S := fun w' => Blk w' (w.heap.size + 1) 45 (p.arr (.slice A3 kl.length q3) (.slice A5 (halveL p.w x).length q5)) ∧ Blk w' (w.heap.size + 1 + 1) 45 (p.arr (.slice A4 kr.length q4) (.slice A6 (halveR p.w x).length q6))) (by kernel_rfl) ⟨d4, d5⟩ (fun hHeld => ?_)
      refine wpAnyH_take (i := 0) (oi := ⟨some 51, .load 45 (.tmp 4), _, _, _, _⟩) rfl (by kernel_rfl) (by kernel_rfl) (by kernel_rfl) (fun _ _ _ h => h) (yieldsIf_load_row (by rfl) _ _ rfl (w.heap.size + 1) rfl _ _ _ (fun _ h => h.1) rfl rfl (by kernel_rfl)) hHeld ?_
      go_frame
      refine wpAnyH_take (i := 1) (oi := ⟨some 52, .load 45 (.tmp 5), _, _, _, _⟩) rfl (by kernel_rfl) (by kernel_rfl) (by kernel_rfl) (fun _ _ _ h => h) (yieldsIf_load_row (by rfl) _ _ rfl (w.heap.size + 1 + 1) rfl _ _ _ (fun _ h => h.2) rfl rfl (by kernel_rfl)) hHeld ?_
      go_frame
      have k4 := d4.drew.setRow (p.arr (.slice A3 kl.length q3) (.slice A5 (halveL p.w x).length q5))
      have k5 := d5.drew.setRow_far (g' := w.heap.size + 1) (p.arr (.slice A3 kl.length q3) (.slice A5 (halveL p.w x).length q5)) (by omega)
      have kb := below_setRow hb7.drew (g := w.heap.size + 1) (by omega) (p.arr (.slice A3 kl.length q3) (.slice A5 (halveL p.w x).length q5))
      have t1 := (OwnL.drew r1).setRow_far (g := w.heap.size + 1) (by omega) (p.arr (.slice A3 kl.length q3) (.slice A5 (halveL p.w x).length q5))
      have t2 := (OwnL.drew r2).setRow_far (g := w.heap.size + 1) (by omega) (p.arr (.slice A3 kl.length q3) (.slice A5 (halveL p.w x).length q5))
      have t3 := (OwnL.drew s1).setRow_far (g := w.heap.size + 1) (by omega) (p.arr (.slice A3 kl.length q3) (.slice A5 (halveL p.w x).length q5))
      have t4 := (OwnL.drew s2).setRow_far (g := w.heap.size + 1) (by omega) (p.arr (.slice A3 kl.length q3) (.slice A5 (halveL p.w x).length q5))
      refine wpAnyH_store_rowE (i := 2) (by kernel_rfl) rfl rfl _ _ _ rfl (w.heap.size + 1) (p.arr (.slice A3 kl.length q3) (.slice A5 (halveL p.w x).length q5)) (by kernel_rfl) (by kernel_rfl) _ _ d4.drew (by kernel_rfl) rfl (by kernel_rfl) ⟨k4, k5⟩ ?_
      intro w7 hw7
      rw [← hw7] at k4 k5 kb t1 t2 t3 t4
      clear hw7 d4 d5 r1 r2 s1 s2 hHeld
      go_frame
      have m4 := k4.setRow_far (g' := w.heap.size + 1 + 1) (p.arr (.slice A4 kr.length q4) (.slice A6 (halveR p.w x).length q6)) (by omega)
      have m5 := k5.setRow (p.arr (.slice A4 kr.length q4) (.slice A6 (halveR p.w x).length q6))
      have mb := below_setRow kb (g := w.heap.size + 1 + 1) (by omega) (p.arr (.slice A4 kr.length q4) (.slice A6 (halveR p.w x).length q6))
      have v1 := t1.setRow_far (g := w.heap.size + 1 + 1) (by omega) (p.arr (.slice A4 kr.length q4) (.slice A6 (halveR p.w x).length q6))
      have v2 := t2.setRow_far (g := w.heap.size + 1 + 1) (by omega) (p.arr (.slice A4 kr.length q4) (.slice A6 (halveR p.w x).length q6))
      have v3 := t3.setRow_far (g := w.heap.size + 1 + 1) (by omega) (p.arr (.slice A4 kr.length q4) (.slice A6 (halveR p.w x).length q6))
      have v4 := t4.setRow_far (g := w.heap.size + 1 + 1) (by omega) (p.arr (.slice A4 kr.length q4) (.slice A6 (halveR p.w x).length q6))
      refine wpAnyH_store_rowE (i := 3) (by kernel_rfl) rfl rfl _ _ _ rfl (w.heap.size + 1 + 1) (p.arr (.slice A4 kr.length q4) (.slice A6 (halveR p.w x).length q6)) (by kernel_rfl) (by kernel_rfl) _ _ k5 (by kernel_rfl) rfl (by kernel_rfl) ⟨m4, m5⟩ ?_
      intro w8 hw8
      rw [← hw8] at m4 m5 mb v1 v2 v3 v4
      clear hw8 k4 k5 kb t1 t2 t3 t4
      go_frame
      refine wpAnyH_done (by kernel_rfl) ?_ _
      go_wp2
      refine post_cell_cell rfl (by kernel_rfl) (by kernel_rfl) m4 m5 rfl rfl (by kernel_rfl) rfl rfl (by kernel_rfl) ?_
      refine ⟨_, _, _, _, rfl, ?_, ?_, ?_, ?_, mb⟩
      · first | exact v1.mono_base (by omega) | (rw [hkl]; exact v1.mono_base (by omega))
      · exact v3.mono_base (by omega)
      · first | exact v2.mono_base (by omega) | (rw [hkr]; exact v2.mono_base (by omega))
      · exact v4.mono_base (by omega)
end Go.Proofs.YtipacjbegfingaaGreat
/- Plain law: the parts of a state that may be, by any choice of keys, may be; what Divide tells; a state divided at two points. -/
namespace Go.Proofs.YtipacjbegfingaaGreat
set_option linter.unusedVariables false
open Go.RowKit Fl

theorem bl_trans {a b c : ByteArray} (h1 : bl a b = true) (h2 : bl b c = true) : bl a c = true := by
  unfold bl at *
  rw [bytesLess_eq, decide_eq_true_eq] at *
  exact List.lt_trans h1 h2
theorem riseFrom_weak {p : Option ByteArray} {k : ByteArray} {l : List ByteArray} (hp : ∀ q, p = some q → bl q k = true) (h : riseFrom (some k) l = true) : riseFrom p l = true := by
  cases l with
  | nil => rfl
  | cons a l =>
    have h' : (keyB a && bl k a && riseFrom (some a) l) = true := h
    simp only [Bool.and_eq_true] at h'
    obtain ⟨⟨h1, h2⟩, h3⟩ := h'
    cases p with
    | none => show (keyB a && true && riseFrom (some a) l) = true; rw [h1, h3]; rfl
    | some q => show (keyB a && bl q a && riseFrom (some a) l) = true; rw [h1, h3, bl_trans (hp q rfl) h2]; rfl
theorem riseFrom_filter (f : ByteArray → Bool) : ∀ (l : List ByteArray) (p : Option ByteArray), riseFrom p l = true → riseFrom p (l.filter f) = true := by
  intro l
  induction l with
  | nil => intro p _; rfl
  | cons a l ih =>
    intro p h
    by_cases hf : f a = true
    · rw [List.filter_cons_of_pos hf]
      cases p with
      | none =>
        have h' : (keyB a && true && riseFrom (some a) l) = true := h
        rw [Bool.and_eq_true] at h'
        show (keyB a && true && riseFrom (some a) (l.filter f)) = true
        rw [Bool.and_eq_true]
        exact ⟨h'.1, ih _ h'.2⟩
      | some q =>
        have h' : (keyB a && bl q a && riseFrom (some a) l) = true := h
        rw [Bool.and_eq_true] at h'
        show (keyB a && bl q a && riseFrom (some a) (l.filter f)) = true
        rw [Bool.and_eq_true]
        exact ⟨h'.1, ih _ h'.2⟩
    · rw [List.filter_cons_of_neg hf]
      cases p with
      | none =>
        have h' : (keyB a && true && riseFrom (some a) l) = true := h
        rw [Bool.and_eq_true] at h'
        exact ih _ (riseFrom_weak (fun q e => by cases e) h'.2)
      | some q =>
        have h' : (keyB a && bl q a && riseFrom (some a) l) = true := h
        rw [Bool.and_eq_true, Bool.and_eq_true] at h'
        exact ih _ (riseFrom_weak (fun q' e => by injection e with e; subst e; exact h'.1.2) h'.2)
theorem riseB_filter (f : ByteArray → Bool) {l : List ByteArray} (h : riseB l = true) : riseB (l.filter f) = true := by
  unfold riseB at *
  rw [Bool.and_eq_true, decide_eq_true_eq] at *
  exact ⟨riseFrom_filter f l none h.1, by have := List.length_filter_le f l; omega⟩

def hsF (f : ByteArray → Bool) (H : List Hs) : List Hs := H.filter fun h => f h.key
def wtF (f : ByteArray → Bool) (l : List Wt) : List Wt := l.filter fun a => f a.key
def pnF (f : ByteArray → Bool) (p : Pn) : Pn := ⟨p.t, p.s, p.r.filter f, wtF f p.w⟩
theorem wtF_keys (f : ByteArray → Bool) : ∀ l : List Wt, (wtF f l).map (·.key) = (l.map (·.key)).filter f := by
  intro l
  unfold wtF
  induction l with
  | nil => rfl
  | cons a l ih =>
    by_cases hf : f a.key = true
    · rw [List.filter_cons_of_pos (by exact hf), List.map_cons, List.map_cons, List.filter_cons_of_pos hf, ih]
    · rw [List.filter_cons_of_neg (by exact hf), List.map_cons, List.filter_cons_of_neg hf, ih]
theorem allMay_mem : ∀ {l : List Wt}, allMay l = true ↔ ∀ a ∈ l, a.v.may = true := by
  intro l
  induction l with
  | nil => simp [allMay]
  | cons a l ih =>
    show (a.v.may && allMay l) = true ↔ _
    rw [Bool.and_eq_true, ih]
    simp
theorem pendE_zero {p : Pn} : pendE p = 0 ↔ p.t.may = true ∧ p.s.may = true ∧ p.s.zero = false ∧ riseB p.r = true ∧ riseB (p.w.map (·.key)) = true ∧ allMay p.w = true := by
  unfold pendE
  cases p.t.may <;> cases p.s.may <;> cases p.s.zero <;> cases riseB p.r <;> cases riseB (p.w.map (·.key)) <;> cases allMay p.w <;> simp
theorem pendE_pnF (f : ByteArray → Bool) {p : Pn} (h : pendE p = 0) : pendE (pnF f p) = 0 := by
  rw [pendE_zero] at *
  obtain ⟨h1, h2, h3, h4, h5, h6⟩ := h
  refine ⟨h1, h2, h3, riseB_filter f h4, ?_, ?_⟩
  · show riseB ((wtF f p.w).map (·.key)) = true
    rw [wtF_keys]
    exact riseB_filter f h5
  · rw [allMay_mem] at *
    exact fun a ha => h6 a (List.mem_filter.1 ha).1
theorem wrL_F {f : ByteArray → Bool} {k : ByteArray} {l : List Wt} (h : wrL k (wtF f l) = true) : wrL k l = true := by
  unfold wrL at *
  rw [List.any_eq_true] at *
  obtain ⟨a, ha, e⟩ := h
  exact ⟨a, (List.mem_filter.1 ha).1, e⟩
theorem inL_F {f : ByteArray → Bool} {k : ByteArray} {l : List ByteArray} (h : inL k (l.filter f) = true) : inL k l = true := by
  unfold inL at *
  rw [List.any_eq_true] at *
  obtain ⟨a, ha, e⟩ := h
  exact ⟨a, (List.mem_filter.1 ha).1, e⟩
theorem clashB_F {f : ByteArray → Bool} {p x : Pn} (h : clashB (pnF f p) (pnF f x) = true) : clashB p x = true := by
  unfold clashB at *
  rw [Bool.or_eq_true, List.any_eq_true, List.any_eq_true] at *
  rcases h with ⟨a, ha, h⟩ | ⟨k, hk, h⟩
  · refine .inl ⟨a, (List.mem_filter.1 ha).1, ?_⟩
    rw [Bool.or_eq_true] at *
    rcases h with h | h
    · exact .inl (wrL_F h)
    · exact .inr (inL_F h)
  · exact .inr ⟨k, (List.mem_filter.1 hk).1, wrL_F h⟩
theorem versOf_F {f : ByteArray → Bool} {key : ByteArray} (hf : f key = true) (H : List Hs) : versOf (hsF f H) key = versOf H key := by
  unfold versOf hsF
  generalize ([] : List Vn) = acc
  induction H generalizing acc with
  | nil => rfl
  | cons h H ih =>
    rw [List.foldl_cons]
    by_cases hk : f h.key = true
    · rw [List.filter_cons_of_pos (by exact hk), List.foldl_cons]
      exact ih _
    · rw [List.filter_cons_of_neg (by exact hk)]
      have hne : (h.key.toList == key.toList) = false := by
        rw [Bool.eq_false_iff]
        intro e
        exact hk (by rw [bytes_toList (beq_iff_eq.1 e)]; exact hf)
      rw [hne]
      exact ih _
theorem oldB_F {f : ByteArray → Bool} {H : List Hs} {x : Pn} (h : oldB (hsF f H) (pnF f x) = true) : oldB H x = true := by
  unfold oldB at *
  rw [List.any_eq_true] at *
  obtain ⟨a, ha, e⟩ := h
  obtain ⟨h1, h2⟩ := List.mem_filter.1 ha
  rw [versOf_F h2] at e
  exact ⟨a, h1, e⟩
theorem pendsE_cons {H : List Hs} {m l : List Pn} {x : Pn} : pendsE H m (x :: l) = 0 ↔ pendE x = 0 ∧ (m.any fun y => decide (y.t = x.t)) = false ∧ lockedB m x = false ∧ oldB H x = false ∧ pendsE H (m ++ [x]) l = 0 := by
  show (if pendE x ≠ 0 then pendE x else if (m.any fun y => decide (y.t = x.t)) then 9 else if lockedB m x then 18 else if oldB H x then 20 else pendsE H (m ++ [x]) l) = 0 ↔ _
  by_cases h : pendE x = 0
  · rw [if_neg (fun hn => hn h)]
    cases (m.any fun y => decide (y.t = x.t)) <;> cases lockedB m x <;> cases oldB H x <;> simp [h]
  · rw [if_pos h]
    simp [h]
theorem pends_F (f : ByteArray → Bool) (g : Pn → Bool) (H : List Hs) : ∀ (l m : List Pn), pendsE H m l = 0 → pendsE (hsF f H) ((m.map (pnF f)).filter g) ((l.map (pnF f)).filter g) = 0 := by
  intro l
  induction l with
  | nil => intro m _; rfl
  | cons x l ih =>
    intro m h
    rw [pendsE_cons] at h
    obtain ⟨h1, h2, h3, h4, h5⟩ := h
    have ih' := ih _ h5
    rw [List.map_append, List.filter_append] at ih'
    rw [List.map_cons]
    by_cases hg : g (pnF f x) = true
    · rw [List.filter_cons_of_pos hg, pendsE_cons]
      refine ⟨pendE_pnF f h1, ?_, ?_, ?_, ?_⟩
      · rw [List.any_eq_false] at *
        intro y hy
        obtain ⟨hy1, _⟩ := List.mem_filter.1 hy
        obtain ⟨z, hz, rfl⟩ := List.mem_map.1 hy1
        exact h2 z hz
      · unfold lockedB at *
        rw [List.any_eq_false] at *
        intro y hy
        obtain ⟨hy1, _⟩ := List.mem_filter.1 hy
        obtain ⟨z, hz, rfl⟩ := List.mem_map.1 hy1
        exact fun e => h3 z hz (clashB_F e)
      · rw [Bool.eq_false_iff]
        intro e
        rw [oldB_F e] at h4
        cases h4
      · have e : ([x].map (pnF f)).filter g = [pnF f x] := by rw [List.map_cons, List.map_nil, List.filter_cons_of_pos hg]; rfl
        rw [e] at ih'
        exact ih'
    · rw [List.filter_cons_of_neg hg]
      have e : ([x].map (pnF f)).filter g = [] := by rw [List.map_cons, List.map_nil, List.filter_cons_of_neg hg]; rfl
      rw [e, List.append_nil] at ih'
      exact ih'
theorem histB_weak {p k : ByteArray} {h : Hs} (hp : bl p k = true) (hh : histB k h = true) : histB p h = true := by
  unfold histB at *
  simp only [← bl_le] at *
  simp only [Bool.and_eq_true] at *
  exact ⟨⟨⟨hh.1.1.1, bl_trans hp hh.1.1.2⟩, hh.1.2⟩, hh.2⟩
theorem histB_lt {p : ByteArray} {h : Hs} (hh : histB p h = true) : bl p h.key = true := by
  unfold histB at hh
  simp only [← bl_le] at hh
  simp only [Bool.and_eq_true] at hh
  exact hh.1.1.2
theorem histsB_weak {p k : ByteArray} {l : List Hs} (hp : bl p k = true) (h : histsB k l = true) : histsB p l = true := by
  cases l with
  | nil => rfl
  | cons a l =>
    have h' : (histB k a && histsB a.key l) = true := h
    rw [Bool.and_eq_true] at h'
    show (histB p a && histsB a.key l) = true
    rw [histB_weak hp h'.1, h'.2]; rfl
theorem histsB_F (f : ByteArray → Bool) : ∀ (l : List Hs) (p : ByteArray), histsB p l = true → histsB p (hsF f l) = true := by
  intro l
  unfold hsF
  induction l with
  | nil => intro p _; rfl
  | cons a l ih =>
    intro p h
    have h' : (histB p a && histsB a.key l) = true := h
    rw [Bool.and_eq_true] at h'
    by_cases hf : f a.key = true
    · rw [List.filter_cons_of_pos (by exact hf)]
      show (histB p a && histsB a.key _) = true
      rw [h'.1, ih _ h'.2]; rfl
    · rw [List.filter_cons_of_neg (by exact hf)]
      exact ih p (histsB_weak (histB_lt h'.1) h'.2)
theorem load_F (f : ByteArray → Bool) (g : Pn → Bool) {H : List Hs} {Q : List Pn} (h : loadE H Q = 0) : loadE (hsF f H) ((Q.map (pnF f)).filter g) = 0 := by
  unfold loadE at *
  by_cases hh : histsB ⟨#[]⟩ H = true
  · rw [if_pos hh] at h
    rw [if_pos (histsB_F f H _ hh)]
    exact pends_F f g H Q [] h
  · rw [if_neg hh] at h; cases h

/-- does it read or write something? -/
def fullP (p : Pn) : Bool := decide (0 < p.r.length + p.w.length)
/-- a state's part -/
def partS (f : ByteArray → Bool) (g : Pn → Bool) (r : Rg) (a b : Sp) (s : Stt) : Stt := ⟨r, a, b, hsF f s.h, (s.p.map (pnF f)).filter g⟩
theorem mayS_part (f : ByteArray → Bool) (g : Pn → Bool) (r : Rg) (a b : Sp) {s : Stt} (h : mayS s = true) (hr : mayR r = true) (ha : a.may = true) (hb : b.may = true) (hin : ∀ k, inK s.r k = true → f k = true → inK r k = true) : mayS (partS f g r a b s) = true := by
  unfold mayS at *
  simp only [Bool.and_eq_true, decide_eq_true_eq, List.all_eq_true] at *
  obtain ⟨⟨⟨⟨⟨h1, h2⟩, h3⟩, h4⟩, h5⟩, h6⟩ := h
  refine ⟨⟨⟨⟨⟨hr, ha⟩, hb⟩, load_F f g h4⟩, ?_⟩, ?_⟩
  · intro x hx
    obtain ⟨hx1, hx2⟩ := List.mem_filter.1 hx
    exact hin _ (h5 x hx1) hx2
  · intro x hx
    obtain ⟨hx1, _⟩ := List.mem_filter.1 hx
    obtain ⟨y, hy, rfl⟩ := List.mem_map.1 hx1
    have h7 := h6 y hy
    unfold inP at *
    simp only [Bool.and_eq_true, List.all_eq_true] at *
    refine ⟨fun k hk => ?_, fun a ha => ?_⟩
    · obtain ⟨k1, k2⟩ := List.mem_filter.1 hk
      exact hin _ (h7.1 k k1) k2
    · obtain ⟨k1, k2⟩ := List.mem_filter.1 ha
      exact hin _ (h7.2 a k1) k2
def yesP (_ : Pn) : Bool := true
/-- what Divide tells -/
def divE (s : Stt) (x : Nat) (child : Int) (st fl : Sp) : Int := if !mayS s then 4 else if !st.may || !fl.may then 17 else splitE s.r x child
def zeroS : Stt := ⟨⟨0, 0, 0, 0⟩, ⟨0, 0, 0⟩, ⟨0, 0, 0⟩, [], []⟩
def leftS (s : Stt) (x : Nat) (child : Int) : Stt := ⟨splitL s.r x child, s.f, s.c, hsF (fun k => belowB k x) s.h, s.p.map (pnF fun k => belowB k x)⟩
def rightS (s : Stt) (x : Nat) (child : Int) (st fl : Sp) : Stt := ⟨splitU s.r x child, fl, st, hsF (fun k => !belowB k x) s.h, (s.p.map (pnF fun k => !belowB k x)).filter fullP⟩
def divL (s : Stt) (x : Nat) (child : Int) (st fl : Sp) : Stt := if divE s x child st fl = 0 then leftS s x child else zeroS
def divR (s : Stt) (x : Nat) (child : Int) (st fl : Sp) : Stt := if divE s x child st fl = 0 then rightS s x child st fl else zeroS
theorem filter_yes : ∀ l : List Pn, l.filter yesP = l := fun l => by
  rw [List.filter_eq_self]; intro _ _; rfl
theorem leftS_part (s : Stt) (x : Nat) (child : Int) : leftS s x child = partS (fun k => belowB k x) yesP (splitL s.r x child) s.f s.c s := by
  unfold leftS partS; rw [filter_yes]
theorem rightS_part (s : Stt) (x : Nat) (child : Int) (st fl : Sp) : rightS s x child st fl = partS (fun k => !belowB k x) fullP (splitU s.r x child) fl st s := rfl
theorem split_zero {r : Rg} {x : Nat} {child : Int} (h : splitE r x child = 0) : r.ep ≠ 9223372036854775807 ∧ mayR r = true ∧ 1 ≤ child ∧ child ≤ 12 ∧ child ≠ r.id ∧ ptB x = true ∧ flt r.lo x = true ∧ flt x r.hi = true ∧
    splitL r x child = ⟨r.id, r.ep + 1, r.lo, x⟩ ∧ splitU r x child = ⟨child, 0, x, r.hi⟩ := by
  have hL : splitL r x child = ⟨r.id, r.ep + 1, r.lo, x⟩ := by unfold splitL; rw [if_pos h]
  have hU : splitU r x child = ⟨child, 0, x, r.hi⟩ := by unfold splitU; rw [if_pos h]
  unfold splitE at h
  by_cases hb : splitBad r x child = true
  · rw [if_pos hb] at h; omega
  · rw [if_neg hb] at h
    by_cases hf : (flt r.lo x && flt x r.hi) = true
    · rw [Bool.and_eq_true] at hf
      unfold splitBad at hb
      simp at hb
      obtain ⟨⟨⟨⟨⟨b1, b2⟩, b3⟩, b4⟩, b5⟩, b6⟩ := hb
      exact ⟨b1, b2, by omega, by omega, b5, b6, hf.1, hf.2, hL, hU⟩
    · rw [if_neg hf] at h; omega
theorem divE_zero {s : Stt} {x : Nat} {child : Int} {st fl : Sp} : divE s x child st fl = 0 ↔ mayS s = true ∧ st.may = true ∧ fl.may = true ∧ splitE s.r x child = 0 := by
  unfold divE
  cases mayS s <;> cases st.may <;> cases fl.may <;> simp
theorem mayS_r {s : Stt} (h : mayS s = true) : mayR s.r = true ∧ s.f.may = true ∧ s.c.may = true := by
  unfold mayS at h
  simp only [Bool.and_eq_true] at h
  exact ⟨h.1.1.1.1.1, h.1.1.1.1.2, h.1.1.1.2⟩
theorem mayR_mk {i e : Int} {a b : Nat} (h1 : 1 ≤ i) (h2 : i ≤ 12) (h3 : 0 ≤ e) (h4 : ptB a = true) (h5 : ptB b = true) (h6 : flt a b = true) : mayR ⟨i, e, a, b⟩ = true := by
  unfold mayR
  simp only [Bool.and_eq_true, decide_eq_true_eq]
  exact ⟨⟨⟨⟨⟨h1, h2⟩, h3⟩, h4⟩, h5⟩, h6⟩
theorem mayR_of {r : Rg} (h : mayR r = true) : 1 ≤ r.id ∧ r.id ≤ 12 ∧ 0 ≤ r.ep ∧ ptB r.lo = true ∧ ptB r.hi = true ∧ flt r.lo r.hi = true := by
  unfold mayR at h
  simp only [Bool.and_eq_true, decide_eq_true_eq] at h
  obtain ⟨⟨⟨⟨⟨h1, h2⟩, h3⟩, h4⟩, h5⟩, h6⟩ := h
  exact ⟨h1, h2, h3, h4, h5, h6⟩
theorem inR_left {r : Rg} {x y : Nat} {i e : Int} (h : inR r y = true) (hx : flt y x = true) : inR ⟨i, e, r.lo, x⟩ y = true := by
  unfold inR at *
  rw [Bool.and_eq_true] at *
  exact ⟨h.1, hx⟩
theorem inR_right {r : Rg} {x y : Nat} {i e : Int} (h : inR r y = true) (hp : ptB x = true) (hx : flt y x = false) : inR ⟨i, e, x, r.hi⟩ y = true := by
  unfold inR at *
  rw [Bool.and_eq_true] at *
  refine ⟨?_, h.2⟩
  have hx1 : x ≤ 9218868437227405312 := by unfold ptB at hp; rw [decide_eq_true_eq] at hp; omega
  have h2 := h.2
  simp only at *
  rw [flt_K] at hx h2
  rw [fgt_K, feq_K]
  rw [K_pos hx1] at *
  cases hk : K y with
  | none => rw [hk] at h2; simp at h2
  | some z =>
    rw [hk] at hx
    simp only [decide_eq_false_iff_not] at hx
    simp only [Bool.or_eq_true, decide_eq_true_eq]
    omega
/-- the halves may be -/
theorem left_may {s : Stt} {x : Nat} {child : Int} (h : mayS s = true) (he : splitE s.r x child = 0) : mayS (leftS s x child) = true := by
  obtain ⟨r1, r2, r3⟩ := mayS_r h
  obtain ⟨b1, b2, b3, b4, b5, b6, b7, b8, hL, hU⟩ := split_zero he
  obtain ⟨m1, m2, m3, m4, m5, m6⟩ := mayR_of r1
  rw [leftS_part]
  refine mayS_part _ _ _ _ _ h ?_ r2 r3 ?_
  · rw [hL]; exact mayR_mk m1 m2 (by omega) m4 b6 b7
  · intro k hk hb
    rw [hL]
    exact inR_left hk hb
theorem right_may {s : Stt} {x : Nat} {child : Int} {st fl : Sp} (h : mayS s = true) (he : splitE s.r x child = 0) (h1 : st.may = true) (h2 : fl.may = true) : mayS (rightS s x child st fl) = true := by
  obtain ⟨r1, r2, r3⟩ := mayS_r h
  obtain ⟨b1, b2, b3, b4, b5, b6, b7, b8, hL, hU⟩ := split_zero he
  obtain ⟨m1, m2, m3, m4, m5, m6⟩ := mayR_of r1
  rw [rightS_part]
  refine mayS_part _ _ _ _ _ h ?_ h2 h1 ?_
  · rw [hU]; exact mayR_mk b3 b4 (by omega) b6 m5 b8
  · intro k hk hb
    rw [hU]
    exact inR_right hk b6 (by unfold belowB at hb; simpa using hb)
end Go.Proofs.YtipacjbegfingaaGreat
/- The walks of raceref15.Texts, raceref10.TxnLess, raceref11.in. -/
namespace Go.Proofs.YtipacjbegfingaaGreat
set_option linter.unusedVariables false
open Go.RowKit Fl
attribute [local go_sem] run_store_float

/-- does a transaction stand ahead of another one? -/
def Tx.less (a b : Tx) : Bool := if a.c ≠ b.c then decide (a.c < b.c) else if a.l ≠ b.l then decide (a.l < b.l) else decide (a.s < b.s)
set_option maxHeartbeats 1000000 in
theorem rtxnLess_any (a b : Tx) (w : World) : Calls Tryz.prog 103 #[a.val, b.val] w fun e w' => e = .returned (.bool (a.less b)) ∧ Below w.heap.size w w' := by
  by_cases h1 : a.c = b.c
  · by_cases h2 : a.l = b.l
    · have hr : a.less b = decide (a.s < b.s) := by unfold Tx.less; simp [h1, h2]
      have hq1 : (a.c != b.c) = false := by simp [h1]
      have hq2 : (a.l != b.l) = false := by simp [h2]
      rw [hr]
      clear hr h1 h2
      go_enter Tryz.func103, Tryz.ntmps103
      go_wp2
      go_ret
      exact ⟨rfl, by go_grown⟩
    · have hr : a.less b = decide (a.l < b.l) := by unfold Tx.less; simp [h1, h2]
      have hq1 : (a.c != b.c) = false := by simp [h1]
      have hq2 : (a.l != b.l) = true := by simp [h2]
      rw [hr]
      clear hr h1 h2
      go_enter Tryz.func103, Tryz.ntmps103
      go_wp2
      go_ret
      exact ⟨rfl, by go_grown⟩
  · have hr : a.less b = decide (a.c < b.c) := by unfold Tx.less; simp [h1]
    have hq1 : (a.c != b.c) = true := by simp [h1]
    rw [hr]
    clear hr h1
    go_enter Tryz.func103, Tryz.ntmps103
    go_wp2
    go_ret
    exact ⟨rfl, by go_grown⟩
set_option maxRecDepth 100000 in
set_option maxHeartbeats 1000000 in
theorem rinK_any (r : Rg) (k : ByteArray) (w : World) (hk : k.size ≤ maxLen) :
    Calls Tryz.prog 40 #[r.val, .string k] w fun e w' => e = .returned (.bool (inK r k)) ∧ Below w.heap.size w w' := by
  have ho := fun w => rof_any k w hk
  have hi := fun w => rin_any r (ofB k) w
  obtain ⟨l2, c0, c1, c2, c3, -⟩ := (Blk.new w 24 #[.int .i64 r.id, .int .i64 r.ep, .float .f64 r.lo, .float .f64 r.hi]).four
  have hX : Below w.heap.size w (w.alloc (.cells #[.int .i64 r.id, .int .i64 r.ep, .float .f64 r.lo, .float .f64 r.hi] 24)) := by go_grown
  go_enter Tryz.func40, Tryz.ntmps40
  go_wp2
  generalize (w.alloc (.cells #[.int .i64 r.id, .int .i64 r.ep, .float .f64 r.lo, .float .f64 r.hi] 24)) = w0 at *
  go_region_held3 (fun w' => w'.cell? ⟨w.heap.size, 0, none⟩ = some (.int .i64 r.id) ∧ w'.cell? ⟨w.heap.size, 1, none⟩ = some (.int .i64 r.ep) ∧ w'.cell? ⟨w.heap.size, 2, none⟩ = some (.float .f64 r.lo) ∧ w'.cell? ⟨w.heap.size, 3, none⟩ = some (.float .f64 r.hi))
    (first | exact ⟨c0, c1, c2, c3⟩ | exact ⟨(hb1.cell (p := ⟨_, _, none⟩) l2).trans c0, (hb1.cell (p := ⟨_, _, none⟩) l2).trans c1, (hb1.cell (p := ⟨_, _, none⟩) l2).trans c2, (hb1.cell (p := ⟨_, _, none⟩) l2).trans c3⟩)
    (first | ((with_reducible refine (ho _).mono ?_); rintro e w1 ⟨rfl, rfl⟩) | ((with_reducible refine (hi _).mono ?_); rintro e w1 ⟨rfl, hw1⟩; have hb1 : Below w0.heap.size w0 w1 := by rw [← hw1]; exact (Below.refl _ _).drew.alloc (Nat.le_refl _) _))
  go_wp2
  go_ret
  exact ⟨rfl, hX.trans (hb1.mono hX.size)⟩
end Go.Proofs.YtipacjbegfingaaGreat
