/- The walk of hand.halves. -/
import Derived.Deep.RegionLaw
import Derived.Test.YtipacjbegfingaaKaab
import Derived.Test.YtipacjbegfingaaKaac
import Derived.Test.YtipacjbegfingaaKaae
import Derived.Test.YtipacjbegfingaaKabd
namespace Go.Proofs.Ytipacjbegfingaa
open Go.RowKit Fl
attribute [local go_sem] run_store_float

theorem post_cell_cell {P : Program} {fn : Func} {R : Ending → World → Prop} {tmps : Array Value} {w : World} {p q : Tmp} {g k : Nat} {t ty t' ty' : TypeId} {cs cs' : Array Value} {d d' : TypeDesc} (h : fn.results = #[.cell p ty, .cell q ty']) (hp : tmps.getD p undef = .pointer (some ⟨g, 0, none⟩)) (hq : tmps.getD q undef = .pointer (some ⟨k, 0, none⟩))
    (hb : Blk w g t cs) (hb' : Blk w k t' cs')
    (hu : P.underlying ty = some d) (hd : (match d with | .struct _ | .array _ _ => true | _ => false) = true) (hi : (P.info? ty).map (·.size) = some cs.size)
    (hu' : P.underlying ty' = some d') (hd' : (match d' with | .struct _ | .array _ _ => true | _ => false) = true) (hi' : (P.info? ty').map (·.size) = some cs'.size)
    (hR : R (.returned (.tuple #[.agg cs, .agg cs'])) w) : bodyPost P fn R .ret ⟨tmps, []⟩ w := by
  refine bodyPost_ret ?_ rfl hR
  have hp' : tmps[p]?.getD undef = .pointer (some ⟨g, 0, none⟩) := by simpa using hp
  have hq' : tmps[q]?.getD undef = .pointer (some ⟨k, 0, none⟩) := by simpa using hq
  simp [results, h, hp', hq', asAddr, run_loadVar_blk hb hu hd hi, run_loadVar_blk hb' hu' hd' hi', Sem.run_bind, Result.andThen]
/-- one store of a whole struct comes up alone; the world behind it is told -/
theorem wpAnyH_store_rowE {P : Program} {md : Region.Mode} {ops : Array Oper} {Q : Exit → Act → World → Prop} {S : World → Prop} {fuel : Nat} {listed : Array Bool} {a : Act} {w : World} {i : Nat} {op : Oper}
    (hr : Region.ready md ops listed = [i]) (ho : ops[i]? = some op) (hg : op.guard = none) (ty : TypeId) (x y : Operand) (hop : op.op = .store ty x y)
    (g : Nat) (cells : Array Value) (hx : a.eval x = .pointer (some ⟨g, 0, none⟩)) (hy : a.eval y = .agg cells) (t : TypeId) (old : Array Value) (hb : Blk w g t old) (hi : (P.info? ty).map (·.size) = some cells.size) (hold : old.size = cells.size) (h1 : cells.all (·.oneCell') = true)
    (hS : S (w.setRow g cells)) (h : ∀ w', w' = w.setRow g cells → wpAnyH P md ops Q S fuel (listed.setIfInBounds i true) (a.put op.dst undef) w') : wpAnyH P md ops Q S (fuel + 1) listed a w := by
  refine wpAnyH_all hr (by simp) (fun j hj => ?_)
  obtain rfl : j = i := by simpa using hj
  refine wpOp_step ho (fun K' hK => ?_)
  have hw : Region.wanted op (yielded ops a.tmps) = true := by simp [Region.wanted, hg]
  rw [if_pos hw]
  exact wp_store_row ty x y hop g cells hx hy t old hb hi hold h1 (hK _ _ ⟨hS, h _ rfl⟩)
theorem yieldsIf_load_row {P : Program} {ops : Array Oper} {S : World → Prop} {op : Oper} {a : Act} (hw : Region.wanted op (yielded ops a.tmps) = true) (ty : TypeId) (x : Operand) (ho : op.op = .load ty x)
    (g : Nat) (hx : a.eval x = .pointer (some ⟨g, 0, none⟩)) (t : TypeId) (cs : Array Value) (d : TypeDesc) (hS : ∀ w, S w → Blk w g t cs)
    (hu : P.underlying ty = some d) (hd : (match d with | .struct _ | .array _ _ => true | _ => false) = true) (hi : (P.info? ty).map (·.size) = some cs.size) : YieldsIf P ops S op (.agg cs) a :=
  .inl ⟨hw, fun w hw' => by
    unfold execOp
    simp only [ho, hx, Instr.loadAt, Instr.sureAddr, Sem.run_bind, Sem.run_pure, Result.andThen_ok, run_loadVar_row w g t ty cs (0, 0) d (hS w hw') hu hd hi]⟩
theorem OwnL.ne {α : Type} {f : α → List Value} {E size base : Nat} {w : World} {v : Value} {l : List α} (h : OwnL f E size base w v l) {g : Nat} (hg : g < base) : some g ≠ v.ownBlock := by
  rcases h.far hg with e | e
  · rw [e]; simp
  · exact fun e2 => e e2.symm

theorem OwnL.drew {α : Type} {f : α → List Value} {E size base : Nat} {w : World} {v : Value} {l : List α} (h : OwnL f E size base w v l) : OwnL f E size base w.drew v l := World.ownsRow.drew h
def keysL (l : List ByteArray) (x : Nat) : List ByteArray := l.filter fun k => belowB k x
def keysR (l : List ByteArray) (x : Nat) : List ByteArray := l.filter fun k => !belowB k x
theorem keys_snoc {l : List ByteArray} {k : Nat} {a : ByteArray} (p : Nat) (h : l[k]? = some a) :
    (belowB a p = true → keysL (l.take (k + 1)) p = keysL (l.take k) p ++ [a] ∧ keysR (l.take (k + 1)) p = keysR (l.take k) p) ∧
    (belowB a p = false → keysL (l.take (k + 1)) p = keysL (l.take k) p ∧ keysR (l.take (k + 1)) p = keysR (l.take k) p ++ [a]) := by
  unfold keysL keysR
  rw [List.take_add_one, h, List.filter_append, List.filter_append]
  constructor
  · intro hb; simp [hb]
  · intro hb; simp [hb]
def pnL (p : Pn) (x : Nat) : Pn := ⟨p.t, p.s, keysL p.r x, halveL p.w x⟩
def pnR (p : Pn) (x : Nat) : Pn := ⟨p.t, p.s, keysR p.r x, halveR p.w x⟩
def HalfRel (p : Pn) (x : Nat) (A1 : Value) (A2 : Value) (w : World) (i : Value) (wr : World) : Prop :=
  ∃ (k : Nat) (v1 v2 : Value), k ≤ p.r.length ∧ i = .int .i64 (k : Int) ∧ Blk wr w.heap.size 47 (p.arr A1 A2) ∧ Blk wr (w.heap.size + 1) 47 (p.arr v1 (.slice none 0 0)) ∧ Blk wr (w.heap.size + 1 + 1) 47 (p.arr v2 (.slice none 0 0)) ∧
    OwnL keyCells 9 1 (w.heap.size + 3) wr v1 (keysL (p.r.take k) x) ∧ OwnL keyCells 9 1 (w.heap.size + 3) wr v2 (keysR (p.r.take k) x) ∧ Dis v1 v2 ∧ Below w.heap.size w wr

set_option maxRecDepth 100000 in
set_option maxHeartbeats 4000000 in
theorem halves_any (p : Pn) (x : Nat) (A1 A2 : Option Addr) (n1 n2 c1 c2 : Nat) (w : World) (hr : Sl KyRel 1 w w.heap.size A1 n1 p.r) (hw : Sl WtRel 4 w w.heap.size A2 n2 p.w) (hn1 : n1 ≤ 1000000) (hn2 : n2 ≤ 1000000) :
    Calls Try.prog 34 #[p.val (.slice A1 n1 c1) (.slice A2 n2 c2), .float .f64 x] w fun e w' => ∃ r1 q1 r2 q2, e = .returned (.tuple #[(pnL p x).val r1 q1, (pnR p x).val r2 q2]) ∧
      OwnL keyCells 9 1 w.heap.size w' r1 (keysL p.r x) ∧ OwnL Wt.cells 96 4 w.heap.size w' q1 (halveL p.w x) ∧ OwnL keyCells 9 1 w.heap.size w' r2 (keysR p.r x) ∧ OwnL Wt.cells 96 4 w.heap.size w' q2 (halveR p.w x) ∧ Below w.heap.size w w' := by
  obtain ⟨i0, hi0, hz0, hz1, hz2⟩ := info_parts ky_info
  have hl := hr.1
  have hge : n1 ≤ p.r.length := by omega
  have hle : p.r.length ≤ n1 := by omega
  clear hl
  go_enter Try.func34, Try.ntmps34
  go_wp2
  have i2 : Blk (((w.alloc (.cells (p.arr (.slice A1 n1 c1) (.slice A2 n2 c2)) 47)).alloc (.cells zeroPn 47)).alloc (.cells zeroPn 47)) w.heap.size 47 (p.arr (.slice A1 n1 c1) (.slice A2 n2 c2)) := ((Blk.new _ _ _).alloc _).alloc _
  have i4 : Blk (((w.alloc (.cells (p.arr (.slice A1 n1 c1) (.slice A2 n2 c2)) 47)).alloc (.cells zeroPn 47)).alloc (.cells zeroPn 47)) (w.heap.size + 1) 47 zeroPn := (Blk.new' _ _ (by simp)).alloc _
  have i5 : Blk (((w.alloc (.cells (p.arr (.slice A1 n1 c1) (.slice A2 n2 c2)) 47)).alloc (.cells zeroPn 47)).alloc (.cells zeroPn 47)) (w.heap.size + 1 + 1) 47 zeroPn := Blk.new' _ _ (by simp)
  have hX : Below w.heap.size w (((w.alloc (.cells (p.arr (.slice A1 n1 c1) (.slice A2 n2 c2)) 47)).alloc (.cells zeroPn 47)).alloc (.cells zeroPn 47)) := by go_grown
  obtain ⟨w0, hw0e⟩ : ∃ w0, w0 = (((w.alloc (.cells (p.arr (.slice A1 n1 c1) (.slice A2 n2 c2)) 47)).alloc (.cells zeroPn 47)).alloc (.cells zeroPn 47)) := ⟨_, rfl⟩
  rw [← hw0e] at i2 i4 i5 hX
  have hsz : w0.heap.size = w.heap.size + 3 := by rw [hw0e]; simp
  refine wp_region_held_drew (S := fun w' => Blk w' w.heap.size 47 (p.arr (.slice A1 n1 c1) (.slice A2 n2 c2))) (by kernel_rfl) (by rw [hw0e] at i2; exact i2) (fun hHeld => ?_)
  refine wpAnyH_take (i := 0) (v := .pointer (some ⟨w.heap.size, 0, none⟩)) rfl (by kernel_rfl) (by kernel_rfl) (by kernel_rfl) (fun _ _ _ h => h) (Or.inl ⟨by kernel_rfl, fun W hSw => by clear hSw; go_simp⟩) hHeld ?_
  go_frame
  refine wpAnyH_take (i := 1) rfl (by kernel_rfl) (by kernel_rfl) (by kernel_rfl) (fun _ _ _ h => h) (yieldsIf_load_mid (by kernel_rfl) _ _ rfl w.heap.size 0 rfl [.int .i64 p.t.c, .int .i64 p.t.l, .int .i64 p.t.s] _ (fun W hSw => Blk.range hSw 0 _ (three_of rfl rfl rfl)) rfl rfl (by kernel_rfl)) hHeld ?_
  go_frame
  refine wpAnyH_take (i := 2) (v := .pointer (some ⟨w.heap.size, 3, none⟩)) rfl (by kernel_rfl) (by kernel_rfl) (by kernel_rfl) (fun _ _ _ h => h) (Or.inl ⟨by kernel_rfl, fun W hSw => by clear hSw; go_simp⟩) hHeld ?_
  go_frame
  refine wpAnyH_take (i := 3) rfl (by kernel_rfl) (by kernel_rfl) (by kernel_rfl) (fun _ _ _ h => h) (yieldsIf_load_mid (by kernel_rfl) _ _ rfl w.heap.size 3 rfl [.int .i64 p.s.w, .int .i64 p.s.l, .int .i64 p.s.n] _ (fun W hSw => Blk.range hSw 3 _ (three_of rfl rfl rfl)) rfl rfl (by kernel_rfl)) hHeld ?_
  go_frame
  refine wpAnyH_take (i := 4) (v := .agg (p.arr (.slice none 0 0) (.slice none 0 0))) rfl (by kernel_rfl) (by kernel_rfl) (by kernel_rfl) (fun _ _ _ h => h) (Or.inl ⟨by kernel_rfl, fun W hSw => by clear hSw; go_simp⟩) hHeld ?_
  go_frame
  refine wpAnyH_take (i := 5) (v := .pointer (some ⟨w.heap.size, 0, none⟩)) rfl (by kernel_rfl) (by kernel_rfl) (by kernel_rfl) (fun _ _ _ h => h) (Or.inl ⟨by kernel_rfl, fun W hSw => by clear hSw; go_simp⟩) hHeld ?_
  go_frame
  refine wpAnyH_take (i := 6) rfl (by kernel_rfl) (by kernel_rfl) (by kernel_rfl) (fun _ _ _ h => h) (yieldsIf_load_mid (by kernel_rfl) _ _ rfl w.heap.size 0 rfl [.int .i64 p.t.c, .int .i64 p.t.l, .int .i64 p.t.s] _ (fun W hSw => Blk.range hSw 0 _ (three_of rfl rfl rfl)) rfl rfl (by kernel_rfl)) hHeld ?_
  go_frame
  refine wpAnyH_take (i := 7) (v := .pointer (some ⟨w.heap.size, 3, none⟩)) rfl (by kernel_rfl) (by kernel_rfl) (by kernel_rfl) (fun _ _ _ h => h) (Or.inl ⟨by kernel_rfl, fun W hSw => by clear hSw; go_simp⟩) hHeld ?_
  go_frame
  refine wpAnyH_take (i := 8) rfl (by kernel_rfl) (by kernel_rfl) (by kernel_rfl) (fun _ _ _ h => h) (yieldsIf_load_mid (by kernel_rfl) _ _ rfl w.heap.size 3 rfl [.int .i64 p.s.w, .int .i64 p.s.l, .int .i64 p.s.n] _ (fun W hSw => Blk.range hSw 3 _ (three_of rfl rfl rfl)) rfl rfl (by kernel_rfl)) hHeld ?_
  go_frame
  refine wpAnyH_take (i := 9) (v := .agg (p.arr (.slice none 0 0) (.slice none 0 0))) rfl (by kernel_rfl) (by kernel_rfl) (by kernel_rfl) (fun _ _ _ h => h) (Or.inl ⟨by kernel_rfl, fun W hSw => by clear hSw; go_simp⟩) hHeld ?_
  go_frame
  rw [← hw0e]
  have hn4 : w.heap.size + 1 ≠ w.heap.size := by omega
  have s2a := i2.drew.setRow_far (g' := w.heap.size + 1) (p.arr (.slice none 0 0) (.slice none 0 0)) (by omega)
  have s4a := i4.drew.setRow (p.arr (.slice none 0 0) (.slice none 0 0))
  have s5a := i5.drew.setRow_far (g' := w.heap.size + 1) (p.arr (.slice none 0 0) (.slice none 0 0)) (by omega)
  have hXa := below_setRow hX.drew (g := w.heap.size + 1) (by omega) (p.arr (.slice none 0 0) (.slice none 0 0))
  refine wpAnyH_store_rowE (i := 10) (by kernel_rfl) rfl rfl _ _ _ rfl (w.heap.size + 1) (p.arr (.slice none 0 0) (.slice none 0 0)) (by kernel_rfl) (by kernel_rfl) _ zeroPn i4.drew (by kernel_rfl) rfl (by kernel_rfl) s2a ?_
  intro w1 hw1
  rw [← hw1] at s2a s4a s5a hXa
  go_frame
  have s2b := s2a.setRow_far (g' := w.heap.size + 1 + 1) (p.arr (.slice none 0 0) (.slice none 0 0)) (by omega)
  have s4b := s4a.setRow_far (g' := w.heap.size + 1 + 1) (p.arr (.slice none 0 0) (.slice none 0 0)) (by omega)
  have s5b := s5a.setRow (p.arr (.slice none 0 0) (.slice none 0 0))
  have hXb := below_setRow hXa (g := w.heap.size + 1 + 1) (by omega) (p.arr (.slice none 0 0) (.slice none 0 0))
  have hsz2 : (w1.setRow (w.heap.size + 1 + 1) (p.arr (.slice none 0 0) (.slice none 0 0))).heap.size = w.heap.size + 3 := by rw [size_setRow, hw1, size_setRow]; exact hsz
  refine wpAnyH_store_rowE (i := 11) (by kernel_rfl) rfl rfl _ _ _ rfl (w.heap.size + 1 + 1) (p.arr (.slice none 0 0) (.slice none 0 0)) (by kernel_rfl) (by kernel_rfl) _ zeroPn s5a (by kernel_rfl) rfl (by kernel_rfl) s2b ?_
  intro w2 hw2
  rw [← hw2] at s2b s4b s5b hXb hsz2
  go_frame
  refine wpAnyH_done (by kernel_rfl) ?_ _
  clear s2a s4a s5a hXa hw1 hw2 i2 i4 i5 hX hw0e hsz hHeld
  have x0 := s2b.cell 6
  simp only [List.getElem?_toArray, List.getElem?_cons_succ, List.getElem?_cons_zero] at x0
  have l2 := s2b.lt
  go_wp2
  go_loopw [21] (fun i wr => HalfRel p x (.slice A1 n1 c1) (.slice A2 n2 c2) w i wr) (fun i _ => n1 - (intOf i).toNat)
  case atStart => exact ⟨0, _, _, by omega, rfl, s2b, s4b, s5b, OwnL.nil _, OwnL.nil _, Dis.nil _, hXb⟩
  case round =>
    obtain ⟨k, v1, v2, hk, rfl, b2, b4, b5, ho1, ho2, hdis, hb⟩ := hrel
    have hzz := hb.size
    have hf1 : (keysL (p.r.take k) x).length ≤ 1000000 := by
      have h1 := List.length_filter_le (fun a : ByteArray => belowB a x) (p.r.take k)
      have h2 := List.length_take_le k p.r
      unfold keysL; omega
    have hf2 : (keysR (p.r.take k) x).length ≤ 1000000 := by
      have h1 := List.length_filter_le (fun a : ByteArray => !belowB a x) (p.r.take k)
      have h2 := List.length_take_le k p.r
      unfold keysR; omega
    have l5 := b5.lt
    by_cases hlt : k < n1
    · obtain ⟨ad, a, rfl, ha, hbk, hok, c0⟩ := (hr.below KyRel.kept hb).ky hlt
      have hd1 : decide ((k : Int) < (n1 : Int)) = true := by simp; omega
      have hk0 : (0 : Int) ≤ (k : Int) := by omega
      have hk1 : (k : Int) < (n1 : Int) := by omega
      have hsn := keys_snoc x ha
      have hof := of_any a wr (reach_max hok)
      obtain ⟨A3, q3, rfl, hq3, hq3m⟩ := ho1.form
      obtain ⟨A4, q4, rfl, hq4, hq4m⟩ := ho2.form
      generalize keysL (p.r.take k) x = a1 at *
      generalize keysR (p.r.take k) x = a2 at *
      by_cases hbel : belowB a x = true
      · have HS := Lib.hid (hsn.1 hbel)
        have hfl : flt (ofB a) x = true := hbel
        unfold flt at hfl
        clear hsn hbel
        have hX := (Below.refl wr.heap.size wr).alloc (Nat.le_refl _) (.cells (keyCells a).toArray 9)
        have hown0 := ho1.below hX
        have hrd0 := reads_new' wr 9 (keyCells a) 1 rfl
        have hsz0 : (wr.alloc (.cells (keyCells a).toArray 9)).heap.size = wr.heap.size + 1 := by simp
        have y6 := b4.cell 6
        simp only [List.getElem?_toArray, List.getElem?_cons_succ, List.getElem?_cons_zero] at y6
        have l6 := b4.lt
        have l66 : w.heap.size + 1 < wr.heap.size + 1 := by omega
        clear ha
        go_wp2_with (first
          | ((with_reducible refine hof.mono ?_); rintro e w5 ⟨rfl, rfl⟩)
          | (at_builtin
             refine wpList_append_any _ rfl (.tmp 30) (.tmp 32) _ rfl (w.heap.size + 3) 9 i0 _ 1 16 Try.underlying44 hi0 hz0 hz1 hz2 rfl (by omega) (.slice A3 a1.length q3) _ (a1.flatMap keyCells) (by rfl) hown0 _ (some ⟨wr.heap.size, 0, none⟩) 1 1 (keyCells a) (by rfl)
               hrd0 (ky_one a) (by unfold maxLen; omega) (by omega) (by simp; omega) ?_
             intro v3 w3 hown3 hg3 hat3
             have e4 := (b4.alloc (.cells (keyCells a).toArray 9)).grown hg3 (ho1.ne (by omega))
             have e5 := (b5.alloc (.cells (keyCells a).toArray 9)).grown hg3 (ho1.ne (by omega))
             have e2 := (b2.alloc (.cells (keyCells a).toArray 9)).grown hg3 (ho1.ne (by omega))
             have z6 := e4.cell 6
             simp only [List.getElem?_toArray, List.getElem?_cons_succ, List.getElem?_cons_zero] at z6
             have f6 := e4.frozen 6
             obtain ⟨A6, q6, rfl, hq6, hq6m⟩ := own_form hown3))
        have hp := OwnL.push a hown3
        have hbw := (hb.trans (hX.mono hzz)).grown hg3 (by simp; omega) (fun q hq => by have := (hown0.lt q hq).1; omega)
        have hoth := (ho2.below hX).beside hg3 hdis
        have hdis' := hdis.push (ho2.below hX) hat3
        go_roundw
        case rel =>
          refine ⟨k + 1, _, _, by omega, by go_num, e2.far (by simp <;> omega) _, e4.set_ 6 _, e5.far (by simp <;> omega) _, ?_, ?_, hdis', hbw.setCell (by simp; try omega) _⟩
          · rw [HS.out.1]
            exact hp.set_far (by simp; try omega) _
          · rw [HS.out.2]
            exact hoth.set_far (by simp; try omega) _
        case measure => simp [intOf]; omega
      · have hbf : belowB a x = false := by simpa using hbel
        have HS := Lib.hid (hsn.2 hbf)
        have hfl : flt (ofB a) x = false := hbf
        unfold flt at hfl
        clear hsn hbel hbf
        have hX := (Below.refl wr.heap.size wr).alloc (Nat.le_refl _) (.cells (keyCells a).toArray 9)
        have hown0 := ho2.below hX
        have hrd0 := reads_new' wr 9 (keyCells a) 1 rfl
        have hsz0 : (wr.alloc (.cells (keyCells a).toArray 9)).heap.size = wr.heap.size + 1 := by simp
        have y6 := b5.cell 6
        simp only [List.getElem?_toArray, List.getElem?_cons_succ, List.getElem?_cons_zero] at y6
        have l6 := b5.lt
        have l66 : w.heap.size + 1 + 1 < wr.heap.size + 1 := by omega
        clear ha
        go_wp2_with (first
          | ((with_reducible refine hof.mono ?_); rintro e w5 ⟨rfl, rfl⟩)
          | (at_builtin
             refine wpList_append_any _ rfl (.tmp 36) (.tmp 38) _ rfl (w.heap.size + 3) 9 i0 _ 1 16 Try.underlying44 hi0 hz0 hz1 hz2 rfl (by omega) (.slice A4 a2.length q4) _ (a2.flatMap keyCells) (by rfl) hown0 _ (some ⟨wr.heap.size, 0, none⟩) 1 1 (keyCells a) (by rfl)
               hrd0 (ky_one a) (by unfold maxLen; omega) (by omega) (by simp; omega) ?_
             intro v3 w3 hown3 hg3 hat3
             have e4 := (b4.alloc (.cells (keyCells a).toArray 9)).grown hg3 (ho2.ne (by omega))
             have e5 := (b5.alloc (.cells (keyCells a).toArray 9)).grown hg3 (ho2.ne (by omega))
             have e2 := (b2.alloc (.cells (keyCells a).toArray 9)).grown hg3 (ho2.ne (by omega))
             have z6 := e5.cell 6
             simp only [List.getElem?_toArray, List.getElem?_cons_succ, List.getElem?_cons_zero] at z6
             have f6 := e5.frozen 6
             obtain ⟨A6, q6, rfl, hq6, hq6m⟩ := own_form hown3))
        have hp := OwnL.push a hown3
        have hbw := (hb.trans (hX.mono hzz)).grown hg3 (by simp; omega) (fun q hq => by have := (hown0.lt q hq).1; omega)
        have hoth := (ho1.below hX).beside hg3 hdis.symm
        have hdis' := hdis.symm.push (ho1.below hX) hat3
        go_roundw
        case rel =>
          refine ⟨k + 1, _, _, by omega, by go_num, e2.far (by simp <;> omega) _, e4.far (by simp <;> omega) _, e5.set_ 6 _, ?_, ?_, hdis'.symm, hbw.setCell (by simp; try omega) _⟩
          · rw [HS.out.1]
            exact hoth.set_far (by simp; try omega) _
          · rw [HS.out.2]
            exact hp.set_far (by simp; try omega) _
        case measure => simp [intOf]; omega
    · have hd1 : decide ((k : Int) < (n1 : Int)) = false := by simp; omega
      rw [List.take_of_length_le (by omega)] at ho1 ho2
      obtain ⟨A3, q3, rfl, hq3, hq3m⟩ := ho1.form
      obtain ⟨A4, q4, rfl, hq4, hq4m⟩ := ho2.form
      have y7 := b2.cell 7
      simp only [List.getElem?_toArray, List.getElem?_cons_succ, List.getElem?_cons_zero] at y7
      have l2' := b2.lt
      have l4' := b4.lt
      have hHv := halve_any A2 n2 c2 p.w x wr ((hw.below WtRel.kept hb).more WtRel.kept hzz) (by omega)
      clear hf1 hf2 hdis
      generalize hkl : keysL p.r x = kl at *
      generalize hkr : keysR p.r x = kr at *
      go_wp2_with (go_at_call 22; fail)
      refine hHv.mono ?_
      rintro e w5 ⟨u1, u2, rfl, o1, o2, -, hb5⟩
      obtain ⟨A5, q5, rfl, hq5, hq5m⟩ := o1.form
      obtain ⟨A6, q6, rfl, hq6, hq6m⟩ := o2.form
      have c4 := b4.below hb5 l4'
      have c5 := b5.below hb5 l5
      have hb6 : Below w.heap.size w w5 := hb.trans (hb5.mono hzz)
      have p1 := ho1.below hb5
      have p2 := ho2.below hb5
      have l45 := c4.lt
      have l55 := c5.lt
      have f4 := c4.frozen 7
      have f5 := c5.frozen 7
      have z4 := c4.cell 7
      have z5 := c5.cell 7
      simp only [List.getElem?_toArray, List.getElem?_cons_succ, List.getElem?_cons_zero] at z4 z5
      clear y7 hHv b2 b4 b5 ho1 ho2
      go_wp2
      have hz5 := hb5.size
      have g4 : Blk (w5.setCell ⟨w.heap.size + 1, 7, none⟩ (.slice A5 (halveL p.w x).length q5)) (w.heap.size + 1) 47 (p.arr (.slice A3 kl.length q3) (.slice A5 (halveL p.w x).length q5)) := c4.set_ 7 _
      have d4 : Blk ((w5.setCell ⟨w.heap.size + 1, 7, none⟩ (.slice A5 (halveL p.w x).length q5)).setCell ⟨w.heap.size + 1 + 1, 7, none⟩ (.slice A6 (halveR p.w x).length q6)) (w.heap.size + 1) 47 (p.arr (.slice A3 kl.length q3) (.slice A5 (halveL p.w x).length q5)) := g4.far (by simp) _
      have g5 := c5.far (p := ⟨w.heap.size + 1, 7, none⟩) (by simp) (.slice A5 (halveL p.w x).length q5)
      have d5 : Blk ((w5.setCell ⟨w.heap.size + 1, 7, none⟩ (.slice A5 (halveL p.w x).length q5)).setCell ⟨w.heap.size + 1 + 1, 7, none⟩ (.slice A6 (halveR p.w x).length q6)) (w.heap.size + 1 + 1) 47 (p.arr (.slice A4 kr.length q4) (.slice A6 (halveR p.w x).length q6)) := g5.set_ 7 _
      have hb7 : Below w.heap.size w ((w5.setCell ⟨w.heap.size + 1, 7, none⟩ (.slice A5 (halveL p.w x).length q5)).setCell ⟨w.heap.size + 1 + 1, 7, none⟩ (.slice A6 (halveR p.w x).length q6)) := (hb6.setCell (by simp) _).setCell (by simp; omega) _
      have r1 := (p1.set_far (p := ⟨w.heap.size + 1, 7, none⟩) (by simp) (.slice A5 (halveL p.w x).length q5)).set_far (p := ⟨w.heap.size + 1 + 1, 7, none⟩) (by simp) (.slice A6 (halveR p.w x).length q6)
      have r2 := (p2.set_far (p := ⟨w.heap.size + 1, 7, none⟩) (by simp) (.slice A5 (halveL p.w x).length q5)).set_far (p := ⟨w.heap.size + 1 + 1, 7, none⟩) (by simp) (.slice A6 (halveR p.w x).length q6)
      have s1 := (o1.set_far (p := ⟨w.heap.size + 1, 7, none⟩) (by simp; omega) (.slice A5 (halveL p.w x).length q5)).set_far (p := ⟨w.heap.size + 1 + 1, 7, none⟩) (by simp; omega) (.slice A6 (halveR p.w x).length q6)
      have s2 := (o2.set_far (p := ⟨w.heap.size + 1, 7, none⟩) (by simp; omega) (.slice A5 (halveL p.w x).length q5)).set_far (p := ⟨w.heap.size + 1 + 1, 7, none⟩) (by simp; omega) (.slice A6 (halveR p.w x).length q6)
      have hsz6 : ((w5.setCell ⟨w.heap.size + 1, 7, none⟩ (.slice A5 (halveL p.w x).length q5)).setCell ⟨w.heap.size + 1 + 1, 7, none⟩ (.slice A6 (halveR p.w x).length q6)).heap.size = w5.heap.size := by simp
      clear g4 g5 c4 c5 p1 p2 o1 o2 f4 f5 z4 z5 hb6
      obtain ⟨w6, he6⟩ : ∃ w6, w6 = ((w5.setCell ⟨w.heap.size + 1, 7, none⟩ (.slice A5 (halveL p.w x).length q5)).setCell ⟨w.heap.size + 1 + 1, 7, none⟩ (.slice A6 (halveR p.w x).length q6)) := ⟨_, rfl⟩
      rw [← he6] at d4 d5 hb7 r1 r2 s1 s2 hsz6 ⊢
      clear he6
      refine wp_region_held_drew (S := fun w' => Blk w' (w.heap.size + 1) 47 (p.arr (.slice A3 kl.length q3) (.slice A5 (halveL p.w x).length q5)) ∧ Blk w' (w.heap.size + 1 + 1) 47 (p.arr (.slice A4 kr.length q4) (.slice A6 (halveR p.w x).length q6))) (by kernel_rfl) ⟨d4, d5⟩ (fun hHeld => ?_)
      refine wpAnyH_take (i := 0) (oi := ⟨some 51, .load 47 (.tmp 4), _, _, _, _⟩) rfl (by kernel_rfl) (by kernel_rfl) (by kernel_rfl) (fun _ _ _ h => h) (yieldsIf_load_row (by rfl) _ _ rfl (w.heap.size + 1) rfl _ _ _ (fun _ h => h.1) rfl rfl (by kernel_rfl)) hHeld ?_
      go_frame
      refine wpAnyH_take (i := 1) (oi := ⟨some 52, .load 47 (.tmp 5), _, _, _, _⟩) rfl (by kernel_rfl) (by kernel_rfl) (by kernel_rfl) (fun _ _ _ h => h) (yieldsIf_load_row (by rfl) _ _ rfl (w.heap.size + 1 + 1) rfl _ _ _ (fun _ h => h.2) rfl rfl (by kernel_rfl)) hHeld ?_
      go_frame
      have k4 := d4.drew.setRow (p.arr (.slice A3 kl.length q3) (.slice A5 (halveL p.w x).length q5))
      have k5 := d5.drew.setRow_far (g' := w.heap.size + 1) (p.arr (.slice A3 kl.length q3) (.slice A5 (halveL p.w x).length q5)) (by omega)
      have kb := below_setRow hb7.drew (g := w.heap.size + 1) (by omega) (p.arr (.slice A3 kl.length q3) (.slice A5 (halveL p.w x).length q5))
      have t1 := (OwnL.drew r1).setRow_far (g := w.heap.size + 1) (by omega) (p.arr (.slice A3 kl.length q3) (.slice A5 (halveL p.w x).length q5))
      have t2 := (OwnL.drew r2).setRow_far (g := w.heap.size + 1) (by omega) (p.arr (.slice A3 kl.length q3) (.slice A5 (halveL p.w x).length q5))
      have t3 := (OwnL.drew s1).setRow_far (g := w.heap.size + 1) (by omega) (p.arr (.slice A3 kl.length q3) (.slice A5 (halveL p.w x).length q5))
      have t4 := (OwnL.drew s2).setRow_far (g := w.heap.size + 1) (by omega) (p.arr (.slice A3 kl.length q3) (.slice A5 (halveL p.w x).length q5))
      refine wpAnyH_store_rowE (i := 2) (by kernel_rfl) rfl rfl _ _ _ rfl (w.heap.size + 1) (p.arr (.slice A3 kl.length q3) (.slice A5 (halveL p.w x).length q5)) (by kernel_rfl) (by kernel_rfl) _ _ d4.drew (by kernel_rfl) rfl (by kernel_rfl) ⟨k4, k5⟩ ?_
      intro w7 hw7
      rw [← hw7] at k4 k5 kb t1 t2 t3 t4
      clear hw7 d4 d5 r1 r2 s1 s2 hHeld
      go_frame
      have m4 := k4.setRow_far (g' := w.heap.size + 1 + 1) (p.arr (.slice A4 kr.length q4) (.slice A6 (halveR p.w x).length q6)) (by omega)
      have m5 := k5.setRow (p.arr (.slice A4 kr.length q4) (.slice A6 (halveR p.w x).length q6))
      have mb := below_setRow kb (g := w.heap.size + 1 + 1) (by omega) (p.arr (.slice A4 kr.length q4) (.slice A6 (halveR p.w x).length q6))
      have v1 := t1.setRow_far (g := w.heap.size + 1 + 1) (by omega) (p.arr (.slice A4 kr.length q4) (.slice A6 (halveR p.w x).length q6))
      have v2 := t2.setRow_far (g := w.heap.size + 1 + 1) (by omega) (p.arr (.slice A4 kr.length q4) (.slice A6 (halveR p.w x).length q6))
      have v3 := t3.setRow_far (g := w.heap.size + 1 + 1) (by omega) (p.arr (.slice A4 kr.length q4) (.slice A6 (halveR p.w x).length q6))
      have v4 := t4.setRow_far (g := w.heap.size + 1 + 1) (by omega) (p.arr (.slice A4 kr.length q4) (.slice A6 (halveR p.w x).length q6))
      refine wpAnyH_store_rowE (i := 3) (by kernel_rfl) rfl rfl _ _ _ rfl (w.heap.size + 1 + 1) (p.arr (.slice A4 kr.length q4) (.slice A6 (halveR p.w x).length q6)) (by kernel_rfl) (by kernel_rfl) _ _ k5 (by kernel_rfl) rfl (by kernel_rfl) ⟨m4, m5⟩ ?_
      intro w8 hw8
      rw [← hw8] at m4 m5 mb v1 v2 v3 v4
      clear hw8 k4 k5 kb t1 t2 t3 t4
      go_frame
      refine wpAnyH_done (by kernel_rfl) ?_ _
      go_wp2
      refine post_cell_cell rfl (by kernel_rfl) (by kernel_rfl) m4 m5 rfl rfl (by kernel_rfl) rfl rfl (by kernel_rfl) ?_
      refine ⟨_, _, _, _, rfl, ?_, ?_, ?_, ?_, mb⟩
      · first | exact v1.mono_base (by omega) | (rw [hkl]; exact v1.mono_base (by omega))
      · exact v3.mono_base (by omega)
      · first | exact v2.mono_base (by omega) | (rw [hkr]; exact v2.mono_base (by omega))
      · exact v4.mono_base (by omega)
end Go.Proofs.Ytipacjbegfingaa
/- The walks of raceref's copies: Strings, CopyWrites, CopyPending, CopyPendings, CopyHistories, CopyState. -/
namespace Go.Proofs.Ytipacjbegfingaa
set_option linter.unusedVariables false
open Go.RowKit Fl
attribute [local go_sem] run_store_float

def CopyRel {α : Type} (f : α → List Value) (E size : Nat) (l : List α) (w : World) (v i : Value) (wr : World) : Prop := ∃ k : Nat, k ≤ l.length ∧ i = .int .i64 (k : Int) ∧ OwnL f E size w.heap.size wr v (l.take k) ∧ Below w.heap.size w wr
set_option maxRecDepth 100000 in
set_option maxHeartbeats 4000000 in
theorem strings_any (A : Option Addr) (n c : Nat) (l : List ByteArray) (w : World) (h : Sl KyRel 1 w w.heap.size A n l) (hn : n ≤ 1000000) :
    Calls Try.prog 80 #[.slice A n c] w fun e w' => ∃ v, e = .returned v ∧ OwnL keyCells 9 1 w.heap.size w' v l ∧ Below w.heap.size w w' := by
  obtain ⟨i0, hi0, hz0, hz1, hz2⟩ := info_parts ky_info
  have hl := h.1
  have hle : l.length ≤ n := by omega
  have hge : n ≤ l.length := by omega
  clear hl
  go_enter Try.func80, Try.ntmps80
  go_wp2
  go_loopw [3, 4] (fun v i wr => CopyRel keyCells 9 1 l w v i wr) (fun _ i _ => n - (intOf i).toNat)
  case atStart => exact ⟨0, by omega, rfl, OwnL.nil _, Below.refl _ _⟩
  case round =>
    obtain ⟨k, hk, rfl, ho, hb⟩ := hrel
    have hzz := hb.size
    by_cases hlt : k < n
    · obtain ⟨ad, a, rfl, ha, hbk, hok, c0⟩ := (h.below KyRel.kept hb).ky hlt
      have hd1 : decide ((k : Int) < (n : Int)) = true := by simp; omega
      have hk0 : (0 : Int) ≤ (k : Int) := by omega
      have hk1 : (k : Int) < (n : Int) := by omega
      have HS := Lib.hid (show l.take (k + 1) = l.take k ++ [a] by rw [List.take_add_one, ha]; rfl)
      have hln : (l.take k).length ≤ 1000000 := by simp; omega
      clear ha
      obtain ⟨A1, q1, rfl, hq1, hq1m⟩ := ho.form
      generalize l.take k = ks at *
      have hX : Below wr.heap.size wr (wr.alloc (.cells (keyCells a).toArray 9)) := (Below.refl _ _).alloc (Nat.le_refl _) _
      have hown0 := ho.below hX
      have hrd0 := reads_new' wr 9 (keyCells a) 1 rfl
      go_wp2_with (first
        | (at_builtin
           refine wpList_append_any _ rfl (.tmp 11) (.tmp 16) _ rfl w.heap.size 9 i0 _ 1 16 Try.underlying44 hi0 hz0 hz1 hz2 rfl (by omega) (.slice A1 ks.length q1) _ (ks.flatMap keyCells) (by rfl) hown0 _ (some ⟨wr.heap.size, 0, none⟩) 1 1 (keyCells a) (by rfl)
             hrd0 (ky_one a) (by unfold maxLen; omega) (by omega) (by simp; omega) ?_
           intro v3 w3 hown3 hg3 hat3
           obtain ⟨A3, q3, rfl, hq3, hq3m⟩ := own_form hown3))
      have hp := OwnL.push a hown3
      have hbw := (hb.trans (hX.mono hzz)).grown hg3 (by simp; omega) (fun q hq => (hown0.lt q hq).1)
      go_roundw
      case rel =>
        refine ⟨k + 1, by omega, by go_num, ?_, hbw⟩
        rw [HS.out]
        exact hp
      case measure => simp [intOf]; omega
    · have hd1 : decide ((k : Int) < (n : Int)) = false := by simp; omega
      rw [List.take_of_length_le (by omega)] at ho
      obtain ⟨A1, q1, rfl, hq1, hq1m⟩ := ho.form
      go_wp2
      go_ret
      exact ⟨_, rfl, ho, hb⟩
set_option maxRecDepth 100000 in
set_option maxHeartbeats 4000000 in
theorem copyW_any (A : Option Addr) (n c : Nat) (l : List Wt) (w : World) (h : Sl WtRel 4 w w.heap.size A n l) (hn : n ≤ 1000000) :
    Calls Try.prog 81 #[.slice A n c] w fun e w' => ∃ v, e = .returned v ∧ OwnL Wt.cells 96 4 w.heap.size w' v l ∧ Below w.heap.size w w' := by
  obtain ⟨i0, hi0, hz0, hz1, hz2⟩ := info_parts wt_info
  have hl := h.1
  have hle : l.length ≤ n := by omega
  have hge : n ≤ l.length := by omega
  clear hl
  go_enter Try.func81, Try.ntmps81
  go_wp2
  go_loopw [3, 4] (fun v i wr => CopyRel Wt.cells 96 4 l w v i wr) (fun _ i _ => n - (intOf i).toNat)
  case atStart => exact ⟨0, by omega, rfl, OwnL.nil _, Below.refl _ _⟩
  case round =>
    obtain ⟨k, hk, rfl, ho, hb⟩ := hrel
    have hzz := hb.size
    by_cases hlt : k < n
    · obtain ⟨ad, a, rfl, ha, hbk, hok, c0, c1, c2, c3⟩ := (h.below WtRel.kept hb).wt hlt
      have hd1 : decide ((k : Int) < (n : Int)) = true := by simp; omega
      have hk0 : (0 : Int) ≤ (k : Int) := by omega
      have hk1 : (k : Int) < (n : Int) := by omega
      have HS := Lib.hid (show l.take (k + 1) = l.take k ++ [a] by rw [List.take_add_one, ha]; rfl)
      have hln : (l.take k).length ≤ 1000000 := by simp; omega
      clear ha
      obtain ⟨A1, q1, rfl, hq1, hq1m⟩ := ho.form
      generalize l.take k = ks at *
      have hX : Below wr.heap.size wr (wr.alloc (.cells a.cells.toArray 96)) := (Below.refl _ _).alloc (Nat.le_refl _) _
      have hown0 := ho.below hX
      have hrd0 := reads_new' wr 96 a.cells 4 rfl
      go_wp2_with (first
        | (at_builtin
           refine wpList_append_any _ rfl (.tmp 11) (.tmp 16) _ rfl w.heap.size 96 i0 _ 4 48 Try.underlying45 hi0 hz0 hz1 hz2 rfl (by omega) (.slice A1 ks.length q1) _ (ks.flatMap Wt.cells) (by rfl) hown0 _ (some ⟨wr.heap.size, 0, none⟩) 1 1 a.cells (by rfl)
             hrd0 (wt_one a) (by unfold maxLen; omega) (by omega) (by simp; omega) ?_
           intro v3 w3 hown3 hg3 hat3
           obtain ⟨A3, q3, rfl, hq3, hq3m⟩ := own_form hown3))
      have hp := OwnL.push a hown3
      have hbw := (hb.trans (hX.mono hzz)).grown hg3 (by simp; omega) (fun q hq => (hown0.lt q hq).1)
      go_roundw
      case rel =>
        refine ⟨k + 1, by omega, by go_num, ?_, hbw⟩
        rw [HS.out]
        exact hp
      case measure => simp [intOf]; omega
    · have hd1 : decide ((k : Int) < (n : Int)) = false := by simp; omega
      rw [List.take_of_length_le (by omega)] at ho
      obtain ⟨A1, q1, rfl, hq1, hq1m⟩ := ho.form
      go_wp2
      go_ret
      exact ⟨_, rfl, ho, hb⟩

set_option maxRecDepth 100000 in
set_option maxHeartbeats 4000000 in
theorem copyP_any (p : Pn) (A1 A2 : Option Addr) (n1 n2 c1 c2 : Nat) (w : World) (hr : Sl KyRel 1 w w.heap.size A1 n1 p.r) (hw : Sl WtRel 4 w w.heap.size A2 n2 p.w) (hn1 : n1 ≤ 1000000) (hn2 : n2 ≤ 1000000) :
    Calls Try.prog 58 #[p.val (.slice A1 n1 c1) (.slice A2 n2 c2)] w (ClonePost p w) := by
  have hX : Below w.heap.size w ((w.alloc (.cells (p.arr (.slice A1 n1 c1) (.slice A2 n2 c2)) 47)).alloc (.cells zeroPn 47)) := by go_grown
  have i1 : Blk ((w.alloc (.cells (p.arr (.slice A1 n1 c1) (.slice A2 n2 c2)) 47)).alloc (.cells zeroPn 47)) w.heap.size 47 (p.arr (.slice A1 n1 c1) (.slice A2 n2 c2)) := (Blk.new _ _ _).alloc _
  have i2 : Blk ((w.alloc (.cells (p.arr (.slice A1 n1 c1) (.slice A2 n2 c2)) 47)).alloc (.cells zeroPn 47)) (w.heap.size + 1) 47 zeroPn := Blk.new' _ _ (by simp)
  have hT := fun w' (hb : Below w.heap.size w w') => strings_any A1 n1 c1 p.r w' ((hr.below KyRel.kept hb).more KyRel.kept hb.size) hn1
  have hW := fun w' (hb : Below w.heap.size w w') => copyW_any A2 n2 c2 p.w w' ((hw.below WtRel.kept hb).more WtRel.kept hb.size) hn2
  go_enter Try.func58, Try.ntmps58
  go_wp2
  generalize ((w.alloc (.cells (p.arr (.slice A1 n1 c1) (.slice A2 n2 c2)) 47)).alloc (.cells zeroPn 47)) = w0 at *
  have l1 := i1.lt
  have l2 := i2.lt
  refine wp_region_held_drew (S := fun w' => Blk w' w.heap.size 47 (p.arr (.slice A1 n1 c1) (.slice A2 n2 c2))) (by kernel_rfl) i1.drew (fun hHeld => ?_)
  refine wpAnyH_take (i := 0) (oi := ⟨some 3, _, _, _, _, _⟩) (v := .pointer (some ⟨w.heap.size, 0, none⟩)) rfl (by kernel_rfl) (by kernel_rfl) (by kernel_rfl) (fun _ _ _ h => h) (Or.inl ⟨by kernel_rfl, fun W hSw => by clear hSw; go_simp⟩) hHeld ?_
  go_frame
  refine wpAnyH_take (i := 1) (oi := ⟨some 4, _, _, _, _, _⟩) rfl (by kernel_rfl) (by kernel_rfl) (by kernel_rfl) (fun _ _ _ h => h) (yieldsIf_load_mid (by kernel_rfl) _ _ rfl w.heap.size 0 rfl [.int .i64 p.t.c, .int .i64 p.t.l, .int .i64 p.t.s] _ (fun W hSw => Blk.range hSw 0 _ (three_of rfl rfl rfl)) rfl rfl (by kernel_rfl)) hHeld ?_
  go_frame
  refine wpAnyH_take (i := 2) (oi := ⟨some 5, _, _, _, _, _⟩) (v := .pointer (some ⟨w.heap.size, 3, none⟩)) rfl (by kernel_rfl) (by kernel_rfl) (by kernel_rfl) (fun _ _ _ h => h) (Or.inl ⟨by kernel_rfl, fun W hSw => by clear hSw; go_simp⟩) hHeld ?_
  go_frame
  refine wpAnyH_take (i := 3) (oi := ⟨some 6, _, _, _, _, _⟩) rfl (by kernel_rfl) (by kernel_rfl) (by kernel_rfl) (fun _ _ _ h => h) (yieldsIf_load_mid (by kernel_rfl) _ _ rfl w.heap.size 3 rfl [.int .i64 p.s.w, .int .i64 p.s.l, .int .i64 p.s.n] _ (fun W hSw => Blk.range hSw 3 _ (three_of rfl rfl rfl)) rfl rfl (by kernel_rfl)) hHeld ?_
  go_frame
  refine wpAnyH_take (i := 4) (oi := ⟨some 7, _, _, _, _, _⟩) (v := .pointer (some ⟨w.heap.size, 6, none⟩)) rfl (by kernel_rfl) (by kernel_rfl) (by kernel_rfl) (fun _ _ _ h => h) (Or.inl ⟨by kernel_rfl, fun W hSw => by clear hSw; go_simp⟩) hHeld ?_
  go_frame
  refine wpAnyH_take (i := 5) (oi := ⟨some 8, _, _, _, _, _⟩) (v := .slice A1 n1 c1) rfl (by kernel_rfl) (by kernel_rfl) (by kernel_rfl) (fun _ _ _ h => h) (Or.inl ⟨by kernel_rfl, fun W hSw => by have z : W.cell? ⟨w.heap.size, 6, none⟩ = some (.slice A1 n1 c1) := Blk.cell hSw 6; clear hSw; go_simp⟩) hHeld ?_
  go_frame
  refine wpAnyH_take (i := 7) (oi := ⟨some 10, _, _, _, _, _⟩) (v := .pointer (some ⟨w.heap.size, 7, none⟩)) rfl (by kernel_rfl) (by kernel_rfl) (by kernel_rfl) (fun _ _ _ h => h) (Or.inl ⟨by kernel_rfl, fun W hSw => by clear hSw; go_simp⟩) hHeld ?_
  go_frame
  refine wpAnyH_take (i := 8) (oi := ⟨some 11, _, _, _, _, _⟩) (v := .slice A2 n2 c2) rfl (by kernel_rfl) (by kernel_rfl) (by kernel_rfl) (fun _ _ _ h => h) (Or.inl ⟨by kernel_rfl, fun W hSw => by have z : W.cell? ⟨w.heap.size, 7, none⟩ = some (.slice A2 n2 c2) := Blk.cell hSw 7; clear hSw; go_simp⟩) hHeld ?_
  go_frame
  refine wpAnyH_ready (rs := [6]) (by kernel_rfl) (by simp) ?_
  refine AllReadyH.cons rfl (fun K hK => ?_) AllReadyH.nil
  go_simp
  refine (hT _ hX.drew).mono ?_
  rintro e w3 ⟨v3, rfl, o3, hb3⟩
  have j1 := i1.drew.below hb3 l1
  have j2 := i2.drew.below hb3 l2
  have hY : Below w.heap.size w w3 := hX.drew.trans (hb3.mono hX.size)
  have o3 : OwnL _ _ _ (w.heap.size + 2) _ _ _ := o3.mono_base (by show w.heap.size + 2 ≤ w0.heap.size; omega)
  obtain ⟨A3, q3, rfl, hq3, hq3m⟩ := o3.form
  clear hb3 i1 i2 l1 l2 hHeld
  refine hK.out _ _ j1 (fun hHeld => ?_)
  clear hK K
  try go_frame
  refine wpAnyH_ready (rs := [9]) (by kernel_rfl) (by simp) ?_
  refine AllReadyH.cons rfl (fun K hK => ?_) AllReadyH.nil
  go_simp
  refine (hW _ hY).mono ?_
  rintro e w4 ⟨v4, rfl, o4, hb4⟩
  have k1 := j1.below hb4 j1.lt
  have k2 := j2.below hb4 j2.lt
  have hZ : Below w.heap.size w w4 := hY.trans (hb4.mono hY.size)
  have hz3 := j2.lt
  have o4 : OwnL _ _ _ (w.heap.size + 2) _ _ _ := o4.mono_base (by omega)
  have o3 := o3.below hb4
  obtain ⟨A4, q4, rfl, hq4, hq4m⟩ := o4.form
  clear hb4 j1 j2 hHeld
  refine hK.out _ _ k1 (fun hHeld => ?_)
  clear hK K
  try go_frame
  refine wpAnyH_take (i := 10) (oi := ⟨some 13, _, _, _, _, _⟩) (v := .agg (p.arr (.slice A3 p.r.length q3) (.slice A4 p.w.length q4))) rfl (by kernel_rfl) (by kernel_rfl) (by kernel_rfl) (fun _ _ _ h => h) (Or.inl ⟨by kernel_rfl, fun W hSw => by clear hSw; go_simp⟩) hHeld ?_
  go_frame
  refine wpAnyH_store_rowE (i := 11) (by kernel_rfl) rfl rfl _ _ _ rfl (w.heap.size + 1) (p.arr (.slice A3 p.r.length q3) (.slice A4 p.w.length q4)) (by kernel_rfl) (by kernel_rfl) _ _ k2 (by kernel_rfl) rfl (by kernel_rfl) (k1.setRow_far _ (by omega)) ?_
  intro w5 hw5
  go_frame
  refine wpAnyH_done (by kernel_rfl) ?_ _
  go_wp2
  refine post_cell rfl (by kernel_rfl) (by rw [hw5]; exact k2.setRow _) rfl rfl (by kernel_rfl) ?_
  subst hw5
  exact ⟨_, _, rfl, (o3.setRow_far (by omega) _).mono_base (by omega), (o4.setRow_far (by omega) _).mono_base (by omega), below_setRow hZ (by omega) _⟩

theorem hs_infoC : (Try.prog.info? 76).map (fun i => (i.zero, i.size, i.bytes)) = some (some (.agg #[.string ⟨#[]⟩, .slice none 0 0]), 2, 40) := by kernel_rfl
abbrev Pn.cl (p : Pn) (r q : Value) : List Value := [.int .i64 p.t.c, .int .i64 p.t.l, .int .i64 p.t.s, .int .i64 p.s.w, .int .i64 p.s.l, .int .i64 p.s.n, r, q]
/-- one row that grows -/
def Single {α : Type} (R : Rel α) (E size base : Nat) (w : World) (v : Value) (l : List α) : Prop := Pair R E size base w v (.slice none 0 0) l []
def CopiesRel {α : Type} (R : Rel α) (E size : Nat) (l : List α) (w : World) (v i : Value) (wr : World) : Prop := ∃ k : Nat, k ≤ l.length ∧ i = .int .i64 (k : Int) ∧ Single R E size w.heap.size wr v (l.take k) ∧ Below w.heap.size w wr
/-- what a copy of a list of structs leaves -/
def CopiesPost {α : Type} (R : Rel α) (E size : Nat) (l : List α) (w : World) : Ending → World → Prop := fun e w' => ∃ v, e = .returned v ∧ Single R E size w.heap.size w' v l ∧ Below w.heap.size w w'
def CopyV (a : Hs) (W : World) (i : Value) (wr : World) : Prop := ∃ (k : Nat) (v : Value), k ≤ a.vs.length ∧ i = .int .i64 (k : Int) ∧ Blk wr W.heap.size 76 #[.string a.key, v] ∧ OwnL Vn.cells 79 6 (W.heap.size + 1) wr v (a.vs.take k) ∧ Below W.heap.size W wr
set_option maxRecDepth 100000 in
set_option maxHeartbeats 4000000 in
theorem copyHs_any (A : Option Addr) (n c : Nat) (l : List Hs) (w : World) (h : Sl HsRel 2 w w.heap.size A n l) (hQ : SmallH l) :
    Calls Try.prog 27 #[.slice A n c] w (CopiesPost HsRel 76 2 l w) := by
  obtain ⟨i1, hi1, iz0, iz1, iz2⟩ := info_parts hs_infoC
  obtain ⟨i0, hi0, hz0, hz1, hz2⟩ := info_parts vn_info
  have hl := h.1
  have hge : n ≤ l.length := by omega
  have hle : l.length ≤ n := by omega
  have hn : n ≤ 1000000 := Nat.le_trans hge hQ.1
  clear hl
  go_enter Try.func27, Try.ntmps27
  go_wp2
  go_loopw [3, 4] (fun v i wr => CopiesRel HsRel 76 2 l w v i wr) (fun _ i _ => n - (intOf i).toNat)
  case atStart => exact ⟨0, by omega, rfl, Pair.nil _, Below.refl _ _⟩
  case round =>
    obtain ⟨k, hk, rfl, hp, hb⟩ := hrel
    have hzz := hb.size
    have hlen : (l.take k).length ≤ 1000000 := Nat.le_trans (List.length_take_le k l) (by omega)
    obtain ⟨Av, qv, rfl, hqv, hqvm⟩ := Pair.form1 hp
    by_cases hlt : k < n
    · obtain ⟨ad, a, A1, n1, c1, rfl, ha, hbk, hkz, d0, d1, hn1, hc1, hs1⟩ := ((h.below HsRel.kept hb).more HsRel.kept hb.size).hs hlt
      have hd1 : decide ((k : Int) < (n : Int)) = true := by simp; omega
      have hk0 : (0 : Int) ≤ (k : Int) := by omega
      have hk1 : (k : Int) < (n : Int) := by omega
      have hsm := hQ.2 a (List.mem_of_getElem? ha)
      have hl1 := hs1.1
      have hsm1 : n1 ≤ 1000000 := by omega
      have hge1 : n1 ≤ a.vs.length := by omega
      have hle1 : a.vs.length ≤ n1 := by omega
      have HS := Lib.hid (show l.take (k + 1) = l.take k ++ [a] by rw [List.take_add_one, ha]; rfl)
      have K1 := Lib.hid (fun k hk => Sl.all_ok hs1 k hk : ∀ k ∈ a.vs, Vn.ok k)
      have HA := Lib.hid ha
      clear ha hsm hl1
      generalize l.take k = L at *
      have i5 := Blk.new wr 76 #[.string a.key, .slice none 0 0]
      have hX0 : Below wr.heap.size wr (wr.alloc (.cells #[.string a.key, .slice none 0 0] 76)) := by go_grown
      go_wp2
      obtain ⟨wo, rfl⟩ : ∃ wo, wo = wr := ⟨_, rfl⟩
      clear d0 d1 hs1
      go_loopw [6] (fun i wr => CopyV a wo i wr) (fun i _ => n1 - (intOf i).toNat)
      case atStart => exact ⟨0, _, by omega, rfl, i5, OwnL.nil _, hX0⟩
      case round =>
        clear i5 hX0
        obtain ⟨k2, v, hk2, rfl, i5, ho, hb2⟩ := hrel
        have hz2' := hb2.size
        have hw : Below w.heap.size w wr := hb.trans (hb2.mono hzz)
        have hwz := hw.size
        obtain ⟨ad1, a1, B1, m1, c3, ex, ha1, hbk1, hok1, d0, d1, hm1, hc3, hs1⟩ := ((h.below HsRel.kept hw).more HsRel.kept hw.size).hs hlt
        injection ex with ex
        subst ex
        obtain rfl : a = a1 := Option.some.inj (HA.out.symm.trans ha1)
        obtain rfl : n1 = m1 := by have := hs1.1; omega
        clear ha1
        have hlv : (a.vs.take k2).length ≤ 1000000 := Nat.le_trans (List.length_take_le _ _) (by omega)
        have l5 := i5.lt
        obtain ⟨Bv, qb, rfl, hqb, hqbm⟩ := ho.form
        have y0 : wr.cell? ⟨wo.heap.size, 0, none⟩ = some (.string a.key) := i5.cell 0
        have y1 : wr.cell? ⟨wo.heap.size, 1, none⟩ = some (.slice Bv (a.vs.take k2).length qb) := i5.cell 1
        by_cases hlt2 : k2 < n1
        · obtain ⟨bd, x, rfl, hx, hxb, hxo, x0, x1, x2, x3, x4, x5⟩ := hs1.vn hlt2
          have hd3 : decide ((k2 : Int) < (n1 : Int)) = true := by simp; omega
          have hk20 : (0 : Int) ≤ (k2 : Int) := by omega
          have hk21 : (k2 : Int) < (n1 : Int) := by omega
          have HT := Lib.hid (show a.vs.take (k2 + 1) = a.vs.take k2 ++ [x] by rw [List.take_add_one, hx]; rfl)
          clear hx
          generalize a.vs.take k2 = V at *
          have hX : Below wr.heap.size wr (wr.alloc (.cells x.cells.toArray 79)).drew := ((Below.refl _ _).alloc (Nat.le_refl _) _).drew
          have hown0 := ho.below hX
          have hrd0 := (reads_new' wr 79 x.cells 6 rfl).drew
          have l6 : wo.heap.size < wr.heap.size + 1 := by omega
          go_wp2
          go_region_law (refine step_append_any _ rfl (.tmp 30) (.tmp 39) _ rfl (wo.heap.size + 1) 79 i0 _ 6 56 Try.underlying74 hi0 hz0 hz1 hz2 rfl (by omega) (.slice Bv V.length qb) _ (V.flatMap Vn.cells) (by simp [Act.eval]) hown0 _ (some ⟨wr.heap.size, 0, none⟩) 1 1 x.cells (by simp [Act.eval]) hrd0 (vn_one x) (by unfold maxLen; omega) (by omega) (by simp; omega) ?_; intro v3 w3 hown3 hg3 hat3; have e5 := (i5.alloc (.cells x.cells.toArray 79)).drew.grown hg3 (ho.ne (by omega)); have z1 := e5.cell 1; simp only [List.getElem?_toArray, List.getElem?_cons_succ, List.getElem?_cons_zero] at z1; have f1 := e5.frozen 1; obtain ⟨A3, q3, rfl, hq3, hq3m⟩ := own_form hown3)
          all_goals
            have hp3 := (OwnL.push x hown3).set_far (p := ⟨wo.heap.size, 1, none⟩) (by simp) (.slice A3 (V.length + 1) q3)
            have hbw := ((hb2.trans (hX.mono hz2')).grown hg3 (by have := hX.size; omega) (fun q hq => by have := (hown0.lt q hq).1; omega)).setCell (p := ⟨wo.heap.size, 1, none⟩) (Nat.le_refl _) (.slice A3 (V.length + 1) q3)
            go_wp2
            go_roundw
            case rel =>
              refine ⟨k2 + 1, _, by omega, by go_num, e5.set_ 1 _, ?_, hbw⟩
              rw [HT.out]
              exact hp3
            case measure => simp [intOf]; omega
        · have hd3 : decide ((k2 : Int) < (n1 : Int)) = false := by simp; omega
          have ht : a.vs.take k2 = a.vs := List.take_of_length_le (by omega)
          rw [ht] at ho hqb y1 i5
          clear ht hlv
          have hX : Below wr.heap.size wr (wr.alloc (.cells #[.string a.key, .slice Bv a.vs.length qb] 76)) := by go_grown
          have pX := (Pair.below HsRel.kept HsRel.mono hp hb2).below HsRel.kept HsRel.mono hX
          have hK : ∀ k, wo.heap.size + 1 ≤ k → k < (wr.alloc (.cells #[.string a.key, .slice Bv a.vs.length qb] 76)).heap.size → freeB w.heap.size (wr.alloc (.cells #[.string a.key, .slice Bv a.vs.length qb] 76)).heap.size (.slice Av L.length qv) (.slice none 0 0) k = true := Pair.fresh hp (by simp; omega) (by omega) (by omega)
          have hin : Inn HsRel (freeB w.heap.size (wr.alloc (.cells #[.string a.key, .slice Bv a.vs.length qb] 76)).heap.size (.slice Av L.length qv) (.slice none 0 0)) (wr.alloc (.cells #[.string a.key, .slice Bv a.vs.length qb] 76)) [.string a.key, .slice Bv a.vs.length qb] a :=
            ⟨_, rfl, hkz, OwnL.inn (by omega) vn_len (ho.below hX) K1.out hK⟩
          have HI := Lib.hid hin
          obtain ⟨xs, hown0, hpush⟩ := Pair.own1 HsRel.kept HsRel.mono pX
          have HP := Lib.hid hpush
          have hrd0 := reads_new' wr 76 [.string a.key, .slice Bv a.vs.length qb] 2 rfl
          have hone : ∀ u ∈ [Value.string a.key, Value.slice Bv a.vs.length qb], u.oneCell' = true := by
            intro u hu
            simp only [List.mem_cons, List.not_mem_nil, or_false] at hu
            rcases hu with rfl | rfl <;> rfl
          have HO := Lib.hid hone
          clear hpush hin hK hone hs1
          go_wp2_with (first
            | (at_builtin
               refine wpList_append_any _ rfl (.tmp 42) (.tmp 44) _ rfl w.heap.size 76 i1 _ 2 40 Try.underlying27 hi1 iz0 iz1 iz2 rfl (by omega) (.slice Av L.length qv) _ xs (by rfl) hown0 _ (some ⟨wr.heap.size, 0, none⟩) 1 1 [.string a.key, .slice Bv a.vs.length qb] (by rfl)
                 hrd0 HO.out (by unfold maxLen; omega) (by omega) (by simp; omega) ?_
               intro v3 w3 hown3 hg3 hat3
               obtain ⟨A3, q3, rfl, hq3, hq3m⟩ := own_form hown3))
          have hpn := HP.out _ a w3 _ rfl HI.out hown3 hg3 hat3
          have hbw := (hw.trans (hX.mono hwz)).grown hg3 (by have := hX.size; omega) (fun q hq => (hown0.lt q hq).1)
          go_roundw
          case rel =>
            refine ⟨k + 1, by omega, by go_num, ?_, hbw⟩
            rw [HS.out]
            exact hpn
          case measure => simp [intOf]; omega
    · have hd1 : decide ((k : Int) < (n : Int)) = false := by simp; omega
      rw [List.take_of_length_le (by omega)] at hp hqv
      rw [List.take_of_length_le (by omega)]
      go_wp2
      go_ret
      exact ⟨_, rfl, hp, hb⟩

end Go.Proofs.Ytipacjbegfingaa
/- The document's store in memory; the walks of its at and where. -/
namespace Go.Proofs.Ytipacjbegfingaa
set_option linter.unusedVariables false
open Go.RowKit Fl
attribute [local go_sem] run_store_float

/-- all blocks but g -/
def nb (g : Nat) : Nat → Bool := fun k => decide (k ≠ g)
theorem nb_iff {g k : Nat} : nb g k = true ↔ k ≠ g := by unfold nb; rw [decide_eq_true_eq]
/-- the document's store: its two lists, and the stamp up to which was read -/
structure RSt (w : World) (g : Nat) (B1 : Option Addr) (m1 d1 : Nat) (B2 : Option Addr) (m2 d2 : Nat) (L : Sp) (Hl : List Hs) (Pl : List Pn) : Prop where
  blk : Blk w g 86 #[.slice B1 m1 d1, .slice B2 m2 d2, .int .i64 L.w, .int .i64 L.l, .int .i64 L.n]
  hs : Sl HsRel 2 (only (nb g) w) w.heap.size B1 m1 Hl
  ps : Sl PnRel 8 (only (nb g) w) w.heap.size B2 m2 Pl
  le2 : m2 ≤ d2
  d2m : d2 ≤ maxLen
  m1 : m1 ≤ maxLen
  m2 : m2 ≤ maxLen
section
variable {w w' : World} {g : Nat} {B1 B2 : Option Addr} {m1 d1 m2 d2 : Nat} {L : Sp} {Hl : List Hs} {Pl : List Pn}
theorem RSt.below (h : RSt w g B1 m1 d1 B2 m2 d2 L Hl Pl) (hb : Below w.heap.size w w') : RSt w' g B1 m1 d1 B2 m2 d2 L Hl Pl := by
  have hk : ∀ p : Addr, p.block < w.heap.size → (only (nb g) w').cell? p = (only (nb g) w).cell? p := fun p hp => by
    cases hn : nb g p.block
    · rw [only_cell_out hn, only_cell_out hn]
    · rw [only_cell_in hn, only_cell_in hn]; exact hb.cell hp
  exact ⟨h.blk.below hb h.blk.lt, (h.hs.keep HsRel.kept hk).more HsRel.kept hb.size, (h.ps.keep PnRel.kept hk).more PnRel.kept hb.size, h.le2, h.d2m, h.m1, h.m2⟩
theorem RSt.hist (h : RSt w g B1 m1 d1 B2 m2 d2 L Hl Pl) : Sl HsRel 2 w w.heap.size B1 m1 Hl := h.hs.mono HsRel.mono fun p u _ hc => (only_cell hc).2
theorem RSt.pend (h : RSt w g B1 m1 d1 B2 m2 d2 L Hl Pl) : Sl PnRel 8 w w.heap.size B2 m2 Pl := h.ps.mono PnRel.mono fun p u _ hc => (only_cell hc).2
end

/-- the first place of a key from i on; -1: none -/
def atFrom (key : ByteArray) : Nat → List Hs → Int
  | _, [] => -1
  | i, h :: l => if h.key.toList == key.toList then (i : Int) else atFrom key (i + 1) l
theorem atFrom_drop {key : ByteArray} {l : List Hs} {k : Nat} {a : Hs} (h : l[k]? = some a) : atFrom key k (l.drop k) = if a.key.toList == key.toList then (k : Int) else atFrom key (k + 1) (l.drop (k + 1)) := by
  have h1 := List.getElem?_eq_some_iff.1 h
  rw [List.drop_eq_getElem_cons h1.1, h1.2]; rfl
def AtRel (key : ByteArray) (l : List Hs) (w : World) (i : Value) (wr : World) : Prop := ∃ k : Nat, k ≤ l.length ∧ i = .int .i64 (k : Int) ∧ atFrom key k (l.drop k) = atFrom key 0 l ∧ Below w.heap.size w wr
set_option maxRecDepth 100000 in
set_option maxHeartbeats 4000000 in
theorem rat_any (g : Nat) (B1 B2 : Option Addr) (m1 d1 m2 d2 : Nat) (L : Sp) (Hl : List Hs) (Pl : List Pn) (key : ByteArray) (w : World) (h : RSt w g B1 m1 d1 B2 m2 d2 L Hl Pl) :
    Calls Try.prog 77 #[.pointer (some ⟨g, 0, none⟩), .string key] w fun e w' => e = .returned (.int .i64 (atFrom key 0 Hl)) ∧ Below w.heap.size w w' := by
  have hm := h.m1
  unfold maxLen at hm
  have hl := h.hs.1
  have hge : m1 ≤ Hl.length := by omega
  have hle : Hl.length ≤ m1 := by omega
  clear hl
  go_enter Try.func77, Try.ntmps77
  go_wp2
  go_loopw [5] (fun i wr => AtRel key Hl w i wr) (fun i _ => m1 - (intOf i).toNat)
  case atStart => exact ⟨0, by omega, rfl, rfl, Below.refl _ _⟩
  case round =>
    obtain ⟨k, hk, rfl, hs, hb⟩ := hrel
    have hzz := hb.size
    have hr := h.below hb
    obtain ⟨gl, k0, k1, -, -, -⟩ := hr.blk.fiveC
    by_cases hlt : k < m1
    · obtain ⟨ad, a, A', n', c', rfl, ha, hbk, hok, c0, c1, hn', hc', hsv⟩ := hr.hist.hs hlt
      have hd1 : decide ((k : Int) < (m1 : Int)) = true := by simp; omega
      have hk0 : (0 : Int) ≤ (k : Int) := by omega
      have hk1 : (k : Int) < (m1 : Int) := by omega
      rw [atFrom_drop ha] at hs
      clear ha
      cases he : (a.key.toList == key.toList)
      · rw [he] at hs
        have HS := Lib.hid (show atFrom key (k + 1) (Hl.drop (k + 1)) = atFrom key 0 Hl from hs)
        clear hs
        go_wp2
        go_roundw
        case rel => exact ⟨k + 1, by omega, by go_num, HS.out, hb⟩
        case measure => simp [intOf]; omega
      · rw [he] at hs
        have HS := Lib.hid (show (k : Int) = atFrom key 0 Hl from hs)
        clear hs
        go_wp2
        go_ret
        rw [← HS.out]
        exact ⟨rfl, hb⟩
    · have hd1 : decide ((k : Int) < (m1 : Int)) = false := by simp; omega
      rw [List.drop_of_length_le (by omega)] at hs
      have HS := Lib.hid (show (-1 : Int) = atFrom key 0 Hl from hs)
      clear hs
      go_wp2
      go_ret
      rw [← HS.out]
      exact ⟨rfl, hb⟩

/-- the first place of a transaction from i on; -1: none -/
def whFrom (t : Tx) : Nat → List Pn → Int
  | _, [] => -1
  | i, p :: l => if decide (p.t = t) then (i : Int) else whFrom t (i + 1) l
theorem whFrom_drop {t : Tx} {l : List Pn} {k : Nat} {a : Pn} (h : l[k]? = some a) : whFrom t k (l.drop k) = if decide (a.t = t) then (k : Int) else whFrom t (k + 1) (l.drop (k + 1)) := by
  have h1 := List.getElem?_eq_some_iff.1 h
  rw [List.drop_eq_getElem_cons h1.1, h1.2]; rfl
theorem txn_run (a t : Tx) (w : World) : (Op.equalIn 10000 43 (.agg #[.int .i64 a.c, .int .i64 a.l, .int .i64 a.s]) (.agg #[.int .i64 t.c, .int .i64 t.l, .int .i64 t.s])).run Try.prog w = .ok (decide (a = t)) w := by
  have e : decide (a = t) = ((a.c == t.c) && (a.l == t.l) && (a.s == t.s)) := by
    obtain ⟨a1, a2, a3⟩ := a
    obtain ⟨b1, b2, b3⟩ := t
    rw [Bool.eq_iff_iff]
    simp [and_assoc]
  rw [e]
  cases h1 : (a.c == t.c) <;> cases h2 : (a.l == t.l) <;> cases h3 : (a.s == t.s)
  all_goals simp [go_sem, h1, h2, h3]
def WhRel (t : Tx) (l : List Pn) (w : World) (i : Value) (wr : World) : Prop := ∃ k : Nat, k ≤ l.length ∧ i = .int .i64 (k : Int) ∧ whFrom t k (l.drop k) = whFrom t 0 l ∧ Below w.heap.size w wr ∧ Blk wr w.heap.size 43 #[.int .i64 t.c, .int .i64 t.l, .int .i64 t.s]
set_option maxRecDepth 100000 in
set_option maxHeartbeats 4000000 in
theorem rwhere_any (g : Nat) (B1 B2 : Option Addr) (m1 d1 m2 d2 : Nat) (L : Sp) (Hl : List Hs) (Pl : List Pn) (t : Tx) (w : World) (h : RSt w g B1 m1 d1 B2 m2 d2 L Hl Pl) :
    Calls Try.prog 45 #[.pointer (some ⟨g, 0, none⟩), t.val] w fun e w' => e = .returned (.int .i64 (whFrom t 0 Pl)) ∧ Below w.heap.size w w' := by
  have hm := h.m2
  unfold maxLen at hm
  have hl := h.ps.1
  have hge : m2 ≤ Pl.length := by omega
  have hle : Pl.length ≤ m2 := by omega
  clear hl
  go_enter Try.func45, Try.ntmps45
  go_wp2
  go_loopw [5] (fun i wr => WhRel t Pl w i wr) (fun i _ => m2 - (intOf i).toNat)
  case atStart => exact ⟨0, by omega, rfl, rfl, by go_grown, Blk.new _ _ _⟩
  case round =>
    obtain ⟨k, hk, rfl, hs, hb, i3⟩ := hrel
    have hzz := hb.size
    have hr := h.below hb
    obtain ⟨gl, k0, k1, -, -, -⟩ := hr.blk.fiveC
    obtain ⟨g3, s0, s1, s2⟩ := i3.three
    by_cases hlt : k < m2
    · obtain ⟨ad, a, A1, n1, c1, A2, n2, c2, rfl, ha, hbk, hxt, hxs, e0, e1, e2, e3, e4, e5, e6, e7, hn1, hc1, hs1, hn2, hc2, hs2⟩ := hr.pend.pn hlt
      have hd1 : decide ((k : Int) < (m2 : Int)) = true := by simp; omega
      have hk0 : (0 : Int) ≤ (k : Int) := by omega
      have hk1 : (k : Int) < (m2 : Int) := by omega
      have hrun := fun w => txn_run a.t t w
      rw [whFrom_drop ha] at hs
      clear ha
      cases he : decide (a.t = t)
      · rw [he] at hs hrun
        have HS := Lib.hid (show whFrom t (k + 1) (Pl.drop (k + 1)) = whFrom t 0 Pl from hs)
        clear hs he
        go_wp2
        go_quiet (fail)
        all_goals go_wp2
        all_goals go_roundw
        case rel => exact ⟨k + 1, by omega, by go_num, HS.out, hb.trans ((belowN _).mono hzz), i3⟩
        case measure => simp [intOf]; omega
      · rw [he] at hs hrun
        have HS := Lib.hid (show (k : Int) = whFrom t 0 Pl from hs)
        clear hs he
        go_wp2
        go_quiet (fail)
        all_goals go_wp2
        all_goals go_ret
        rw [← HS.out]
        exact ⟨rfl, hb.trans ((belowN _).mono hzz)⟩
    · have hd1 : decide ((k : Int) < (m2 : Int)) = false := by simp; omega
      rw [List.drop_of_length_le (by omega)] at hs
      have HS := Lib.hid (show (-1 : Int) = whFrom t 0 Pl from hs)
      clear hs
      go_wp2
      go_ret
      rw [← HS.out]
      exact ⟨rfl, hb⟩
end Go.Proofs.Ytipacjbegfingaa
/- The walks of the document's upto (of all), Newest, old. -/
namespace Go.Proofs.Ytipacjbegfingaa
set_option linter.unusedVariables false
open Go.RowKit Fl
attribute [local go_sem] run_store_float

/-- the versions of the first history of a key -/
def rvers (key : ByteArray) (l : List Hs) : List Vn := match l.find? fun h => h.key.toList == key.toList with | some h => h.vs | none => []
theorem at_find (key : ByteArray) : ∀ (l : List Hs) (k : Nat), (atFrom key k l < 0 ∧ (l.find? fun h => h.key.toList == key.toList) = none) ∨ ∃ (i : Nat) (h : Hs), atFrom key k l = ((k + i : Nat) : Int) ∧ l[i]? = some h ∧ (l.find? fun h => h.key.toList == key.toList) = some h := by
  intro l
  induction l with
  | nil => intro k; exact .inl ⟨by show (-1 : Int) < 0; omega, rfl⟩
  | cons a l ih =>
    intro k
    by_cases he : (a.key.toList == key.toList) = true
    · refine .inr ⟨0, a, ?_, rfl, ?_⟩
      · show (if a.key.toList == key.toList then (k : Int) else _) = _; rw [if_pos he]; simp
      · rw [List.find?_cons, he]
    · have e1 : atFrom key k (a :: l) = atFrom key (k + 1) l := by show (if a.key.toList == key.toList then (k : Int) else _) = _; rw [if_neg he]
      have e2 : (a.key.toList == key.toList) = false := by simpa using he
      rw [e1, List.find?_cons, e2]
      rcases ih (k + 1) with ⟨h1, h2⟩ | ⟨i, h, h1, h2, h3⟩
      · exact .inl ⟨h1, h2⟩
      · exact .inr ⟨i + 1, h, by rw [h1]; omega, h2, h3⟩
theorem at_vers (key : ByteArray) (l : List Hs) : (atFrom key 0 l < 0 ∧ rvers key l = []) ∨ ∃ (i : Nat) (h : Hs), atFrom key 0 l = (i : Int) ∧ l[i]? = some h ∧ rvers key l = h.vs := by
  unfold rvers
  rcases at_find key l 0 with ⟨h1, h2⟩ | ⟨i, h, h1, h2, h3⟩
  · exact .inl ⟨h1, by rw [h2]⟩
  · exact .inr ⟨i, h, by rw [h1]; omega, h2, by rw [h3]⟩

set_option maxRecDepth 100000 in
set_option maxHeartbeats 8000000 in
theorem rupto_any (g : Nat) (B1 B2 : Option Addr) (m1 d1 m2 d2 : Nat) (L : Sp) (Hl : List Hs) (Pl : List Pn) (key : ByteArray) (s : Sp) (w : World) (h : RSt w g B1 m1 d1 B2 m2 d2 L Hl Pl) :
    Calls Try.prog 51 #[.pointer (some ⟨g, 0, none⟩), .string key, s.val, .bool true] w fun e w' => e = .returned (.agg (seenArr key (lastV (rvers key Hl)))) ∧ Below w.heap.size w w' := by
  have hm := h.m1
  unfold maxLen at hm
  have hl := h.hs.1
  have hX : Below w.heap.size w (((w.alloc (.cells s.arr 26)).alloc (.cells (seenArr ⟨#[]⟩ zeroVn) 98)).alloc (.cells (seenArr key zeroVn) 98)) := by go_grown
  have i8 : Blk (((w.alloc (.cells s.arr 26)).alloc (.cells (seenArr ⟨#[]⟩ zeroVn) 98)).alloc (.cells (seenArr key zeroVn) 98)) (w.heap.size + 1) 98 (seenArr ⟨#[]⟩ zeroVn) := (Blk.new' _ _ (by simp)).alloc _
  have i9 : Blk (((w.alloc (.cells s.arr 26)).alloc (.cells (seenArr ⟨#[]⟩ zeroVn) 98)).alloc (.cells (seenArr key zeroVn) 98)) (w.heap.size + 1 + 1) 98 (seenArr key zeroVn) := Blk.new' _ _ (by simp)
  have hA := rat_any g B1 B2 m1 d1 m2 d2 L Hl Pl key _ (h.below hX)
  rcases at_vers key Hl with ⟨hneg, hv⟩ | ⟨i, hh, hat, hi, hv⟩
  · have HV := Lib.hid hv
    clear hv hl
    generalize atFrom key 0 Hl = z at *
    have hz : decide (z < 0) = true := by simp; omega
    go_enter Try.func51, Try.ntmps51
    go_wp2_with (go_at_call 77; fail)
    refine hA.mono ?_
    rintro e w1 ⟨rfl, hb1⟩
    have b8 := i8.below hb1 i8.lt
    have b9 := i9.below hb1 i9.lt
    have hb := hX.trans (hb1.mono hX.size)
    obtain ⟨g9, x0, x1, x2, x3, x4, x5, x6⟩ := b9.sevenC
    have l8 := b8.lt
    go_wp2_with (refine wpList_store_row rfl 98 _ _ rfl _ _ rfl rfl _ _ b8 (by kernel_rfl) (by kernel_rfl) (by kernel_rfl) ?_)
    refine post_cell rfl (by rfl) (b8.setRow _) rfl rfl (by kernel_rfl) ?_
    rw [HV.out]
    exact ⟨rfl, below_setRow hb (by omega) _⟩
  · have HV := Lib.hid hv
    have hilt : i < m1 := by have := (List.getElem?_eq_some_iff.1 hi).1; omega
    rw [hat] at hA
    have HI := Lib.hid hi
    have hz : decide ((i : Int) < 0) = false := by simp
    have hi0 : (0 : Int) ≤ (i : Int) := by omega
    have hi1 : (i : Int) < (m1 : Int) := by omega
    clear hv hl hat hi
    go_enter Try.func51, Try.ntmps51
    go_wp2_with (go_at_call 77; fail)
    refine hA.mono ?_
    rintro e w1 ⟨rfl, hb1⟩
    have b8 := i8.below hb1 i8.lt
    have b9 := i9.below hb1 i9.lt
    have hb0 := hX.trans (hb1.mono hX.size)
    clear hb1 i8 i9 hX hA
    go_wp2
    go_loopw [11] (fun j wr => NewestRel key hh.vs w j wr) (fun j _ => hh.vs.length - (intOf j).toNat)
    case atStart => exact ⟨0, by omega, rfl, b8, b9, hb0⟩
    case round =>
      clear b8 b9 hb0
      obtain ⟨k, hk', rfl, b8, b9, hb⟩ := hrel
      have hzz := hb.size
      have hr := h.below hb
      obtain ⟨gl, k0, k1', -, -, -⟩ := hr.blk.fiveC
      obtain ⟨ad, a1, A', n', c', rfl, ha1, hbk, hok, d0, d1', hn', hc', hsv⟩ := hr.hist.hs hilt
      obtain rfl : hh = a1 := Option.some.inj (HI.out.symm.trans ha1)
      have hll := hsv.1
      have hge : n' ≤ hh.vs.length := by omega
      have hle : hh.vs.length ≤ n' := by omega
      unfold maxLen at hc'
      clear hll ha1
      by_cases hlt : k < n'
      · obtain ⟨bd, a, rfl, ha, hbk2, hok2, c0, c1, c2, c3, c4, c5⟩ := hsv.vn hlt
        have hd1 : decide ((k : Int) < (n' : Int)) = true := by simp; omega
        have hk0 : (0 : Int) ≤ (k : Int) := by omega
        have hk1 : (k : Int) < (n' : Int) := by omega
        have HS := Lib.hid (lastV_take ha)
        have b11 := Blk.new wr 79 #[.int .i64 a.s.w, .int .i64 a.s.l, .int .i64 a.s.n, .int .i64 a.v.k, .float .f64 a.v.n, .string a.v.t]
        have b9' := b9.alloc (.cells #[.int .i64 a.s.w, .int .i64 a.s.l, .int .i64 a.s.n, .int .i64 a.v.k, .float .f64 a.v.n, .string a.v.t] 79)
        have b8' := b8.alloc (.cells #[.int .i64 a.s.w, .int .i64 a.s.l, .int .i64 a.s.n, .int .i64 a.v.k, .float .f64 a.v.n, .string a.v.t] 79)
        have hb' := hb.alloc hzz (.cells #[.int .i64 a.s.w, .int .i64 a.s.l, .int .i64 a.s.n, .int .i64 a.v.k, .float .f64 a.v.n, .string a.v.t] 79)
        clear ha
        go_wp2
        generalize hg11 : wr.heap.size = g11 at *
        generalize (wr.alloc (.cells #[.int .i64 a.s.w, .int .i64 a.s.l, .int .i64 a.s.n, .int .i64 a.v.k, .float .f64 a.v.n, .string a.v.t] 79)) = wz at *
        obtain ⟨l11, x0, x1, x2, x3, x4, x5⟩ := b11.six
        obtain ⟨g9, y0, y1, y2, y3, y4, y5, y6⟩ := b9'.sevenC
        have ne9 : g11 ≠ w.heap.size + 1 + 1 := by have := b9.lt; omega
        have ne10 : ¬ w.heap.size + 1 + 1 = g11 := fun e => ne9 e.symm
        clear c0 c1 c2 c3 c4 c5
        refine wp_region_held_drew (S := fun w' => Blk w' g11 79 #[.int .i64 a.s.w, .int .i64 a.s.l, .int .i64 a.s.n, .int .i64 a.v.k, .float .f64 a.v.n, .string a.v.t]) (by kernel_rfl) b11 (fun hHeld => ?_)
        refine wpAnyH_take (i := 0) (oi := ⟨some 53, _, _, _, _, _⟩) (v := .pointer (some ⟨g11, 3, none⟩)) rfl (by kernel_rfl) (by kernel_rfl) (by kernel_rfl) (fun _ _ _ h => h) (Or.inl ⟨by kernel_rfl, fun w hSw => by clear hSw; go_simp⟩) hHeld ?_
        go_frame
        refine wpAnyH_take (i := 1) (oi := ⟨some 54, _, _, _, _, _⟩) rfl (by kernel_rfl) (by kernel_rfl) (by kernel_rfl) (fun _ _ _ h => h) (yieldsIf_load_mid (by kernel_rfl) _ _ rfl g11 3 rfl [.int .i64 a.v.k, .float .f64 a.v.n, .string a.v.t] _ (fun w h => h.range 3 _ (three_of rfl rfl rfl)) rfl rfl (by kernel_rfl)) hHeld ?_
        go_frame
        refine wpAnyH_take (i := 2) (oi := ⟨some 55, _, _, _, _, _⟩) (v := .pointer (some ⟨g11, 0, none⟩)) rfl (by kernel_rfl) (by kernel_rfl) (by kernel_rfl) (fun _ _ _ h => h) (Or.inl ⟨by kernel_rfl, fun w hSw => by clear hSw; go_simp⟩) hHeld ?_
        go_frame
        refine wpAnyH_take (i := 3) (oi := ⟨some 56, _, _, _, _, _⟩) rfl (by kernel_rfl) (by kernel_rfl) (by kernel_rfl) (fun _ _ _ h => h) (yieldsIf_load_mid (by kernel_rfl) _ _ rfl g11 0 rfl [.int .i64 a.s.w, .int .i64 a.s.l, .int .i64 a.s.n] _ (fun w h => h.range 0 _ (three_of rfl rfl rfl)) rfl rfl (by kernel_rfl)) hHeld ?_
        go_frame
        refine wpAnyH_take (i := 4) (oi := ⟨some 57, _, _, _, _, _⟩) (v := .pointer (some ⟨w.heap.size + 1 + 1, 1, none⟩)) rfl (by kernel_rfl) (by kernel_rfl) (by kernel_rfl) (fun _ _ _ h => h) (Or.inl ⟨by kernel_rfl, fun w hSw => by clear hSw; go_simp⟩) hHeld ?_
        go_frame
        have b9a := b9'.drew.setCells3 (x := .int .i64 a.v.k) (y := .float .f64 a.v.n) (z := .string a.v.t)
        have b11a := b11.drew.setCells3_far (o := 1) (x := .int .i64 a.v.k) (y := .float .f64 a.v.n) (z := .string a.v.t) ne9
        have b8a := b8'.drew.setCells3_far (b := w.heap.size + 1 + 1) (o := 1) (x := .int .i64 a.v.k) (y := .float .f64 a.v.n) (z := .string a.v.t) (by omega)
        have hba := below_setCells3 (b := w.heap.size + 1 + 1) (o := 1) (x := .int .i64 a.v.k) (y := .float .f64 a.v.n) (z := .string a.v.t) hb'.drew (by omega)
        refine wpAnyH_store_mid (i := 5) (by kernel_rfl) rfl rfl _ _ _ rfl (w.heap.size + 1 + 1) 1 #[.int .i64 a.v.k, .float .f64 a.v.n, .string a.v.t] rfl rfl (b9'.drew.there 1 3 (by simp)) (by kernel_rfl) (by kernel_rfl) b11a ?_
        go_frame
        generalize (wz.drew.setCells (w.heap.size + 1 + 1) 1 [.int .i64 a.v.k, .float .f64 a.v.n, .string a.v.t]) = wq at *
        refine wpAnyH_take (i := 6) (oi := ⟨some 58, _, _, _, _, _⟩) (v := .pointer (some ⟨w.heap.size + 1 + 1, 4, none⟩)) rfl (by kernel_rfl) (by kernel_rfl) (by kernel_rfl) (fun _ _ _ h => h) (Or.inl ⟨by kernel_rfl, fun w hSw => by clear hSw; go_simp⟩) b11a ?_
        go_frame
        have b9c := b9a.setCells3' (x := .int .i64 a.s.w) (y := .int .i64 a.s.l) (z := .int .i64 a.s.n)
        have b11c := b11a.setCells3_far (b := w.heap.size + 1 + 1) (o := 4) (x := .int .i64 a.s.w) (y := .int .i64 a.s.l) (z := .int .i64 a.s.n) ne9
        have b8c := b8a.setCells3_far (b := w.heap.size + 1 + 1) (o := 4) (x := .int .i64 a.s.w) (y := .int .i64 a.s.l) (z := .int .i64 a.s.n) (by omega)
        have hbc := below_setCells3 (b := w.heap.size + 1 + 1) (o := 4) (x := .int .i64 a.s.w) (y := .int .i64 a.s.l) (z := .int .i64 a.s.n) hba (by omega)
        refine wpAnyH_store_mid (i := 7) (by kernel_rfl) rfl rfl _ _ _ rfl (w.heap.size + 1 + 1) 4 #[.int .i64 a.s.w, .int .i64 a.s.l, .int .i64 a.s.n] rfl rfl (b9a.there 4 3 (by simp)) (by kernel_rfl) (by kernel_rfl) b11c ?_
        generalize (wq.setCells (w.heap.size + 1 + 1) 4 [.int .i64 a.s.w, .int .i64 a.s.l, .int .i64 a.s.n]) = wp at *
        refine wpAnyH_done (by kernel_rfl) ?_ _
        go_frame
        go_wp2
        go_roundw
        case rel =>
          refine ⟨k + 1, by omega, by go_num, b8c, ?_, hbc⟩
          rw [HS.out]
          exact b9c
        case measure => simp [intOf]; omega
      · have hd1 : decide ((k : Int) < (n' : Int)) = false := by simp; omega
        rw [List.take_of_length_le (by omega)] at b9
        obtain ⟨g9, x0, x1, x2, x3, x4, x5, x6⟩ := b9.sevenC
        have l8 := b8.lt
        go_wp2_with (refine wpList_store_row rfl 98 _ _ rfl _ _ rfl rfl _ _ b8 (by kernel_rfl) (by kernel_rfl) (by kernel_rfl) ?_)
        refine post_cell rfl (by rfl) (b8.setRow _) rfl rfl (by kernel_rfl) ?_
        rw [HV.out]
        exact ⟨rfl, below_setRow hb (by omega) _⟩

set_option maxRecDepth 100000 in
set_option maxHeartbeats 1000000 in
theorem rnewest_any (g : Nat) (B1 B2 : Option Addr) (m1 d1 m2 d2 : Nat) (L : Sp) (Hl : List Hs) (Pl : List Pn) (key : ByteArray) (w : World) (h : RSt w g B1 m1 d1 B2 m2 d2 L Hl Pl) :
    Calls Try.prog 76 #[.pointer (some ⟨g, 0, none⟩), .string key] w fun e w' => e = .returned (.agg (seenArr key (lastV (rvers key Hl)))) ∧ Below w.heap.size w w' := by
  have hX : Below w.heap.size w (w.alloc (.cells (seenArr ⟨#[]⟩ zeroVn) 98)) := by go_grown
  have i4 := Blk.new w 98 (seenArr ⟨#[]⟩ zeroVn)
  have hN := rupto_any g B1 B2 m1 d1 m2 d2 L Hl Pl key ⟨0, 0, 0⟩ _ (h.below hX)
  go_enter Try.func76, Try.ntmps76
  go_wp2_with (go_at_call 51; fail)
  refine hN.mono ?_
  rintro e w1 ⟨rfl, hb⟩
  have j4 := i4.below hb i4.lt
  go_wp2_with (refine wpList_store_row rfl 98 _ _ rfl _ _ rfl rfl _ _ j4 (by kernel_rfl) (by kernel_rfl) (by kernel_rfl) ?_)
  refine post_cell rfl (by rfl) (j4.setRow _) rfl rfl (by kernel_rfl) ?_
  exact ⟨rfl, below_setRow (hX.trans (hb.mono hX.size)) (by omega) _⟩
end Go.Proofs.Ytipacjbegfingaa
/- The walk of the document's old. -/
namespace Go.Proofs.Ytipacjbegfingaa
set_option linter.unusedVariables false
open Go.RowKit Fl
attribute [local go_sem] run_store_float

theorem wpList_store_newC {P : Program} {ops : Array Oper} {rest : List Oper} {o : Oper} {a : Act} {w : World} {Q : Exit → Act → World → Prop} (hgd : o.guard = none) (ty : TypeId) (x y : Operand) (ho : o.op = .store ty x y)
    (cells : Array Value) (hx : a.eval x = .pointer (some ⟨w.heap.size, 0, none⟩)) (hy : a.eval y = .agg cells)
    (t : TypeId) (old : Array Value) (hi : (P.info? ty).map (·.size) = some cells.size)
    (hold : old.size = cells.size) (h1 : cells.all (·.oneCell') = true)
    (h : wpList P ops Q rest (a.put o.dst undef) (w.alloc (.cells cells t))) : wpList P ops Q (o :: rest) a (w.alloc (.cells old t)) := by
  refine wpList_store_row hgd ty x y ho _ cells hx hy t old (Blk.new w t old) hi hold h1 ?_
  have e : (w.alloc (.cells old t)).setRow w.heap.size cells = w.alloc (.cells cells t) := by
    unfold World.setRow World.alloc
    congr 1
    apply Array.ext_getElem?
    intro i
    simp only [Array.getElem?_modify, Array.getElem?_push]
    by_cases h : i = w.heap.size
    · subst h; simp
    · have h' : w.heap.size ≠ i := fun e => h e.symm
      simp [h, h']
  rw [e]; exact h
/-- is a version there that does not stand below? -/
def roldF (H : List Hs) (s : Sp) (a : Wt) : Bool := decide (0 ≤ atFrom a.key 0 H) && decide (0 ≤ (lastV (rvers a.key H)).s.cmp s)
def roldB (H : List Hs) (p : Pn) : Bool := p.w.any (roldF H p.s)
def OldRel (f : Wt → Bool) (l : List Wt) (p : Pn) (A1 A2 : Value) (w : World) (i : Value) (wr : World) : Prop :=
  ∃ k : Nat, k ≤ l.length ∧ i = .int .i64 (k : Int) ∧ (l.drop k).any f = l.any f ∧ Below w.heap.size w wr ∧ Blk wr w.heap.size 47 (p.arr A1 A2)
set_option maxRecDepth 100000 in
set_option maxHeartbeats 4000000 in
theorem rold_any (g : Nat) (B1 B2 : Option Addr) (m1 d1 m2 d2 : Nat) (L : Sp) (Hl : List Hs) (Pl : List Pn) (p : Pn) (A1 A2 : Option Addr) (n1 n2 c1 c2 : Nat) (w : World) (h : RSt w g B1 m1 d1 B2 m2 d2 L Hl Pl) (hw : Sl WtRel 4 w w.heap.size A2 n2 p.w) (hn2 : n2 ≤ maxLen) :
    Calls Try.prog 47 #[.pointer (some ⟨g, 0, none⟩), p.val (.slice A1 n1 c1) (.slice A2 n2 c2)] w fun e w' => e = .returned (.bool (roldB Hl p)) ∧ Below w.heap.size w w' := by
  unfold maxLen at hn2
  have hl := hw.1
  have hge : n2 ≤ p.w.length := by omega
  have hle : p.w.length ≤ n2 := by omega
  clear hl
  have hO : roldB Hl p = p.w.any (roldF Hl p.s) := rfl
  generalize roldB Hl p = B at *
  go_enter Try.func47, Try.ntmps47
  go_wp2
  go_loopw [5] (fun i wr => OldRel (roldF Hl p.s) p.w p (.slice A1 n1 c1) (.slice A2 n2 c2) w i wr) (fun i _ => n2 - (intOf i).toNat)
  case atStart => exact ⟨0, by omega, rfl, rfl, by go_grown, Blk.new _ _ _⟩
  case round =>
    obtain ⟨k, hk, rfl, hs, hb, b3⟩ := hrel
    have hzz := hb.size
    obtain ⟨l3, y0, y1, y2, y3, y4, y5, y6, y7⟩ := b3.eight
    by_cases hlt : k < n2
    · obtain ⟨ad, a, rfl, ha, hbk, hok, e0, -, -, -⟩ := ((hw.below WtRel.kept hb).more WtRel.kept hb.size).wt hlt
      have hd1 : decide ((k : Int) < (n2 : Int)) = true := by simp; omega
      have hk0 : (0 : Int) ≤ (k : Int) := by omega
      have hk1 : (k : Int) < (n2 : Int) := by omega
      rw [any_dropE ha] at hs
      have hf : roldF Hl p.s a = (decide (0 ≤ atFrom a.key 0 Hl) && decide (0 ≤ (lastV (rvers a.key Hl)).s.cmp p.s)) := rfl
      have hN := rnewest_any g B1 B2 m1 d1 m2 d2 L Hl Pl a.key wr (h.below hb)
      have HAT := Lib.hid (fun w' (hx : Below wr.heap.size wr w') => rat_any g B1 B2 m1 d1 m2 d2 L Hl Pl a.key w' (h.below (hb.trans (hx.mono hzz))))
      have HC := Lib.hid (fun w' => rcmp_any (lastV (rvers a.key Hl)).s p.s w')
      clear ha
      generalize roldF Hl p.s a = F at *
      generalize lastV (rvers a.key Hl) = V at *
      generalize atFrom a.key 0 Hl = Z at *
      generalize V.s.cmp p.s = Cm at *
      have HF := Lib.hid hf
      have HS := Lib.hid hs
      clear hf hs
      go_wp2_with (go_at_call 76; fail)
      refine hN.mono ?_
      rintro e w1 ⟨rfl, hb1⟩
      have b31 := b3.below hb1 l3
      have e01 := (hb1.cell (by exact hbk)).trans e0
      have l31 := b31.lt
      have l32 : w.heap.size < w1.heap.size + 1 := by omega
      obtain ⟨-, x0, x1, x2, x3, x4, x5, x6, x7⟩ := b31.eight
      have hbk1 : (ad.add (k * 4)).block < w1.heap.size + 1 := by have := hb1.size; omega
      clear y0 y1 y2 y3 y4 y5 y6 y7 hN
      have hX : Below wr.heap.size wr (w1.alloc (.cells (seenArr a.key V) 98)) := hb1.alloc hb1.size _
      have e02 : (w1.alloc (.cells (seenArr a.key V) 98)).cell? (ad.add (k * 4)) = some (.string a.key) := (hX.cell hbk).trans e0
      have i6 := Blk.new w1 98 (seenArr a.key V)
      have b32 := b31.alloc (.cells (seenArr a.key V) 98)
      by_cases hZ : (0 : Int) ≤ Z
      · have hz1 : decide ((0 : Int) ≤ Z) = true := by simp [hZ]
        have hA := HAT.out _ hX
        go_wp2_with (first
          | (refine wpList_store_newC rfl 98 _ _ rfl _ rfl rfl _ _ (by kernel_rfl) (by kernel_rfl) (by kernel_rfl) ?_)
          | (go_at_call 77; fail))
        refine hA.mono ?_
        rintro e w2 ⟨rfl, hb2⟩
        have i62 := i6.below hb2 i6.lt
        have b33 := b32.below hb2 b32.lt
        have hY : Below wr.heap.size wr w2 := hX.trans (hb2.mono hX.size)
        obtain ⟨j6, z0, z1, z2, z3, z4, z5, z6⟩ := i62.sevenC
        obtain ⟨j3, q0, q1, q2, q3, q4, q5, q6, q7⟩ := b33.eight
        by_cases hC : (0 : Int) ≤ Cm
        · have hc1 : decide ((0 : Int) ≤ Cm) = true := by simp [hC]
          have HB := Lib.hid (show B = true by rw [hO, ← HS.out, HF.out, hz1, hc1]; rfl)
          go_wp2_with ((with_reducible refine (HC.out _).mono ?_); rintro e w4 ⟨rfl, hb4⟩)
          go_ret
          rw [HB.out]
          exact ⟨rfl, hb.trans ((hY.trans (hb4.mono hY.size)).mono hzz)⟩
        · have hc1 : decide ((0 : Int) ≤ Cm) = false := by simp; omega
          have HT := Lib.hid (show (p.w.drop (k + 1)).any (roldF Hl p.s) = p.w.any (roldF Hl p.s) by rw [← HS.out, HF.out, hz1, hc1]; rfl)
          go_wp2_with ((with_reducible refine (HC.out _).mono ?_); rintro e w4 ⟨rfl, hb4⟩)
          have hQ := hY.trans (hb4.mono hY.size)
          go_roundw
          case rel => exact ⟨k + 1, by omega, by go_num, HT.out, hb.trans (hQ.mono hzz), b3.below hQ l3⟩
          case measure => simp [intOf]; omega
      · have hz1 : decide ((0 : Int) ≤ Z) = false := by simp; omega
        have hA := HAT.out _ hX
        have HT := Lib.hid (show (p.w.drop (k + 1)).any (roldF Hl p.s) = p.w.any (roldF Hl p.s) by rw [← HS.out, HF.out, hz1]; rfl)
        go_wp2_with (first
          | (refine wpList_store_newC rfl 98 _ _ rfl _ rfl rfl _ _ (by kernel_rfl) (by kernel_rfl) (by kernel_rfl) ?_)
          | (go_at_call 77; fail))
        refine hA.mono ?_
        rintro e w2 ⟨rfl, hb2⟩
        have hY : Below wr.heap.size wr w2 := hX.trans (hb2.mono hX.size)
        go_wp2
        go_roundw
        case rel => exact ⟨k + 1, by omega, by go_num, HT.out, hb.trans (hY.mono hzz), b3.below hY l3⟩
        case measure => simp [intOf]; omega
    · have hd1 : decide ((k : Int) < (n2 : Int)) = false := by simp; omega
      have HB := Lib.hid (show B = false by rw [hO, ← hs, List.drop_of_length_le (by omega)]; rfl)
      clear hs
      go_wp2
      go_ret
      rw [HB.out]
      exact ⟨rfl, hb⟩
end Go.Proofs.Ytipacjbegfingaa
/- The walks of raceref15.Texts, raceref10.TxnLess, raceref11.in. -/
namespace Go.Proofs.Ytipacjbegfingaa
set_option linter.unusedVariables false
open Go.RowKit Fl
attribute [local go_sem] run_store_float

/-- does a transaction stand ahead of another one? -/
def Tx.less (a b : Tx) : Bool := if a.c ≠ b.c then decide (a.c < b.c) else if a.l ≠ b.l then decide (a.l < b.l) else decide (a.s < b.s)
set_option maxHeartbeats 1000000 in
theorem rtxnLess_any (a b : Tx) (w : World) : Calls Try.prog 78 #[a.val, b.val] w fun e w' => e = .returned (.bool (a.less b)) ∧ Below w.heap.size w w' := by
  by_cases h1 : a.c = b.c
  · by_cases h2 : a.l = b.l
    · have hr : a.less b = decide (a.s < b.s) := by unfold Tx.less; simp [h1, h2]
      have hq1 : (a.c != b.c) = false := by simp [h1]
      have hq2 : (a.l != b.l) = false := by simp [h2]
      rw [hr]
      clear hr h1 h2
      go_enter Try.func78, Try.ntmps78
      go_wp2
      go_ret
      exact ⟨rfl, by go_grown⟩
    · have hr : a.less b = decide (a.l < b.l) := by unfold Tx.less; simp [h1, h2]
      have hq1 : (a.c != b.c) = false := by simp [h1]
      have hq2 : (a.l != b.l) = true := by simp [h2]
      rw [hr]
      clear hr h1 h2
      go_enter Try.func78, Try.ntmps78
      go_wp2
      go_ret
      exact ⟨rfl, by go_grown⟩
  · have hr : a.less b = decide (a.c < b.c) := by unfold Tx.less; simp [h1]
    have hq1 : (a.c != b.c) = true := by simp [h1]
    rw [hr]
    clear hr h1
    go_enter Try.func78, Try.ntmps78
    go_wp2
    go_ret
    exact ⟨rfl, by go_grown⟩
end Go.Proofs.Ytipacjbegfingaa
