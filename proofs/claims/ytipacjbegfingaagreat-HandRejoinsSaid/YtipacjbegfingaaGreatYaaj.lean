/- The walk of hand.halves. -/
import Derived.Deep.RegionLaw
import Derived.Test.YtipacjbegfingaaGreatYaac
import Derived.Test.YtipacjbegfingaaGreatYaaf
import Derived.Test.YtipacjbegfingaaGreatYaah
namespace Go.Proofs.YtipacjbegfingaaGreat
open Go.RowKit Fl
attribute [local go_sem] run_store_float

/-- one store of a whole struct comes up alone; the world behind it is told -/
theorem wpAnyH_store_rowE {P : Program} {md : Region.Mode} {ops : Array Oper} {Q : Exit → Act → World → Prop} {S : World → Prop} {fuel : Nat} {listed : Array Bool} {a : Act} {w : World} {i : Nat} {op : Oper}
    (hr : Region.ready md ops listed = [i]) (ho : ops[i]? = some op) (hg : op.guard = none) (ty : TypeId) (x y : Operand) (hop : op.op = .store ty x y)
    (g : Nat) (cells : Array Value) (hx : a.eval x = .pointer (some ⟨g, 0, none⟩)) (hy : a.eval y = .agg cells) (t : TypeId) (old : Array Value) (hb : Blk w g t old) (hi : (P.info? ty).map (·.size) = some cells.size) (hold : old.size = cells.size) (h1 : cells.all (·.oneCell') = true)
    (hS : S (w.setRow g cells)) (h : ∀ w', w' = w.setRow g cells → wpAnyH P md ops Q S fuel (listed.setIfInBounds i true) (a.put op.dst undef) w') : wpAnyH P md ops Q S (fuel + 1) listed a w := by
  refine wpAnyH_all hr (by simp) (fun j hj => ?_)
  obtain rfl : j = i := by simpa using hj
  refine wpOp_step ho (fun K' hK => ?_)
  have hw : Region.wanted op (yielded ops a.tmps) = true := by simp [Region.wanted, hg]
  rw [if_pos hw]
  exact wp_store_row ty x y hop g cells hx hy t old hb hi hold h1 (hK _ _ ⟨hS, h _ rfl⟩)
theorem yieldsIf_load_row {P : Program} {ops : Array Oper} {S : World → Prop} {op : Oper} {a : Act} (hw : Region.wanted op (yielded ops a.tmps) = true) (ty : TypeId) (x : Operand) (ho : op.op = .load ty x)
    (g : Nat) (hx : a.eval x = .pointer (some ⟨g, 0, none⟩)) (t : TypeId) (cs : Array Value) (d : TypeDesc) (hS : ∀ w, S w → Blk w g t cs)
    (hu : P.underlying ty = some d) (hd : (match d with | .struct _ | .array _ _ => true | _ => false) = true) (hi : (P.info? ty).map (·.size) = some cs.size) : YieldsIf P ops S op (.agg cs) a :=
  .inl ⟨hw, fun w hw' => by
    unfold execOp
    simp only [ho, hx, Instr.loadAt, Instr.sureAddr, Sem.run_bind, Sem.run_pure, Result.andThen_ok, run_loadVar_row w g t ty cs (0, 0) d (hS w hw') hu hd hi]⟩
theorem OwnL.ne {α : Type} {f : α → List Value} {E size base : Nat} {w : World} {v : Value} {l : List α} (h : OwnL f E size base w v l) {g : Nat} (hg : g < base) : some g ≠ v.ownBlock := by
  rcases h.far hg with e | e
  · rw [e]; simp
  · exact fun e2 => e e2.symm

theorem OwnL.drew {α : Type} {f : α → List Value} {E size base : Nat} {w : World} {v : Value} {l : List α} (h : OwnL f E size base w v l) : OwnL f E size base w.drew v l := World.ownsRow.drew h
end Go.Proofs.YtipacjbegfingaaGreat
/- The walks of raceref's copies: Strings, CopyWrites, CopyPending, CopyPendings, CopyHistories, CopyState. -/
namespace Go.Proofs.YtipacjbegfingaaGreat
set_option linter.unusedVariables false
open Go.RowKit Fl
attribute [local go_sem] run_store_float

def CopyRel {α : Type} (f : α → List Value) (E size : Nat) (l : List α) (w : World) (v i : Value) (wr : World) : Prop := ∃ k : Nat, k ≤ l.length ∧ i = .int .i64 (k : Int) ∧ OwnL f E size w.heap.size wr v (l.take k) ∧ Below w.heap.size w wr
set_option maxRecDepth 100000 in
set_option maxHeartbeats 4000000 in
theorem strings_any (A : Option Addr) (n c : Nat) (l : List ByteArray) (w : World) (h : Sl KyRel 1 w w.heap.size A n l) (hn : n ≤ 1000000) :
    Calls Tryz.prog 75 #[.slice A n c] w fun e w' => ∃ v, e = .returned v ∧ OwnL keyCells 9 1 w.heap.size w' v l ∧ Below w.heap.size w w' := by
  obtain ⟨i0, hi0, hz0, hz1, hz2⟩ := info_parts ky_info
  have hl := h.1
  have hle : l.length ≤ n := by omega
  have hge : n ≤ l.length := by omega
  clear hl
  go_enter Tryz.func75, Tryz.ntmps75
  go_wp2
  go_loopw [3, 4] (fun v i wr => CopyRel keyCells 9 1 l w v i wr) (fun _ i _ => n - (intOf i).toNat)
  case atStart => exact ⟨0, by omega, rfl, OwnL.nil _, Below.refl _ _⟩
  case round =>
    obtain ⟨k, hk, rfl, ho, hb⟩ := hrel
    have hzz := hb.size
    by_cases hlt : k < n
    · obtain ⟨ad, a, rfl, ha, hbk, hok, c0⟩ := (h.below KyRel.kept hb).ky hlt
      have hd1 : decide ((k : Int) < (n : Int)) = true := by simp; omega
      have hk0 : (0 : Int) ≤ (k : Int) := by omega
      have hk1 : (k : Int) < (n : Int) := by omega
      have HS := Lib.hid (show l.take (k + 1) = l.take k ++ [a] by rw [List.take_add_one, ha]; rfl)
      have hln : (l.take k).length ≤ 1000000 := by simp; omega
      clear ha
      obtain ⟨A1, q1, rfl, hq1, hq1m⟩ := ho.form
      generalize l.take k = ks at *
      have hX : Below wr.heap.size wr (wr.alloc (.cells (keyCells a).toArray 9)) := (Below.refl _ _).alloc (Nat.le_refl _) _
      have hown0 := ho.below hX
      have hrd0 := reads_new' wr 9 (keyCells a) 1 rfl
      go_wp2_with (first
        | (at_builtin
           refine wpList_append_any _ rfl (.tmp 11) (.tmp 16) _ rfl w.heap.size 9 i0 _ 1 16 Tryz.underlying42 hi0 hz0 hz1 hz2 rfl (by omega) (.slice A1 ks.length q1) _ (ks.flatMap keyCells) (by rfl) hown0 _ (some ⟨wr.heap.size, 0, none⟩) 1 1 (keyCells a) (by rfl)
             hrd0 (ky_one a) (by unfold maxLen; omega) (by omega) (by simp; omega) ?_
           intro v3 w3 hown3 hg3 hat3
           obtain ⟨A3, q3, rfl, hq3, hq3m⟩ := own_form hown3))
      have hp := OwnL.push a hown3
      have hbw := (hb.trans (hX.mono hzz)).grown hg3 (by simp; omega) (fun q hq => (hown0.lt q hq).1)
      go_roundw
      case rel =>
        refine ⟨k + 1, by omega, by go_num, ?_, hbw⟩
        rw [HS.out]
        exact hp
      case measure => simp [intOf]; omega
    · have hd1 : decide ((k : Int) < (n : Int)) = false := by simp; omega
      rw [List.take_of_length_le (by omega)] at ho
      obtain ⟨A1, q1, rfl, hq1, hq1m⟩ := ho.form
      go_wp2
      go_ret
      exact ⟨_, rfl, ho, hb⟩
set_option maxRecDepth 100000 in
set_option maxHeartbeats 4000000 in
theorem copyW_any (A : Option Addr) (n c : Nat) (l : List Wt) (w : World) (h : Sl WtRel 4 w w.heap.size A n l) (hn : n ≤ 1000000) :
    Calls Tryz.prog 76 #[.slice A n c] w fun e w' => ∃ v, e = .returned v ∧ OwnL Wt.cells 86 4 w.heap.size w' v l ∧ Below w.heap.size w w' := by
  obtain ⟨i0, hi0, hz0, hz1, hz2⟩ := info_parts wt_info
  have hl := h.1
  have hle : l.length ≤ n := by omega
  have hge : n ≤ l.length := by omega
  clear hl
  go_enter Tryz.func76, Tryz.ntmps76
  go_wp2
  go_loopw [3, 4] (fun v i wr => CopyRel Wt.cells 86 4 l w v i wr) (fun _ i _ => n - (intOf i).toNat)
  case atStart => exact ⟨0, by omega, rfl, OwnL.nil _, Below.refl _ _⟩
  case round =>
    obtain ⟨k, hk, rfl, ho, hb⟩ := hrel
    have hzz := hb.size
    by_cases hlt : k < n
    · obtain ⟨ad, a, rfl, ha, hbk, hok, c0, c1, c2, c3⟩ := (h.below WtRel.kept hb).wt hlt
      have hd1 : decide ((k : Int) < (n : Int)) = true := by simp; omega
      have hk0 : (0 : Int) ≤ (k : Int) := by omega
      have hk1 : (k : Int) < (n : Int) := by omega
      have HS := Lib.hid (show l.take (k + 1) = l.take k ++ [a] by rw [List.take_add_one, ha]; rfl)
      have hln : (l.take k).length ≤ 1000000 := by simp; omega
      clear ha
      obtain ⟨A1, q1, rfl, hq1, hq1m⟩ := ho.form
      generalize l.take k = ks at *
      have hX : Below wr.heap.size wr (wr.alloc (.cells a.cells.toArray 86)) := (Below.refl _ _).alloc (Nat.le_refl _) _
      have hown0 := ho.below hX
      have hrd0 := reads_new' wr 86 a.cells 4 rfl
      go_wp2_with (first
        | (at_builtin
           refine wpList_append_any _ rfl (.tmp 11) (.tmp 16) _ rfl w.heap.size 86 i0 _ 4 48 Tryz.underlying43 hi0 hz0 hz1 hz2 rfl (by omega) (.slice A1 ks.length q1) _ (ks.flatMap Wt.cells) (by rfl) hown0 _ (some ⟨wr.heap.size, 0, none⟩) 1 1 a.cells (by rfl)
             hrd0 (wt_one a) (by unfold maxLen; omega) (by omega) (by simp; omega) ?_
           intro v3 w3 hown3 hg3 hat3
           obtain ⟨A3, q3, rfl, hq3, hq3m⟩ := own_form hown3))
      have hp := OwnL.push a hown3
      have hbw := (hb.trans (hX.mono hzz)).grown hg3 (by simp; omega) (fun q hq => (hown0.lt q hq).1)
      go_roundw
      case rel =>
        refine ⟨k + 1, by omega, by go_num, ?_, hbw⟩
        rw [HS.out]
        exact hp
      case measure => simp [intOf]; omega
    · have hd1 : decide ((k : Int) < (n : Int)) = false := by simp; omega
      rw [List.take_of_length_le (by omega)] at ho
      obtain ⟨A1, q1, rfl, hq1, hq1m⟩ := ho.form
      go_wp2
      go_ret
      exact ⟨_, rfl, ho, hb⟩

set_option maxRecDepth 100000 in
set_option maxHeartbeats 4000000 in
theorem copyP_any (p : Pn) (A1 A2 : Option Addr) (n1 n2 c1 c2 : Nat) (w : World) (hr : Sl KyRel 1 w w.heap.size A1 n1 p.r) (hw : Sl WtRel 4 w w.heap.size A2 n2 p.w) (hn1 : n1 ≤ 1000000) (hn2 : n2 ≤ 1000000) :
    Calls Tryz.prog 46 #[p.val (.slice A1 n1 c1) (.slice A2 n2 c2)] w (ClonePost p w) := by
  have hX : Below w.heap.size w ((w.alloc (.cells (p.arr (.slice A1 n1 c1) (.slice A2 n2 c2)) 45)).alloc (.cells zeroPn 45)) := by go_grown
  have i1 : Blk ((w.alloc (.cells (p.arr (.slice A1 n1 c1) (.slice A2 n2 c2)) 45)).alloc (.cells zeroPn 45)) w.heap.size 45 (p.arr (.slice A1 n1 c1) (.slice A2 n2 c2)) := (Blk.new _ _ _).alloc _
  have i2 : Blk ((w.alloc (.cells (p.arr (.slice A1 n1 c1) (.slice A2 n2 c2)) 45)).alloc (.cells zeroPn 45)) (w.heap.size + 1) 45 zeroPn := Blk.new' _ _ (by simp)
  have hT := fun w' (hb : Below w.heap.size w w') => strings_any A1 n1 c1 p.r w' ((hr.below KyRel.kept hb).more KyRel.kept hb.size) hn1
  have hW := fun w' (hb : Below w.heap.size w w') => copyW_any A2 n2 c2 p.w w' ((hw.below WtRel.kept hb).more WtRel.kept hb.size) hn2
  go_enter Tryz.func46, Tryz.ntmps46
  go_wp2
  generalize ((w.alloc (.cells (p.arr (.slice A1 n1 c1) (.slice A2 n2 c2)) 45)).alloc (.cells zeroPn 45)) = w0 at *
  have l1 := i1.lt
  have l2 := i2.lt
  refine wp_region_held_drew (S := fun w' => Blk w' w.heap.size 45 (p.arr (.slice A1 n1 c1) (.slice A2 n2 c2))) (by kernel_rfl) i1.drew (fun hHeld => ?_)
  refine wpAnyH_take (i := 0) (oi := ⟨some 3, _, _, _, _, _⟩) (v := .pointer (some ⟨w.heap.size, 0, none⟩)) rfl (by kernel_rfl) (by kernel_rfl) (by kernel_rfl) (fun _ _ _ h => h) (Or.inl ⟨by kernel_rfl, fun W hSw => by clear hSw; go_simp⟩) hHeld ?_
  go_frame
  refine wpAnyH_take (i := 1) (oi := ⟨some 4, _, _, _, _, _⟩) rfl (by kernel_rfl) (by kernel_rfl) (by kernel_rfl) (fun _ _ _ h => h) (yieldsIf_load_mid (by kernel_rfl) _ _ rfl w.heap.size 0 rfl [.int .i64 p.t.c, .int .i64 p.t.l, .int .i64 p.t.s] _ (fun W hSw => Blk.range hSw 0 _ (three_of rfl rfl rfl)) rfl rfl (by kernel_rfl)) hHeld ?_
  go_frame
  refine wpAnyH_take (i := 2) (oi := ⟨some 5, _, _, _, _, _⟩) (v := .pointer (some ⟨w.heap.size, 3, none⟩)) rfl (by kernel_rfl) (by kernel_rfl) (by kernel_rfl) (fun _ _ _ h => h) (Or.inl ⟨by kernel_rfl, fun W hSw => by clear hSw; go_simp⟩) hHeld ?_
  go_frame
  refine wpAnyH_take (i := 3) (oi := ⟨some 6, _, _, _, _, _⟩) rfl (by kernel_rfl) (by kernel_rfl) (by kernel_rfl) (fun _ _ _ h => h) (yieldsIf_load_mid (by kernel_rfl) _ _ rfl w.heap.size 3 rfl [.int .i64 p.s.w, .int .i64 p.s.l, .int .i64 p.s.n] _ (fun W hSw => Blk.range hSw 3 _ (three_of rfl rfl rfl)) rfl rfl (by kernel_rfl)) hHeld ?_
  go_frame
  refine wpAnyH_take (i := 4) (oi := ⟨some 7, _, _, _, _, _⟩) (v := .pointer (some ⟨w.heap.size, 6, none⟩)) rfl (by kernel_rfl) (by kernel_rfl) (by kernel_rfl) (fun _ _ _ h => h) (Or.inl ⟨by kernel_rfl, fun W hSw => by clear hSw; go_simp⟩) hHeld ?_
  go_frame
  refine wpAnyH_take (i := 5) (oi := ⟨some 8, _, _, _, _, _⟩) (v := .slice A1 n1 c1) rfl (by kernel_rfl) (by kernel_rfl) (by kernel_rfl) (fun _ _ _ h => h) (Or.inl ⟨by kernel_rfl, fun W hSw => by have z : W.cell? ⟨w.heap.size, 6, none⟩ = some (.slice A1 n1 c1) := Blk.cell hSw 6; clear hSw; go_simp⟩) hHeld ?_
  go_frame
  refine wpAnyH_take (i := 7) (oi := ⟨some 10, _, _, _, _, _⟩) (v := .pointer (some ⟨w.heap.size, 7, none⟩)) rfl (by kernel_rfl) (by kernel_rfl) (by kernel_rfl) (fun _ _ _ h => h) (Or.inl ⟨by kernel_rfl, fun W hSw => by clear hSw; go_simp⟩) hHeld ?_
  go_frame
  refine wpAnyH_take (i := 8) (oi := ⟨some 11, _, _, _, _, _⟩) (v := .slice A2 n2 c2) rfl (by kernel_rfl) (by kernel_rfl) (by kernel_rfl) (fun _ _ _ h => h) (Or.inl ⟨by kernel_rfl, fun W hSw => by have z : W.cell? ⟨w.heap.size, 7, none⟩ = some (.slice A2 n2 c2) := Blk.cell hSw 7; clear hSw; go_simp⟩) hHeld ?_
  go_frame
  refine wpAnyH_ready (rs := [6]) (by kernel_rfl) (by simp) ?_
  refine AllReadyH.cons rfl (fun K hK => ?_) AllReadyH.nil
  go_simp
  refine (hT _ hX.drew).mono ?_
  rintro e w3 ⟨v3, rfl, o3, hb3⟩
  have j1 := i1.drew.below hb3 l1
  have j2 := i2.drew.below hb3 l2
  have hY : Below w.heap.size w w3 := hX.drew.trans (hb3.mono hX.size)
  have o3 : OwnL _ _ _ (w.heap.size + 2) _ _ _ := o3.mono_base (by show w.heap.size + 2 ≤ w0.heap.size; omega)
  obtain ⟨A3, q3, rfl, hq3, hq3m⟩ := o3.form
  clear hb3 i1 i2 l1 l2 hHeld
  refine hK.out _ _ j1 (fun hHeld => ?_)
  clear hK K
  try go_frame
  refine wpAnyH_ready (rs := [9]) (by kernel_rfl) (by simp) ?_
  refine AllReadyH.cons rfl (fun K hK => ?_) AllReadyH.nil
  go_simp
  refine (hW _ hY).mono ?_
  rintro e w4 ⟨v4, rfl, o4, hb4⟩
  have k1 := j1.below hb4 j1.lt
  have k2 := j2.below hb4 j2.lt
  have hZ : Below w.heap.size w w4 := hY.trans (hb4.mono hY.size)
  have hz3 := j2.lt
  have o4 : OwnL _ _ _ (w.heap.size + 2) _ _ _ := o4.mono_base (by omega)
  have o3 := o3.below hb4
  obtain ⟨A4, q4, rfl, hq4, hq4m⟩ := o4.form
  clear hb4 j1 j2 hHeld
  refine hK.out _ _ k1 (fun hHeld => ?_)
  clear hK K
  try go_frame
  refine wpAnyH_take (i := 10) (oi := ⟨some 13, _, _, _, _, _⟩) (v := .agg (p.arr (.slice A3 p.r.length q3) (.slice A4 p.w.length q4))) rfl (by kernel_rfl) (by kernel_rfl) (by kernel_rfl) (fun _ _ _ h => h) (Or.inl ⟨by kernel_rfl, fun W hSw => by clear hSw; go_simp⟩) hHeld ?_
  go_frame
  refine wpAnyH_store_rowE (i := 11) (by kernel_rfl) rfl rfl _ _ _ rfl (w.heap.size + 1) (p.arr (.slice A3 p.r.length q3) (.slice A4 p.w.length q4)) (by kernel_rfl) (by kernel_rfl) _ _ k2 (by kernel_rfl) rfl (by kernel_rfl) (k1.setRow_far _ (by omega)) ?_
  intro w5 hw5
  go_frame
  refine wpAnyH_done (by kernel_rfl) ?_ _
  go_wp2
  refine post_cell rfl (by kernel_rfl) (by rw [hw5]; exact k2.setRow _) rfl rfl (by kernel_rfl) ?_
  subst hw5
  exact ⟨_, _, rfl, (o3.setRow_far (by omega) _).mono_base (by omega), (o4.setRow_far (by omega) _).mono_base (by omega), below_setRow hZ (by omega) _⟩

theorem pn_infoC : (Tryz.prog.info? 45).map (fun i => (i.zero, i.size, i.bytes)) = some (some (.agg zeroPn), 8, 96) := by kernel_rfl
theorem hs_infoC : (Tryz.prog.info? 59).map (fun i => (i.zero, i.size, i.bytes)) = some (some (.agg #[.string ⟨#[]⟩, .slice none 0 0]), 2, 40) := by kernel_rfl
abbrev Pn.cl (p : Pn) (r q : Value) : List Value := [.int .i64 p.t.c, .int .i64 p.t.l, .int .i64 p.t.s, .int .i64 p.s.w, .int .i64 p.s.l, .int .i64 p.s.n, r, q]
theorem pn_oneC (p : Pn) (A1 A2 : Option Addr) (n1 n2 c1 c2 : Nat) : ∀ u ∈ p.cl (.slice A1 n1 c1) (.slice A2 n2 c2), u.oneCell' = true := by
  intro u hu
  simp only [Pn.cl, List.mem_cons, List.not_mem_nil, or_false] at hu
  rcases hu with rfl | rfl | rfl | rfl | rfl | rfl | rfl | rfl <;> rfl
/-- one row that grows -/
def Single {α : Type} (R : Rel α) (E size base : Nat) (w : World) (v : Value) (l : List α) : Prop := Pair R E size base w v (.slice none 0 0) l []
def CopiesRel {α : Type} (R : Rel α) (E size : Nat) (l : List α) (w : World) (v i : Value) (wr : World) : Prop := ∃ k : Nat, k ≤ l.length ∧ i = .int .i64 (k : Int) ∧ Single R E size w.heap.size wr v (l.take k) ∧ Below w.heap.size w wr
/-- what a copy of a list of structs leaves -/
def CopiesPost {α : Type} (R : Rel α) (E size : Nat) (l : List α) (w : World) : Ending → World → Prop := fun e w' => ∃ v, e = .returned v ∧ Single R E size w.heap.size w' v l ∧ Below w.heap.size w w'
set_option maxRecDepth 100000 in
set_option maxHeartbeats 4000000 in
theorem copyPs_any (A : Option Addr) (n c : Nat) (l : List Pn) (w : World) (h : Sl PnRel 8 w w.heap.size A n l) (hQ : SmallP l) :
    Calls Tryz.prog 17 #[.slice A n c] w (CopiesPost PnRel 45 8 l w) := by
  obtain ⟨i1, hi1, iz0, iz1, iz2⟩ := info_parts pn_infoC
  have hl := h.1
  have hge : n ≤ l.length := by omega
  have hle : l.length ≤ n := by omega
  have hn : n ≤ 1000000 := Nat.le_trans hge hQ.1
  clear hl
  go_enter Tryz.func17, Tryz.ntmps17
  go_wp2
  go_loopw [3, 4] (fun v i wr => CopiesRel PnRel 45 8 l w v i wr) (fun _ i _ => n - (intOf i).toNat)
  case atStart => exact ⟨0, by omega, rfl, Pair.nil _, Below.refl _ _⟩
  case round =>
    obtain ⟨k, hk, rfl, hp, hb⟩ := hrel
    have hzz := hb.size
    have hlen : (l.take k).length ≤ 1000000 := Nat.le_trans (List.length_take_le k l) (by omega)
    obtain ⟨Av, qv, rfl, hqv, hqvm⟩ := Pair.form1 hp
    by_cases hlt : k < n
    · obtain ⟨ad, a, A1, n1, c1, A2, n2, c2, rfl, ha, hbk, hxt, hxs, d0, d1, d2, d3, d4, d5, d6, d7, hn1, hc1, hs1, hn2, hc2, hs2⟩ := ((h.below PnRel.kept hb).more PnRel.kept hb.size).pn hlt
      have hd1 : decide ((k : Int) < (n : Int)) = true := by simp; omega
      have hk0 : (0 : Int) ≤ (k : Int) := by omega
      have hk1 : (k : Int) < (n : Int) := by omega
      have hsm := hQ.2 a (List.mem_of_getElem? ha)
      have hl1 := hs1.1
      have hl2 := hs2.1
      have HS := Lib.hid (show l.take (k + 1) = l.take k ++ [a] by rw [List.take_add_one, ha]; rfl)
      have hC := copyP_any a A1 A2 n1 n2 c1 c2 wr hs1 hs2 (by omega) (by omega)
      have K1 := Lib.hid (fun k hk => Sl.all_ok hs1 k hk : ∀ k ∈ a.r, k.size ≤ 140737488351232)
      have K2 := Lib.hid (fun k hk => Sl.all_ok hs2 k hk : ∀ k ∈ a.w, Wt.ok k)
      clear ha hsm hl1 hl2
      generalize l.take k = L at *
      go_wp2_with (go_at_call 46; fail)
      refine hC.mono ?_
      rintro e w5 ⟨r1, u1, rfl, o1, o2, hb5⟩
      obtain ⟨D1, e1, rfl, he1, he1m⟩ := o1.form
      obtain ⟨D2, e2, rfl, he2, he2m⟩ := o2.form
      have hX : Below w5.heap.size w5 (w5.alloc (.cells (a.arr (.slice D1 a.r.length e1) (.slice D2 a.w.length e2)) 45)) := (Below.refl _ _).alloc (Nat.le_refl _) _
      have h5z := hb5.size
      have pX := (Pair.below PnRel.kept PnRel.mono hp hb5).below PnRel.kept PnRel.mono hX
      have hK : ∀ k, wr.heap.size ≤ k → k < (w5.alloc (.cells (a.arr (.slice D1 a.r.length e1) (.slice D2 a.w.length e2)) 45)).heap.size → freeB w.heap.size (w5.alloc (.cells (a.arr (.slice D1 a.r.length e1) (.slice D2 a.w.length e2)) 45)).heap.size (.slice Av L.length qv) (.slice none 0 0) k = true := Pair.fresh hp (by simp; omega) (Nat.le_refl _) hzz
      have hin : Inn PnRel (freeB w.heap.size (w5.alloc (.cells (a.arr (.slice D1 a.r.length e1) (.slice D2 a.w.length e2)) 45)).heap.size (.slice Av L.length qv) (.slice none 0 0)) (w5.alloc (.cells (a.arr (.slice D1 a.r.length e1) (.slice D2 a.w.length e2)) 45)) (a.cl (.slice D1 a.r.length e1) (.slice D2 a.w.length e2)) a :=
        ⟨_, _, rfl, hxt, hxs, OwnL.inn (by omega) ky_len (o1.below hX) K1.out hK, OwnL.inn (by omega) wt_len (o2.below hX) K2.out hK⟩
      have HI := Lib.hid hin
      obtain ⟨xs, hown0, hpush⟩ := Pair.own1 PnRel.kept PnRel.mono pX
      have HP := Lib.hid hpush
      have hrd0 := reads_new' w5 45 (a.cl (.slice D1 a.r.length e1) (.slice D2 a.w.length e2)) 8 rfl
      clear hpush hin hK d0 d1 d2 d3 d4 d5 d6 d7 hC
      go_wp2_with (first
        | (at_builtin
           refine wpList_append_any _ rfl (.tmp 11) (.tmp 17) _ rfl w.heap.size 45 i1 _ 8 96 Tryz.underlying28 hi1 iz0 iz1 iz2 rfl (by omega) (.slice Av L.length qv) _ xs (by rfl) hown0 _ (some ⟨w5.heap.size, 0, none⟩) 1 1 (a.cl (.slice D1 a.r.length e1) (.slice D2 a.w.length e2)) (by rfl)
             hrd0 (pn_oneC a _ _ _ _ _ _) (by unfold maxLen; omega) (by omega) (by simp; omega) ?_
           intro v3 w3 hown3 hg3 hat3
           obtain ⟨A3, q3, rfl, hq3, hq3m⟩ := own_form hown3))
      have hpn := HP.out _ a w3 _ rfl HI.out hown3 hg3 hat3
      have hbw := (hb.trans ((hb5.trans (hX.mono h5z)).mono hzz)).grown hg3 (by simp; omega) (fun q hq => (hown0.lt q hq).1)
      go_roundw
      case rel =>
        refine ⟨k + 1, by omega, by go_num, ?_, hbw⟩
        rw [HS.out]
        exact hpn
      case measure => simp [intOf]; omega
    · have hd1 : decide ((k : Int) < (n : Int)) = false := by simp; omega
      rw [List.take_of_length_le (by omega)] at hp hqv
      rw [List.take_of_length_le (by omega)]
      go_wp2
      go_ret
      exact ⟨_, rfl, hp, hb⟩

def CopyV (a : Hs) (W : World) (i : Value) (wr : World) : Prop := ∃ (k : Nat) (v : Value), k ≤ a.vs.length ∧ i = .int .i64 (k : Int) ∧ Blk wr W.heap.size 59 #[.string a.key, v] ∧ OwnL Vn.cells 64 6 (W.heap.size + 1) wr v (a.vs.take k) ∧ Below W.heap.size W wr
set_option maxRecDepth 100000 in
set_option maxHeartbeats 4000000 in
theorem copyHs_any (A : Option Addr) (n c : Nat) (l : List Hs) (w : World) (h : Sl HsRel 2 w w.heap.size A n l) (hQ : SmallH l) :
    Calls Tryz.prog 16 #[.slice A n c] w (CopiesPost HsRel 59 2 l w) := by
  obtain ⟨i1, hi1, iz0, iz1, iz2⟩ := info_parts hs_infoC
  obtain ⟨i0, hi0, hz0, hz1, hz2⟩ := info_parts vn_info
  have hl := h.1
  have hge : n ≤ l.length := by omega
  have hle : l.length ≤ n := by omega
  have hn : n ≤ 1000000 := Nat.le_trans hge hQ.1
  clear hl
  go_enter Tryz.func16, Tryz.ntmps16
  go_wp2
  go_loopw [3, 4] (fun v i wr => CopiesRel HsRel 59 2 l w v i wr) (fun _ i _ => n - (intOf i).toNat)
  case atStart => exact ⟨0, by omega, rfl, Pair.nil _, Below.refl _ _⟩
  case round =>
    obtain ⟨k, hk, rfl, hp, hb⟩ := hrel
    have hzz := hb.size
    have hlen : (l.take k).length ≤ 1000000 := Nat.le_trans (List.length_take_le k l) (by omega)
    obtain ⟨Av, qv, rfl, hqv, hqvm⟩ := Pair.form1 hp
    by_cases hlt : k < n
    · obtain ⟨ad, a, A1, n1, c1, rfl, ha, hbk, hkz, d0, d1, hn1, hc1, hs1⟩ := ((h.below HsRel.kept hb).more HsRel.kept hb.size).hs hlt
      have hd1 : decide ((k : Int) < (n : Int)) = true := by simp; omega
      have hk0 : (0 : Int) ≤ (k : Int) := by omega
      have hk1 : (k : Int) < (n : Int) := by omega
      have hsm := hQ.2 a (List.mem_of_getElem? ha)
      have hl1 := hs1.1
      have hsm1 : n1 ≤ 1000000 := by omega
      have hge1 : n1 ≤ a.vs.length := by omega
      have hle1 : a.vs.length ≤ n1 := by omega
      have HS := Lib.hid (show l.take (k + 1) = l.take k ++ [a] by rw [List.take_add_one, ha]; rfl)
      have K1 := Lib.hid (fun k hk => Sl.all_ok hs1 k hk : ∀ k ∈ a.vs, Vn.ok k)
      have HA := Lib.hid ha
      clear ha hsm hl1
      generalize l.take k = L at *
      have i5 := Blk.new wr 59 #[.string a.key, .slice none 0 0]
      have hX0 : Below wr.heap.size wr (wr.alloc (.cells #[.string a.key, .slice none 0 0] 59)) := by go_grown
      go_wp2
      obtain ⟨wo, rfl⟩ : ∃ wo, wo = wr := ⟨_, rfl⟩
      clear d0 d1 hs1
      go_loopw [6] (fun i wr => CopyV a wo i wr) (fun i _ => n1 - (intOf i).toNat)
      case atStart => exact ⟨0, _, by omega, rfl, i5, OwnL.nil _, hX0⟩
      case round =>
        clear i5 hX0
        obtain ⟨k2, v, hk2, rfl, i5, ho, hb2⟩ := hrel
        have hz2' := hb2.size
        have hw : Below w.heap.size w wr := hb.trans (hb2.mono hzz)
        have hwz := hw.size
        obtain ⟨ad1, a1, B1, m1, c3, ex, ha1, hbk1, hok1, d0, d1, hm1, hc3, hs1⟩ := ((h.below HsRel.kept hw).more HsRel.kept hw.size).hs hlt
        injection ex with ex
        subst ex
        obtain rfl : a = a1 := Option.some.inj (HA.out.symm.trans ha1)
        obtain rfl : n1 = m1 := by have := hs1.1; omega
        clear ha1
        have hlv : (a.vs.take k2).length ≤ 1000000 := Nat.le_trans (List.length_take_le _ _) (by omega)
        have l5 := i5.lt
        obtain ⟨Bv, qb, rfl, hqb, hqbm⟩ := ho.form
        have y0 : wr.cell? ⟨wo.heap.size, 0, none⟩ = some (.string a.key) := i5.cell 0
        have y1 : wr.cell? ⟨wo.heap.size, 1, none⟩ = some (.slice Bv (a.vs.take k2).length qb) := i5.cell 1
        by_cases hlt2 : k2 < n1
        · obtain ⟨bd, x, rfl, hx, hxb, hxo, x0, x1, x2, x3, x4, x5⟩ := hs1.vn hlt2
          have hd3 : decide ((k2 : Int) < (n1 : Int)) = true := by simp; omega
          have hk20 : (0 : Int) ≤ (k2 : Int) := by omega
          have hk21 : (k2 : Int) < (n1 : Int) := by omega
          have HT := Lib.hid (show a.vs.take (k2 + 1) = a.vs.take k2 ++ [x] by rw [List.take_add_one, hx]; rfl)
          clear hx
          generalize a.vs.take k2 = V at *
          have hX : Below wr.heap.size wr (wr.alloc (.cells x.cells.toArray 64)).drew := ((Below.refl _ _).alloc (Nat.le_refl _) _).drew
          have hown0 := ho.below hX
          have hrd0 := (reads_new' wr 64 x.cells 6 rfl).drew
          have l6 : wo.heap.size < wr.heap.size + 1 := by omega
          go_wp2
          go_region_law (refine step_append_any _ rfl (.tmp 30) (.tmp 39) _ rfl (wo.heap.size + 1) 64 i0 _ 6 56 Tryz.underlying57 hi0 hz0 hz1 hz2 rfl (by omega) (.slice Bv V.length qb) _ (V.flatMap Vn.cells) (by simp [Act.eval]) hown0 _ (some ⟨wr.heap.size, 0, none⟩) 1 1 x.cells (by simp [Act.eval]) hrd0 (vn_one x) (by unfold maxLen; omega) (by omega) (by simp; omega) ?_; intro v3 w3 hown3 hg3 hat3; have e5 := (i5.alloc (.cells x.cells.toArray 64)).drew.grown hg3 (ho.ne (by omega)); have z1 := e5.cell 1; simp only [List.getElem?_toArray, List.getElem?_cons_succ, List.getElem?_cons_zero] at z1; have f1 := e5.frozen 1; obtain ⟨A3, q3, rfl, hq3, hq3m⟩ := own_form hown3)
          all_goals
            have hp3 := (OwnL.push x hown3).set_far (p := ⟨wo.heap.size, 1, none⟩) (by simp) (.slice A3 (V.length + 1) q3)
            have hbw := ((hb2.trans (hX.mono hz2')).grown hg3 (by have := hX.size; omega) (fun q hq => by have := (hown0.lt q hq).1; omega)).setCell (p := ⟨wo.heap.size, 1, none⟩) (Nat.le_refl _) (.slice A3 (V.length + 1) q3)
            go_wp2
            go_roundw
            case rel =>
              refine ⟨k2 + 1, _, by omega, by go_num, e5.set_ 1 _, ?_, hbw⟩
              rw [HT.out]
              exact hp3
            case measure => simp [intOf]; omega
        · have hd3 : decide ((k2 : Int) < (n1 : Int)) = false := by simp; omega
          have ht : a.vs.take k2 = a.vs := List.take_of_length_le (by omega)
          rw [ht] at ho hqb y1 i5
          clear ht hlv
          have hX : Below wr.heap.size wr (wr.alloc (.cells #[.string a.key, .slice Bv a.vs.length qb] 59)) := by go_grown
          have pX := (Pair.below HsRel.kept HsRel.mono hp hb2).below HsRel.kept HsRel.mono hX
          have hK : ∀ k, wo.heap.size + 1 ≤ k → k < (wr.alloc (.cells #[.string a.key, .slice Bv a.vs.length qb] 59)).heap.size → freeB w.heap.size (wr.alloc (.cells #[.string a.key, .slice Bv a.vs.length qb] 59)).heap.size (.slice Av L.length qv) (.slice none 0 0) k = true := Pair.fresh hp (by simp; omega) (by omega) (by omega)
          have hin : Inn HsRel (freeB w.heap.size (wr.alloc (.cells #[.string a.key, .slice Bv a.vs.length qb] 59)).heap.size (.slice Av L.length qv) (.slice none 0 0)) (wr.alloc (.cells #[.string a.key, .slice Bv a.vs.length qb] 59)) [.string a.key, .slice Bv a.vs.length qb] a :=
            ⟨_, rfl, hkz, OwnL.inn (by omega) vn_len (ho.below hX) K1.out hK⟩
          have HI := Lib.hid hin
          obtain ⟨xs, hown0, hpush⟩ := Pair.own1 HsRel.kept HsRel.mono pX
          have HP := Lib.hid hpush
          have hrd0 := reads_new' wr 59 [.string a.key, .slice Bv a.vs.length qb] 2 rfl
          have hone : ∀ u ∈ [Value.string a.key, Value.slice Bv a.vs.length qb], u.oneCell' = true := by
            intro u hu
            simp only [List.mem_cons, List.not_mem_nil, or_false] at hu
            rcases hu with rfl | rfl <;> rfl
          have HO := Lib.hid hone
          clear hpush hin hK hone hs1
          go_wp2_with (first
            | (at_builtin
               refine wpList_append_any _ rfl (.tmp 42) (.tmp 44) _ rfl w.heap.size 59 i1 _ 2 40 Tryz.underlying27 hi1 iz0 iz1 iz2 rfl (by omega) (.slice Av L.length qv) _ xs (by rfl) hown0 _ (some ⟨wr.heap.size, 0, none⟩) 1 1 [.string a.key, .slice Bv a.vs.length qb] (by rfl)
                 hrd0 HO.out (by unfold maxLen; omega) (by omega) (by simp; omega) ?_
               intro v3 w3 hown3 hg3 hat3
               obtain ⟨A3, q3, rfl, hq3, hq3m⟩ := own_form hown3))
          have hpn := HP.out _ a w3 _ rfl HI.out hown3 hg3 hat3
          have hbw := (hw.trans (hX.mono hwz)).grown hg3 (by have := hX.size; omega) (fun q hq => (hown0.lt q hq).1)
          go_roundw
          case rel =>
            refine ⟨k + 1, by omega, by go_num, ?_, hbw⟩
            rw [HS.out]
            exact hpn
          case measure => simp [intOf]; omega
    · have hd1 : decide ((k : Int) < (n : Int)) = false := by simp; omega
      rw [List.take_of_length_le (by omega)] at hp hqv
      rw [List.take_of_length_le (by omega)]
      go_wp2
      go_ret
      exact ⟨_, rfl, hp, hb⟩

theorem four_of {cs : Array Value} {o : Nat} {a b c d : Value} (h0 : cs[o]? = some a) (h1 : cs[o + 1]? = some b) (h2 : cs[o + 2]? = some c) (h3 : cs[o + 3]? = some d) : ∀ j v, [a, b, c, d][j]? = some v → cs[o + j]? = some v := by
  intro j v hj
  match j, hj with
  | 0, hj => rw [← hj]; exact h0
  | 1, hj => rw [← hj]; exact h1
  | 2, hj => rw [← hj]; exact h2
  | 3, hj => rw [← hj]; exact h3
abbrev zeroSt : Array Value := #[.int .i64 0, .int .i64 0, .float .f64 0, .float .f64 0, .int .i64 0, .int .i64 0, .int .i64 0, .int .i64 0, .int .i64 0, .int .i64 0, .slice none 0 0, .slice none 0 0]
end Go.Proofs.YtipacjbegfingaaGreat
/- The walks of raceref15.Texts, raceref10.TxnLess, raceref11.in. -/
namespace Go.Proofs.YtipacjbegfingaaGreat
set_option linter.unusedVariables false
open Go.RowKit Fl
attribute [local go_sem] run_store_float

/-- does a transaction stand ahead of another one? -/
def Tx.less (a b : Tx) : Bool := if a.c ≠ b.c then decide (a.c < b.c) else if a.l ≠ b.l then decide (a.l < b.l) else decide (a.s < b.s)
set_option maxHeartbeats 1000000 in
theorem rtxnLess_any (a b : Tx) (w : World) : Calls Tryz.prog 103 #[a.val, b.val] w fun e w' => e = .returned (.bool (a.less b)) ∧ Below w.heap.size w w' := by
  by_cases h1 : a.c = b.c
  · by_cases h2 : a.l = b.l
    · have hr : a.less b = decide (a.s < b.s) := by unfold Tx.less; simp [h1, h2]
      have hq1 : (a.c != b.c) = false := by simp [h1]
      have hq2 : (a.l != b.l) = false := by simp [h2]
      rw [hr]
      clear hr h1 h2
      go_enter Tryz.func103, Tryz.ntmps103
      go_wp2
      go_ret
      exact ⟨rfl, by go_grown⟩
    · have hr : a.less b = decide (a.l < b.l) := by unfold Tx.less; simp [h1, h2]
      have hq1 : (a.c != b.c) = false := by simp [h1]
      have hq2 : (a.l != b.l) = true := by simp [h2]
      rw [hr]
      clear hr h1 h2
      go_enter Tryz.func103, Tryz.ntmps103
      go_wp2
      go_ret
      exact ⟨rfl, by go_grown⟩
  · have hr : a.less b = decide (a.c < b.c) := by unfold Tx.less; simp [h1]
    have hq1 : (a.c != b.c) = true := by simp [h1]
    rw [hr]
    clear hr h1
    go_enter Tryz.func103, Tryz.ntmps103
    go_wp2
    go_ret
    exact ⟨rfl, by go_grown⟩
set_option maxRecDepth 100000 in
set_option maxHeartbeats 1000000 in
theorem rinK_any (r : Rg) (k : ByteArray) (w : World) (hk : k.size ≤ maxLen) :
    Calls Tryz.prog 40 #[r.val, .string k] w fun e w' => e = .returned (.bool (inK r k)) ∧ Below w.heap.size w w' := by
  have ho := fun w => rof_any k w hk
  have hi := fun w => rin_any r (ofB k) w
  obtain ⟨l2, c0, c1, c2, c3, -⟩ := (Blk.new w 24 #[.int .i64 r.id, .int .i64 r.ep, .float .f64 r.lo, .float .f64 r.hi]).four
  have hX : Below w.heap.size w (w.alloc (.cells #[.int .i64 r.id, .int .i64 r.ep, .float .f64 r.lo, .float .f64 r.hi] 24)) := by go_grown
  go_enter Tryz.func40, Tryz.ntmps40
  go_wp2
  generalize (w.alloc (.cells #[.int .i64 r.id, .int .i64 r.ep, .float .f64 r.lo, .float .f64 r.hi] 24)) = w0 at *
  go_region_held3 (fun w' => w'.cell? ⟨w.heap.size, 0, none⟩ = some (.int .i64 r.id) ∧ w'.cell? ⟨w.heap.size, 1, none⟩ = some (.int .i64 r.ep) ∧ w'.cell? ⟨w.heap.size, 2, none⟩ = some (.float .f64 r.lo) ∧ w'.cell? ⟨w.heap.size, 3, none⟩ = some (.float .f64 r.hi))
    (first | exact ⟨c0, c1, c2, c3⟩ | exact ⟨(hb1.cell (p := ⟨_, _, none⟩) l2).trans c0, (hb1.cell (p := ⟨_, _, none⟩) l2).trans c1, (hb1.cell (p := ⟨_, _, none⟩) l2).trans c2, (hb1.cell (p := ⟨_, _, none⟩) l2).trans c3⟩)
    (first | ((with_reducible refine (ho _).mono ?_); rintro e w1 ⟨rfl, rfl⟩) | ((with_reducible refine (hi _).mono ?_); rintro e w1 ⟨rfl, hw1⟩; have hb1 : Below w0.heap.size w0 w1 := by rw [← hw1]; exact (Below.refl _ _).drew.alloc (Nat.le_refl _) _))
  go_wp2
  go_ret
  exact ⟨rfl, hX.trans (hb1.mono hX.size)⟩
end Go.Proofs.YtipacjbegfingaaGreat
