/- The walks of CopyInts and CopyRec. -/
import Derived.Test.YthdmanadhbpogaaGreatCace
import Derived.Test.YthdmanadhbpogaaGreatCada
import Derived.Test.YthdmanadhbpogaaGreatCadb
namespace Go.Proofs.YthdmanadhbpogaaGreat
set_option maxHeartbeats 8000000
set_option maxRecDepth 100000
set_option linter.unusedVariables false
open Go.RowKit Fl
attribute [local go_sem] run_store_float
theorem nm_info : (Tryz.prog.info? 3).map (fun i => (i.zero, i.size, i.bytes)) = some (some (.int .i64 0), 1, 8) := by kernel_rfl
theorem pr_info : (Tryz.prog.info? 61).map (fun i => (i.zero, i.size, i.bytes)) = some (some (.agg #[.string ⟨#[]⟩, .int .i64 0, .float .f64 0, .string ⟨#[]⟩]), 4, 48) := by kernel_rfl
theorem ints_any (A : Option Addr) (n c : Nat) (l : List Int) (w : World) (h : Sl NmRel 1 w w.heap.size A n l) (hn : n ≤ 1000000) :
 Calls Tryz.prog 39 #[.slice A n c] w fun e w' => ∃ v, e = .returned v ∧ OwnL nmCells 3 1 w.heap.size w' v l ∧ Below w.heap.size w w' := by
 obtain ⟨i0, hi0, hz0, hz1, hz2⟩ := info_parts nm_info
 have hl := h.1
 have hle : l.length ≤ n := by omega
 have hge : n ≤ l.length := by omega
 clear hl
 go_enter Tryz.func39, Tryz.ntmps39
 go_wp2
 go_loopw [3, 4] (fun v i wr => CopyRel nmCells 3 1 l w v i wr) (fun _ i _ => n - (intOf i).toNat)
 case atStart => exact ⟨0, by omega, rfl, OwnL.nil _, Below.refl _ _⟩
 case round =>
  obtain ⟨k, hk, rfl, ho, hb⟩ := hrel
  have hzz := hb.size
  by_cases hlt : k < n
  · obtain ⟨ad, a, rfl, ha, hbk, hok, c0⟩ := (h.below NmRel.kept hb).nm hlt
    have hd1 : decide ((k : Int) < (n : Int)) = true := by simp; omega
    have hk0 : (0 : Int) ≤ (k : Int) := by omega
    have hk1 : (k : Int) < (n : Int) := by omega
    have HS := Lib.hid (show l.take (k + 1) = l.take k ++ [a] by rw [List.take_add_one, ha]; rfl)
    have hln : (l.take k).length ≤ 1000000 := by simp; omega
    clear ha
    obtain ⟨A1, q1, rfl, hq1, hq1m⟩ := ho.form
    generalize l.take k = ks at *
    have hX : Below wr.heap.size wr (wr.alloc (.cells (nmCells a).toArray 3)) := (Below.refl _ _).alloc (Nat.le_refl _) _
    have hown0 := ho.below hX
    have hrd0 := reads_new' wr 3 (nmCells a) 1 rfl
    go_wp2_with (first
        | (at_builtin
           refine wpList_append_any _ rfl (.tmp 11) (.tmp 16) _ rfl w.heap.size 3 i0 _ 1 8 Tryz.underlying29 hi0 hz0 hz1 hz2 rfl (by omega) (.slice A1 ks.length q1) _ (ks.flatMap nmCells) (by rfl) hown0 _ (some ⟨wr.heap.size, 0, none⟩) 1 1 (nmCells a) (by rfl)
            hrd0 (nm_one a) (by unfold maxLen; omega) (by omega) (by simp; omega) ?_
           intro v3 w3 hown3 hg3 hat3
           obtain ⟨A3, q3, rfl, hq3, hq3m⟩ := own_form hown3))
    have hp := OwnL.push a hown3
    have hbw := (hb.trans (hX.mono hzz)).grown hg3 (by simp; omega) (fun q hq => (hown0.lt q hq).1)
    go_roundw
    case rel =>
        refine ⟨k + 1, by omega, by go_num, ?_, hbw⟩
        rw [HS.out]
        exact hp
    case measure => simp [intOf]; omega
  · have hd1 : decide ((k : Int) < (n : Int)) = false := by simp; omega
    rw [List.take_of_length_le (by omega)] at ho
    obtain ⟨A1, q1, rfl, hq1, hq1m⟩ := ho.form
    go_wp2
    go_ret
    exact ⟨_, rfl, ho, hb⟩
theorem setCells_far {b j : Nat} (hj : j ≠ b) : ∀ (vs : List Value) (o : Nat) (w : World), (w.setCells b o vs).heap[j]? = w.heap[j]? := by
 intro vs
 induction vs with
 | nil => intro o w; rfl
 | cons v vs ih => intro o w; exact (ih (o + 1) (w.setCell ⟨b, o, none⟩ v)).trans (Below.heap_setCell _ _ _ _ hj)
theorem setCells_size {b : Nat} : ∀ (vs : List Value) (o : Nat) (w : World), (w.setCells b o vs).heap.size = w.heap.size := by
 intro vs
 induction vs with
 | nil => intro o w; rfl
 | cons v vs ih => intro o w; exact (ih (o + 1) (w.setCell ⟨b, o, none⟩ v)).trans (by simp)
theorem setCells_below {B b : Nat} (hb : B ≤ b) {w : World} : ∀ (vs : List Value) (o : Nat) (w1 : World), Below B w w1 → Below B w (w1.setCells b o vs) := by
 intro vs
 induction vs with
 | nil => intro o w1 h; exact h
 | cons v vs ih => intro o w1 h; exact ih (o + 1) _ (h.setCell (p := ⟨b, o, none⟩) hb v)
def setA : Array Value → Nat → List Value → Array Value
 | cs, _, [] => cs
 | cs, o, v :: vs => setA (cs.setIfInBounds o v) (o + 1) vs
theorem Blk.setCells {g : Nat} {t : TypeId} : ∀ (vs : List Value) (o : Nat) (w : World) (cs : Array Value), Blk w g t cs → Blk (w.setCells g o vs) g t (setA cs o vs) := by
 intro vs
 induction vs with
 | nil => intro o w cs h; exact h
 | cons v vs ih => intro o w cs h; exact ih (o + 1) _ _ (h.set_ o v)
theorem HdRel.hd {α : Type} {R : Rel α} {size : Nat} {w : World} {B : Nat} {A : Option Addr} {n c : Nat} {l : List α} (h : HdRel R size w B (.slice A n c) l) : Sl R size w B A n l ∧ n ≤ c ∧ c ≤ maxLen := by
 obtain ⟨A', n', c', e, h1, h2, h3⟩ := h
 injection e with a1 a2 a3
 subst a1 a2 a3
 exact ⟨h3, h1, h2⟩
abbrev zeroRc : Array Value := #[.int .i64 0, .int .i64 0, .int .i64 0, .int .i64 0, .int .i64 0, .int .i64 0, .int .i64 0, .int .i64 0, .int .i64 0, .int .i64 0, .bool false, .int .i64 0, .float .f64 0, .slice none 0 0, .slice none 0 0, .slice none 0 0, .slice none 0 0, .int .i64 0, .int .i64 0, .float .f64 0, .float .f64 0, .int .i64 0, .int .i64 0, .int .i64 0, .int .i64 0, .int .i64 0, .int .i64 0, .slice none 0 0, .slice none 0 0]
abbrev Rc.part (r : Rc) (v1 v2 v3 v4 : Value) : Array Value := #[.int .i64 r.k, .int .i64 r.t.c, .int .i64 r.t.l, .int .i64 r.t.s, .int .i64 r.s.w, .int .i64 r.s.l, .int .i64 r.s.n, .int .i64 r.pv.w, .int .i64 r.pv.l, .int .i64 r.pv.n, .bool r.cm, .int .i64 r.n, .float .f64 r.pt, v1, v2, v3, v4, .int .i64 0, .int .i64 0, .float .f64 0, .float .f64 0, .int .i64 0, .int .i64 0, .int .i64 0, .int .i64 0, .int .i64 0, .int .i64 0, .slice none 0 0, .slice none 0 0]
theorem keepR {w w' : World} {base : Nat} {E size : Nat} {α : Type} {f : α → List Value} {v : Value} {l : List α} (h : OwnL f E size base w v l) (hb : ∀ k, base ≤ k → k < w.heap.size → w'.heap[k]? = w.heap[k]?) : OwnL f E size base w' v l := owns_same h hb
def PrRel (r : Rc) (h : Hds) (w W : World) (v1 v2 v3 i : Value) (wr : World) : Prop := ∃ (k : Nat) (v4 : Value), k ≤ h.d.n ∧ i = .int .i64 (k : Int) ∧ Blk wr w.heap.size 38 (r.vals h) ∧ Blk wr (w.heap.size + 1) 38 zeroRc ∧ Blk wr (w.heap.size + 1 + 1) 38 (r.part v1 v2 v3 v4) ∧
 OwnL Wt.cells 61 4 W.heap.size wr v4 (r.pr.take k) ∧ (∀ j, w.heap.size + 1 + 1 + 1 ≤ j → j < W.heap.size → wr.heap[j]? = W.heap[j]?) ∧ Below w.heap.size w wr ∧ W.heap.size ≤ wr.heap.size
end Go.Proofs.YthdmanadhbpogaaGreat
