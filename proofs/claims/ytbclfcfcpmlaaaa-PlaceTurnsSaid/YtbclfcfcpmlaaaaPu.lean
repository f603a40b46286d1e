/- The walks of raceref.Range, PlaceRanges and PlaceHalves. -/
import Derived.Test.YtbclfcfcpmlaaaaPt
import Derived.Deep.RegionHeld3
import Derived.Deep.DrawnRows
namespace Go.Proofs.Ytbclfcfcpmlaaaa
open Go.RowKit Fl
attribute [local go_sem] run_store_float
def Rg.same (a b : Rg) : Bool := (a.id == b.id) && (a.ep == b.ep) && ((a.lo : Int) == b.lo) && ((a.hi : Int) == b.hi)
theorem Rg.same_self (a : Rg) : a.same a = true := by simp [Rg.same]
attribute [local go_sem] Rg.val
attribute [local go_sem ↓] Go.wp_at_zero Go.wp_at_succ
set_option maxHeartbeats 1000000 in
theorem range_any (a b : Rg) (w : World) :
    Calls Try.prog 25 #[a.val, b.val] w fun e w' => e = .returned (.bool (a.same b)) ∧ Below w.heap.size w w' := by
  go_enter Try.func25, Try.ntmps25
  go_wp2_with ((with_reducible refine (rbits _ _ _).mono ?_); rintro e w1 ⟨rfl, rfl⟩)
  all_goals go_ret
  all_goals refine ⟨ret_bool ?_, by go_grown⟩
  all_goals simp_all [Rg.same]

/-- nothing below block B reads otherwise than in W -/
theorem keep_alloc {W w : World} {B : Nat} (h : ∀ b o, b < B → w.cell? ⟨b, o, none⟩ = W.cell? ⟨b, o, none⟩) (hB : B ≤ w.heap.size) (x : Obj) : ∀ b o, b < B → (w.alloc x).cell? ⟨b, o, none⟩ = W.cell? ⟨b, o, none⟩ :=
  fun b o hb => (World.cell?_alloc_lt w x ⟨b, o, none⟩ (by simp; omega)).trans (h b o hb)
theorem keep_below {W w w' : World} {B : Nat} (h : ∀ b o, b < B → w.cell? ⟨b, o, none⟩ = W.cell? ⟨b, o, none⟩) (hB : B ≤ w.heap.size) (hb : Below w.heap.size w w') : ∀ b o, b < B → w'.cell? ⟨b, o, none⟩ = W.cell? ⟨b, o, none⟩ :=
  fun b o hlt => (hb.cell (p := ⟨b, o, none⟩) (by simp; omega)).trans (h b o hlt)

theorem ofBelow {W w : World} (h : Below W.heap.size W w) : (∀ b o, b < W.heap.size → w.cell? ⟨b, o, none⟩ = W.cell? ⟨b, o, none⟩) ∧ W.heap.size ≤ w.heap.size ∧ Below W.heap.size W w :=
  ⟨fun b o hb => h.cell (p := ⟨b, o, none⟩) hb, h.size, h⟩
theorem lawEnd {w X w' : World} (hB : Below w.heap.size w X) (h : Below X.heap.size X w') : Below w.heap.size w w' := hB.trans (h.mono hB.size)
theorem rbits_self (a : Nat) : ((a : Int) == a) = true := by simp

set_option maxRecDepth 100000 in
set_option maxHeartbeats 4000000 in
theorem ranges_walk (r : Rg) (x : Nat) (child : Int) (w : World) (hok : r.ok) (hx : x < 18446744073709551616) :
    Calls Try.prog 9 #[r.val, .float .f64 x, .int .i64 child] w fun e w' => e = .returned (.bool true) ∧ Below w.heap.size w w' := by
  have HX := Lib.hid hx; clear hx
  go_enter Try.func9, Try.ntmps9
  go_wp2_with (first
    | ((with_reducible refine (first_any _).mono ?_); rintro e w1 ⟨rfl, rfl⟩)
    | ((with_reducible refine (split_any r x child _ hok HX.out).mono ?_); rintro e w1 ⟨rfl, hb1⟩; obtain ⟨hc1, hf1, hz1⟩ := bcell hb1; simp at hz1; have hz1' : w.heap.size < w1.heap.size := by omega))
  refine (rsplit_any r x child _ hok HX.out).mono ?_
  rintro e w2 ⟨rfl, hb2⟩
  obtain ⟨hc2, hf2, hz2⟩ := bcell hb2
  simp at hz2
  have hz2' : w.heap.size < w2.heap.size := by omega
  have hz2a : w1.heap.size < w2.heap.size := by omega
  have hz2b : w1.heap.size + 1 < w2.heap.size := by omega
  go_wp2
  have P0 := (((((((Blk.new w 39 #[.int .i64 r.id, .int .i64 r.ep, .float .f64 r.lo, .float .f64 r.hi]).below hb1 (by simp)).alloc (.cells (Rg.cells (splitL r x child)).toArray 39)).alloc (.cells (Rg.cells (splitU r x child)).toArray 39)).below hb2 (by simp; omega)).alloc (.cells (Rg.cells (splitL r x child)).toArray 39)).alloc (.cells (Rg.cells (splitU r x child)).toArray 39))
  have P1 := (((((Blk.new w1 39 (Rg.cells (splitL r x child)).toArray)).alloc (.cells (Rg.cells (splitU r x child)).toArray 39)).below hb2 (by simp; omega)).alloc (.cells (Rg.cells (splitL r x child)).toArray 39)).alloc (.cells (Rg.cells (splitU r x child)).toArray 39)
  have P2 := (((Blk.new' (w := w1.alloc (.cells (Rg.cells (splitL r x child)).toArray 39)) (g := w1.heap.size + 1) 39 (Rg.cells (splitU r x child)).toArray (by simp)).below hb2 (by simp)).alloc (.cells (Rg.cells (splitL r x child)).toArray 39)).alloc (.cells (Rg.cells (splitU r x child)).toArray 39)
  have P3 := (Blk.new w2 39 (Rg.cells (splitL r x child)).toArray).alloc (.cells (Rg.cells (splitU r x child)).toArray 39)
  have P4 := Blk.new' (w := w2.alloc (.cells (Rg.cells (splitL r x child)).toArray 39)) (g := w2.heap.size + 1) 39 (Rg.cells (splitU r x child)).toArray (by simp)
  have h1 : Below w.heap.size w w1 := ((Below.refl _ _).alloc (Nat.le_refl _) _).trans (hb1.mono (by simp))
  have h2 : Below w.heap.size w w2 := ((h1.alloc (by omega) (.cells (Rg.cells (splitL r x child)).toArray 39)).alloc (by simp; omega) (.cells (Rg.cells (splitU r x child)).toArray 39)).trans (hb2.mono (by simp; omega))
  have hB : Below w.heap.size w ((w2.alloc (.cells (Rg.cells (splitL r x child)).toArray 39)).alloc (.cells (Rg.cells (splitU r x child)).toArray 39)) := (h2.alloc (by omega) _).alloc (by simp; omega) _
  simp only [Rg.cells] at P0 P1 P2 P3 P4 hB
  generalize hX : (w2.alloc (.cells [Value.int .i64 (splitL r x child).id, .int .i64 (splitL r x child).ep, .float .f64 (splitL r x child).lo, .float .f64 (splitL r x child).hi].toArray 39)).alloc (.cells [Value.int .i64 (splitU r x child).id, .int .i64 (splitU r x child).ep, .float .f64 (splitU r x child).lo, .float .f64 (splitU r x child).hi].toArray 39) = X at *
  clear hX
  obtain ⟨p00, p01, p02, p03, p04, _, _, _, _⟩ := P0.four
  obtain ⟨p10, p11, p12, p13, p14, _, _, _, _⟩ := P1.four
  obtain ⟨p20, p21, p22, p23, p24, _, _, _, _⟩ := P2.four
  obtain ⟨p30, p31, p32, p33, p34, _, _, _, _⟩ := P3.four
  obtain ⟨p40, p41, p42, p43, p44, _, _, _, _⟩ := P4.four
  have e1 := Rg.same_self (splitL r x child)
  have e2 := Rg.same_self (splitU r x child)
  clear hc1 hf1 hc2 hf2 P0 P1 P2 P3 P4
  go_region_held3 (fun w' => (∀ b o, b < X.heap.size → w'.cell? ⟨b, o, none⟩ = X.cell? ⟨b, o, none⟩) ∧ X.heap.size ≤ w'.heap.size ∧ Below X.heap.size X w')
    (first | exact ofBelow (by go_grown; done))
    (first
      | ((with_reducible refine (first_any _).mono ?_); rintro e w1 ⟨rfl, rfl⟩)
      | ((with_reducible refine (may_any r _ hok).mono ?_); rintro e w1 ⟨rfl, rfl⟩)
      | ((with_reducible refine (rmay_any r _ hok).mono ?_); rintro e w1 ⟨rfl, rfl⟩)
      | ((with_reducible refine (in_any r x _).mono ?_); rintro e w1 ⟨rfl, rfl⟩)
      | ((with_reducible refine (rin_any r x _).mono ?_); rintro e w1 ⟨rfl, rfl⟩)
      | ((with_reducible refine (range_any _ _ _).mono ?_); rintro e w1 ⟨rfl, hb⟩; have hbX : Below X.heap.size X w1 := Below.trans (by go_grown; done) (hb.mono (by first | assumption | (simp; omega) | (simp; done) | omega))))
  go_wp2
  go_ret
  exact ⟨rfl, lawEnd hB ‹_›⟩
end Go.Proofs.Ytbclfcfcpmlaaaa
