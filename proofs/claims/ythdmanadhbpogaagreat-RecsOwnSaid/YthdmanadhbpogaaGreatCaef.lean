/- The walk of RecsOwn, whole. -/
import Derived.Test.YthdmanadhbpogaaGreatCaee
namespace Go.Proofs.YthdmanadhbpogaaGreat
set_option linter.unusedVariables false
open Go.RowKit Fl
attribute [local go_sem] run_store_float
theorem tmod_cases (m : Int) : ∃ j : Nat, j ≤ 10 ∧ (m.tmod 11 = (j : Int) ∨ m.tmod 11 = -(j : Int)) := by
 have h1 := Int.tmod_lt_of_pos m (show (0 : Int) < 11 by omega)
 have h2 := Int.lt_tmod_of_pos m (show (0 : Int) < 11 by omega)
 exact ⟨(m.tmod 11).natAbs, by omega, by omega⟩
set_option maxRecDepth 100000 in
set_option maxHeartbeats 4000000 in
theorem own_any' (r : Rc) (h : Hds) (m : Int) (w : World) (ok : r.ok) (i : RcIn w r h) (cp : h.caps) :
 Calls Tryz.prog 7 #[.agg (r.vals h), .int .i64 m] w fun e w' => e = .returned (.bool true) ∧ Below w.heap.size w w' := by
 by_cases hw : weighRec 20000 r ≤ 20000
 · by_cases hm : recMay r = 0
   · obtain ⟨j, hj, hq⟩ := tmod_cases m
     have hc : j = 0 ∨ j = 1 ∨ j = 2 ∨ j = 3 ∨ j = 4 ∨ j = 5 ∨ j = 6 ∨ j = 7 ∨ j = 8 ∨ j = 9 ∨ j = 10 := by omega
     rcases hc with rfl | rfl | rfl | rfl | rfl | rfl | rfl | rfl | rfl | rfl | rfl
     · exact turn_0 r h m w ok i cp hw hm hq
     · exact turn_1 r h m w ok i cp hw hm hq
     · exact turn_2 r h m w ok i cp hw hm hq
     · exact turn_3 r h m w ok i cp hw hm hq
     · exact turn_4 r h m w ok i cp hw hm hq
     · exact turn_5 r h m w ok i cp hw hm hq
     · exact turn_6 r h m w ok i cp hw hm hq
     · exact turn_7 r h m w ok i cp hw hm hq
     · exact turn_8 r h m w ok i cp hw hm hq
     · exact turn_9 r h m w ok i cp hw hm hq
     · exact turn_10 r h m w ok i cp hw hm hq
   · have hX : Below w.heap.size w (w.alloc (.cells (r.vals h) 38)) := by go_grown
     have B0 : Blk (w.alloc (.cells (r.vals h) 38)) w.heap.size 38 (r.vals h) := Blk.new _ _ _
     obtain ⟨sm, hlen⟩ := rec_small ok i hw
     have hF := few_any r h
     have hM := fun w' hi => recMay_any r h w' ok hi sm
     rw [decide_eq_true hw] at hF
     have hne : (recMay r != 0) = true := by simp [hm]
     generalize recMay r = v at *
     clear hw hm
     go_enter Tryz.func7, Tryz.ntmps7
     go_wp2_with fail
     refine (first_any _).mono ?_
     rintro e w1 ⟨rfl, hb1⟩
     have B1 := B0.below hb1 B0.lt
     have hX1 := hX.trans (hb1.mono hX.size)
     clear B0 hb1 hX
     go_wp2_with (guard_target =~ wpList _ _ _ _ _ _; refine wpList_load_row rfl 38 (.tmp 2) rfl w.heap.size (by kernel_rfl) _ _ (0, 0) _ B1 rfl rfl (by kernel_rfl) ?_)
     refine (hF w1 (i.below hX1)).mono ?_
     rintro e w2 ⟨rfl, hb2⟩
     have B2 := B1.below hb2 B1.lt
     have hX2 := hX1.trans (hb2.mono hX1.size)
     clear B1 hb2 hX1 hF
     go_wp2_with (guard_target =~ wpList _ _ _ _ _ _; refine wpList_load_row_g (by kernel_rfl) 38 (.tmp 2) rfl w.heap.size (by kernel_rfl) _ _ (0, 0) _ B2 rfl rfl (by kernel_rfl) ?_)
     refine (hM w2 (i.below hX2)).mono ?_
     rintro e w3 ⟨rfl, hb3⟩
     have hX3 := hX2.trans (hb3.mono hX2.size)
     clear B2 hb3 hX2 hM
     go_wp2_with fail
     refine (first_any _).mono ?_
     rintro e w4 ⟨rfl, hb4⟩
     go_wp2
     go_ret
     exact ⟨rfl, hX3.trans (hb4.mono hX3.size)⟩
 · have hX : Below w.heap.size w (w.alloc (.cells (r.vals h) 38)) := by go_grown
   have B0 : Blk (w.alloc (.cells (r.vals h) 38)) w.heap.size 38 (r.vals h) := Blk.new _ _ _
   have hF := few_any r h
   rw [decide_eq_false hw] at hF
   clear hw
   go_enter Tryz.func7, Tryz.ntmps7
   go_wp2_with fail
   refine (first_any _).mono ?_
   rintro e w1 ⟨rfl, hb1⟩
   have B1 := B0.below hb1 B0.lt
   have hX1 := hX.trans (hb1.mono hX.size)
   clear B0 hb1 hX
   go_wp2_with (guard_target =~ wpList _ _ _ _ _ _; refine wpList_load_row rfl 38 (.tmp 2) rfl w.heap.size (by kernel_rfl) _ _ (0, 0) _ B1 rfl rfl (by kernel_rfl) ?_)
   refine (hF w1 (i.below hX1)).mono ?_
   rintro e w2 ⟨rfl, hb2⟩
   have hX2 := hX1.trans (hb2.mono hX1.size)
   clear B1 hb2 hX1 hF
   go_wp2_with fail
   refine (first_any _).mono ?_
   rintro e w4 ⟨rfl, hb4⟩
   go_wp2
   go_ret
   exact ⟨rfl, hX2.trans (hb4.mono hX2.size)⟩
end Go.Proofs.YthdmanadhbpogaaGreat
