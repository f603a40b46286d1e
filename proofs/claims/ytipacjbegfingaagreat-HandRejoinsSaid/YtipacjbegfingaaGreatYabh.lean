/- The walk of the document's clash. -/
import Derived.Test.YtipacjbegfingaaGreatYaaf
import Derived.Test.YtipacjbegfingaaGreatYabg
namespace Go.Proofs.YtipacjbegfingaaGreat
set_option linter.unusedVariables false
open Go.RowKit Fl
attribute [local go_sem] run_store_float

theorem any_dropE {α : Type} {f : α → Bool} {l : List α} {k : Nat} {a : α} (h : l[k]? = some a) : (l.drop k).any f = (f a || (l.drop (k + 1)).any f) := by
  have h1 := List.getElem?_eq_some_iff.1 h
  rw [List.drop_eq_getElem_cons h1.1, h1.2]; rfl
def ClashRel {α : Type} (f : α → Bool) (l : List α) (p q : Pn) (A1 A2 A3 A4 : Value) (w : World) (i : Value) (wr : World) : Prop :=
  ∃ k : Nat, k ≤ l.length ∧ i = .int .i64 (k : Int) ∧ (l.drop k).any f = l.any f ∧ Below w.heap.size w wr ∧ Blk wr w.heap.size 45 (p.arr A1 A2) ∧ Blk wr (w.heap.size + 1) 45 (q.arr A3 A4)
set_option maxRecDepth 100000 in
set_option maxHeartbeats 8000000 in
theorem rclash_any (p q : Pn) (A1 A2 A3 A4 : Option Addr) (n1 n2 n3 n4 c1 c2 c3 c4 : Nat) (w : World) (h1 : Sl KyRel 1 w w.heap.size A1 n1 p.r) (h2 : Sl WtRel 4 w w.heap.size A2 n2 p.w) (h3 : Sl KyRel 1 w w.heap.size A3 n3 q.r) (h4 : Sl WtRel 4 w w.heap.size A4 n4 q.w)
    (hn1 : n1 ≤ maxLen) (hn2 : n2 ≤ maxLen) (hn3 : n3 ≤ maxLen) (hn4 : n4 ≤ maxLen) :
    Calls Tryz.prog 69 #[p.val (.slice A1 n1 c1) (.slice A2 n2 c2), q.val (.slice A3 n3 c3) (.slice A4 n4 c4)] w fun e w' => e = .returned (.bool (clashB q p)) ∧ Below w.heap.size w w' := by
  have hcl : clashB q p = (p.w.any (fun a => wrL a.key q.w || inL a.key q.r) || p.r.any (fun k => wrL k q.w)) := rfl
  generalize clashB q p = B at *
  have HW := Lib.hid (fun (x : ByteArray) w' (hb : Below w.heap.size w w') => rwrites_any q A3 n3 c3 x A4 n4 c4 w' ((h4.below WtRel.kept hb).more WtRel.kept hb.size) hn4)
  have HR := Lib.hid (fun (x : ByteArray) w' (hb : Below w.heap.size w w') => rreads_any q A4 n4 c4 x A3 n3 c3 w' ((h3.below KyRel.kept hb).more KyRel.kept hb.size) hn3)
  unfold maxLen at hn1 hn2
  have hl1 := h1.1
  have hl2 := h2.1
  have hge1 : n1 ≤ p.r.length := by omega
  have hle1 : p.r.length ≤ n1 := by omega
  have hge2 : n2 ≤ p.w.length := by omega
  have hle2 : p.w.length ≤ n2 := by omega
  clear hl1 hl2
  go_enter Tryz.func69, Tryz.ntmps69
  go_wp2
  go_loopw [5] (fun i wr => ClashRel (fun a : Wt => wrL a.key q.w || inL a.key q.r) p.w p q (.slice A1 n1 c1) (.slice A2 n2 c2) (.slice A3 n3 c3) (.slice A4 n4 c4) w i wr) (fun i _ => n2 - (intOf i).toNat)
  case atStart => exact ⟨0, by omega, rfl, rfl, by go_grown, (Blk.new _ _ _).alloc _, Blk.new' _ _ (by simp)⟩
  case round =>
    obtain ⟨k, hk, rfl, hs, hb, b2, b3⟩ := hrel
    have hzz := hb.size
    obtain ⟨l2, x0, x1, x2, x3, x4, x5, x6, z⟩ := b2.eight
    obtain ⟨l3, y0, y1, y2, y3, y4, y5, y6, y7⟩ := b3.eight
    by_cases hlt : k < n2
    · obtain ⟨ad, a, rfl, ha, hbk, hok, e0, -, -, -⟩ := ((h2.below WtRel.kept hb).more WtRel.kept hb.size).wt hlt
      have hd1 : decide ((k : Int) < (n2 : Int)) = true := by simp; omega
      have hk0 : (0 : Int) ≤ (k : Int) := by omega
      have hk1 : (k : Int) < (n2 : Int) := by omega
      have hcw := fun w' (hx : Below wr.heap.size wr w') => HW.out a.key w' (hb.trans (hx.mono hzz))
      have hcr := fun w' (hx : Below wr.heap.size wr w') => HR.out a.key w' (hb.trans (hx.mono hzz))
      rw [any_dropE ha] at hs
      clear ha x0 x1 x2 x3 x4 x5 x6
      cases hw : wrL a.key q.w
      · rw [hw] at hcw hs
        cases hr : inL a.key q.r
        · rw [rdL_in, hr] at hcr
          rw [hr] at hs
          have HS := Lib.hid (show (p.w.drop (k + 1)).any (fun a : Wt => wrL a.key q.w || inL a.key q.r) = p.w.any (fun a : Wt => wrL a.key q.w || inL a.key q.r) from hs)
          clear hs hw hr
          go_wp2
          refine wp_region_held_drew (S := fun w' => w'.cell? ⟨w.heap.size + 1, 0, none⟩ = some (.int .i64 q.t.c) ∧ w'.cell? ⟨w.heap.size + 1, 1, none⟩ = some (.int .i64 q.t.l) ∧ w'.cell? ⟨w.heap.size + 1, 2, none⟩ = some (.int .i64 q.t.s) ∧ w'.cell? ⟨w.heap.size + 1, 3, none⟩ = some (.int .i64 q.s.w) ∧ w'.cell? ⟨w.heap.size + 1, 4, none⟩ = some (.int .i64 q.s.l) ∧ w'.cell? ⟨w.heap.size + 1, 5, none⟩ = some (.int .i64 q.s.n) ∧ w'.cell? ⟨w.heap.size + 1, 6, none⟩ = some (.slice A3 n3 c3) ∧ w'.cell? ⟨w.heap.size + 1, 7, none⟩ = some (.slice A4 n4 c4) ∧ w'.cell? ⟨w.heap.size, 7, none⟩ = some (.slice (some ad) n2 c2) ∧ w'.cell? (ad.add (k * 4)) = some (.string a.key)) (by kernel_rfl) ⟨y0, y1, y2, y3, y4, y5, y6, y7, z, e0⟩ (fun hHeld => ?_)
          refine wpAnyH_take (i := 0) (oi := ⟨some 14, _, _, _, _, _⟩) (v := ?va0) rfl (by kernel_rfl) (by kernel_rfl) (by kernel_rfl) (fun _ _ _ h => h) (Or.inl ⟨by kernel_rfl, ?ha0⟩) hHeld ?ra0
          case ha0 =>
            intro W hSw
            go_simp
            try with_reducible rfl
          go_frame
          refine wpAnyH_take (i := 1) (oi := ⟨some 15, _, _, _, _, _⟩) (v := ?va1) rfl (by kernel_rfl) (by kernel_rfl) (by kernel_rfl) (fun _ _ _ h => h) (Or.inl ⟨by kernel_rfl, ?ha1⟩) hHeld ?ra1
          case ha1 =>
            intro W hSw
            go_simp
            try with_reducible rfl
          go_frame
          refine wpAnyH_take (i := 2) (oi := ⟨some 16, _, _, _, _, _⟩) (v := ?va2) rfl (by kernel_rfl) (by kernel_rfl) (by kernel_rfl) (fun _ _ _ h => h) (Or.inl ⟨by kernel_rfl, ?ha2⟩) hHeld ?ra2
          case ha2 =>
            intro W hSw
            go_simp
            try with_reducible rfl
          go_frame
          refine wpAnyH_take (i := 3) (oi := ⟨some 17, _, _, _, _, _⟩) (v := ?va3) rfl (by kernel_rfl) (by kernel_rfl) (by kernel_rfl) (fun _ _ _ h => h) (Or.inl ⟨by kernel_rfl, ?ha3⟩) hHeld ?ra3
          case ha3 =>
            intro W hSw
            go_simp
            try with_reducible rfl
          go_frame
          refine wpAnyH_take (i := 4) (oi := ⟨some 18, _, _, _, _, _⟩) (v := ?va4) rfl (by kernel_rfl) (by kernel_rfl) (by kernel_rfl) (fun _ _ _ h => h) (Or.inl ⟨by kernel_rfl, ?ha4⟩) hHeld ?ra4
          case ha4 =>
            intro W hSw
            go_simp
            try with_reducible rfl
          go_frame
          refine wpAnyH_take (i := 5) (oi := ⟨some 19, _, _, _, _, _⟩) (v := ?va5) rfl (by kernel_rfl) (by kernel_rfl) (by kernel_rfl) (fun _ _ _ h => h) (Or.inl ⟨by kernel_rfl, ?ha5⟩) hHeld ?ra5
          case ha5 =>
            intro W hSw
            go_simp
            try with_reducible rfl
          go_frame
          refine wpAnyH_take (i := 6) (oi := ⟨some 20, _, _, _, _, _⟩) (v := ?va6) rfl (by kernel_rfl) (by kernel_rfl) (by kernel_rfl) (fun _ _ _ h => h) (Or.inl ⟨by kernel_rfl, ?ha6⟩) hHeld ?ra6
          case ha6 =>
            intro W hSw
            go_simp
            try with_reducible rfl
          go_frame
          refine wpAnyH_ready (rs := [7]) (by kernel_rfl) (by simp) ?_
          refine AllReadyH.cons rfl (fun K hK => ?_) AllReadyH.nil
          go_simp
          (with_reducible refine (hcw _ (Below.refl _ _).drew).mono ?_)
          rintro e w5 ⟨rfl, hb5⟩
          have hb9 : Below wr.heap.size wr w5 := (Below.refl wr.heap.size wr).drew.trans hb5
          refine hK.out _ _ ⟨(hb9.cell (by exact l3)).trans y0, (hb9.cell (by exact l3)).trans y1, (hb9.cell (by exact l3)).trans y2, (hb9.cell (by exact l3)).trans y3, (hb9.cell (by exact l3)).trans y4, (hb9.cell (by exact l3)).trans y5, (hb9.cell (by exact l3)).trans y6, (hb9.cell (by exact l3)).trans y7, (hb9.cell (by exact l2)).trans z, (hb9.cell (by exact hbk)).trans e0⟩ (fun hHeld => ?_)
          clear hK K
          try go_frame
          refine wpAnyH_take (i := 8) (oi := ⟨some 22, _, _, _, _, _⟩) (v := ?va8) rfl (by kernel_rfl) (by kernel_rfl) (by kernel_rfl) (fun _ _ _ h => h) (Or.inl ⟨by kernel_rfl, ?ha8⟩) hHeld ?ra8
          case ha8 =>
            intro W hSw
            go_simp
            try with_reducible rfl
          go_frame
          refine wpAnyH_take (i := 9) (oi := ⟨some 23, _, _, _, _, _⟩) (v := ?va9) rfl (by kernel_rfl) (by kernel_rfl) (by kernel_rfl) (fun _ _ _ h => h) (Or.inl ⟨by kernel_rfl, ?ha9⟩) hHeld ?ra9
          case ha9 =>
            intro W hSw
            go_simp
            try with_reducible rfl
          go_frame
          refine wpAnyH_take (i := 10) (oi := ⟨some 24, _, _, _, _, _⟩) (v := ?va10) rfl (by kernel_rfl) (by kernel_rfl) (by kernel_rfl) (fun _ _ _ h => h) (Or.inl ⟨by kernel_rfl, ?ha10⟩) hHeld ?ra10
          case ha10 =>
            intro W hSw
            go_simp
            try with_reducible rfl
          go_frame
          refine wpAnyH_take (i := 11) (oi := ⟨some 25, _, _, _, _, _⟩) (v := ?va11) rfl (by kernel_rfl) (by kernel_rfl) (by kernel_rfl) (fun _ _ _ h => h) (Or.inl ⟨by kernel_rfl, ?ha11⟩) hHeld ?ra11
          case ha11 =>
            intro W hSw
            go_simp
            try with_reducible rfl
          go_frame
          refine wpAnyH_take (i := 12) (oi := ⟨some 26, _, _, _, _, _⟩) (v := ?va12) rfl (by kernel_rfl) (by kernel_rfl) (by kernel_rfl) (fun _ _ _ h => h) (Or.inl ⟨by kernel_rfl, ?ha12⟩) hHeld ?ra12
          case ha12 =>
            intro W hSw
            go_simp
            try with_reducible rfl
          go_frame
          refine wpAnyH_take (i := 13) (oi := ⟨some 27, _, _, _, _, _⟩) (v := ?va13) rfl (by kernel_rfl) (by kernel_rfl) (by kernel_rfl) (fun _ _ _ h => h) (Or.inl ⟨by kernel_rfl, ?ha13⟩) hHeld ?ra13
          case ha13 =>
            intro W hSw
            go_simp
            try with_reducible rfl
          go_frame
          refine wpAnyH_take (i := 14) (oi := ⟨some 28, _, _, _, _, _⟩) (v := ?va14) rfl (by kernel_rfl) (by kernel_rfl) (by kernel_rfl) (fun _ _ _ h => h) (Or.inl ⟨by kernel_rfl, ?ha14⟩) hHeld ?ra14
          case ha14 =>
            intro W hSw
            go_simp
            try with_reducible rfl
          go_frame
          refine wpAnyH_take (i := 15) (oi := ⟨some 29, _, _, _, _, _⟩) (v := ?va15) rfl (by kernel_rfl) (by kernel_rfl) (by kernel_rfl) (fun _ _ _ h => h) (Or.inl ⟨by kernel_rfl, ?ha15⟩) hHeld ?ra15
          case ha15 =>
            intro W hSw
            go_simp
            try with_reducible rfl
          go_frame
          refine wpAnyH_ready (rs := [16]) (by kernel_rfl) (by simp) ?_
          refine AllReadyH.cons rfl (fun K hK => ?_) AllReadyH.nil
          go_simp
          (with_reducible refine (hcr _ hb9).mono ?_)
          rintro e w6 ⟨rfl, hb6⟩
          have hb8 : Below wr.heap.size wr w6 := hb9.trans (hb6.mono hb9.size)
          refine hK.out _ _ ⟨(hb8.cell (by exact l3)).trans y0, (hb8.cell (by exact l3)).trans y1, (hb8.cell (by exact l3)).trans y2, (hb8.cell (by exact l3)).trans y3, (hb8.cell (by exact l3)).trans y4, (hb8.cell (by exact l3)).trans y5, (hb8.cell (by exact l3)).trans y6, (hb8.cell (by exact l3)).trans y7, (hb8.cell (by exact l2)).trans z, (hb8.cell (by exact hbk)).trans e0⟩ (fun hHeld => ?_)
          clear hK K
          try go_frame
          refine wpAnyH_take (i := 17) (oi := ⟨some 31, _, _, _, _, _⟩) (v := ?va17) rfl (by kernel_rfl) (by kernel_rfl) (by kernel_rfl) (fun _ _ _ h => h) (Or.inl ⟨by kernel_rfl, ?ha17⟩) hHeld ?ra17
          case ha17 =>
            intro W hSw
            go_simp
            try with_reducible rfl
          go_frame
          refine wpAnyH_done (by kernel_rfl) ?_ _
          go_wp2
          go_roundw
          case rel => exact ⟨k + 1, by omega, by go_num, HS.out, hb.trans (hb8.mono hzz), b2.below hb8 l2, b3.below hb8 l3⟩
          case measure => simp [intOf]; omega
        · rw [rdL_in, hr] at hcr
          rw [hr] at hs
          have HF := Lib.hid (show B = true by rw [hcl, ← hs]; rfl)
          clear hs hw hr
          go_wp2
          refine wp_region_held_drew (S := fun w' => w'.cell? ⟨w.heap.size + 1, 0, none⟩ = some (.int .i64 q.t.c) ∧ w'.cell? ⟨w.heap.size + 1, 1, none⟩ = some (.int .i64 q.t.l) ∧ w'.cell? ⟨w.heap.size + 1, 2, none⟩ = some (.int .i64 q.t.s) ∧ w'.cell? ⟨w.heap.size + 1, 3, none⟩ = some (.int .i64 q.s.w) ∧ w'.cell? ⟨w.heap.size + 1, 4, none⟩ = some (.int .i64 q.s.l) ∧ w'.cell? ⟨w.heap.size + 1, 5, none⟩ = some (.int .i64 q.s.n) ∧ w'.cell? ⟨w.heap.size + 1, 6, none⟩ = some (.slice A3 n3 c3) ∧ w'.cell? ⟨w.heap.size + 1, 7, none⟩ = some (.slice A4 n4 c4) ∧ w'.cell? ⟨w.heap.size, 7, none⟩ = some (.slice (some ad) n2 c2) ∧ w'.cell? (ad.add (k * 4)) = some (.string a.key)) (by kernel_rfl) ⟨y0, y1, y2, y3, y4, y5, y6, y7, z, e0⟩ (fun hHeld => ?_)
          refine wpAnyH_take (i := 0) (oi := ⟨some 14, _, _, _, _, _⟩) (v := ?vb0) rfl (by kernel_rfl) (by kernel_rfl) (by kernel_rfl) (fun _ _ _ h => h) (Or.inl ⟨by kernel_rfl, ?hb0⟩) hHeld ?rb0
          case hb0 =>
            intro W hSw
            go_simp
            try with_reducible rfl
          go_frame
          refine wpAnyH_take (i := 1) (oi := ⟨some 15, _, _, _, _, _⟩) (v := ?vb1) rfl (by kernel_rfl) (by kernel_rfl) (by kernel_rfl) (fun _ _ _ h => h) (Or.inl ⟨by kernel_rfl, ?hb1⟩) hHeld ?rb1
          case hb1 =>
            intro W hSw
            go_simp
            try with_reducible rfl
          go_frame
          refine wpAnyH_take (i := 2) (oi := ⟨some 16, _, _, _, _, _⟩) (v := ?vb2) rfl (by kernel_rfl) (by kernel_rfl) (by kernel_rfl) (fun _ _ _ h => h) (Or.inl ⟨by kernel_rfl, ?hb2⟩) hHeld ?rb2
          case hb2 =>
            intro W hSw
            go_simp
            try with_reducible rfl
          go_frame
          refine wpAnyH_take (i := 3) (oi := ⟨some 17, _, _, _, _, _⟩) (v := ?vb3) rfl (by kernel_rfl) (by kernel_rfl) (by kernel_rfl) (fun _ _ _ h => h) (Or.inl ⟨by kernel_rfl, ?hb3⟩) hHeld ?rb3
          case hb3 =>
            intro W hSw
            go_simp
            try with_reducible rfl
          go_frame
          refine wpAnyH_take (i := 4) (oi := ⟨some 18, _, _, _, _, _⟩) (v := ?vb4) rfl (by kernel_rfl) (by kernel_rfl) (by kernel_rfl) (fun _ _ _ h => h) (Or.inl ⟨by kernel_rfl, ?hb4⟩) hHeld ?rb4
          case hb4 =>
            intro W hSw
            go_simp
            try with_reducible rfl
          go_frame
          refine wpAnyH_take (i := 5) (oi := ⟨some 19, _, _, _, _, _⟩) (v := ?vb5) rfl (by kernel_rfl) (by kernel_rfl) (by kernel_rfl) (fun _ _ _ h => h) (Or.inl ⟨by kernel_rfl, ?hb5⟩) hHeld ?rb5
          case hb5 =>
            intro W hSw
            go_simp
            try with_reducible rfl
          go_frame
          refine wpAnyH_take (i := 6) (oi := ⟨some 20, _, _, _, _, _⟩) (v := ?vb6) rfl (by kernel_rfl) (by kernel_rfl) (by kernel_rfl) (fun _ _ _ h => h) (Or.inl ⟨by kernel_rfl, ?hb6⟩) hHeld ?rb6
          case hb6 =>
            intro W hSw
            go_simp
            try with_reducible rfl
          go_frame
          refine wpAnyH_ready (rs := [7]) (by kernel_rfl) (by simp) ?_
          refine AllReadyH.cons rfl (fun K hK => ?_) AllReadyH.nil
          go_simp
          (with_reducible refine (hcw _ (Below.refl _ _).drew).mono ?_)
          rintro e w5 ⟨rfl, hb5⟩
          have hb9 : Below wr.heap.size wr w5 := (Below.refl wr.heap.size wr).drew.trans hb5
          refine hK.out _ _ ⟨(hb9.cell (by exact l3)).trans y0, (hb9.cell (by exact l3)).trans y1, (hb9.cell (by exact l3)).trans y2, (hb9.cell (by exact l3)).trans y3, (hb9.cell (by exact l3)).trans y4, (hb9.cell (by exact l3)).trans y5, (hb9.cell (by exact l3)).trans y6, (hb9.cell (by exact l3)).trans y7, (hb9.cell (by exact l2)).trans z, (hb9.cell (by exact hbk)).trans e0⟩ (fun hHeld => ?_)
          clear hK K
          try go_frame
          refine wpAnyH_take (i := 8) (oi := ⟨some 22, _, _, _, _, _⟩) (v := ?vb8) rfl (by kernel_rfl) (by kernel_rfl) (by kernel_rfl) (fun _ _ _ h => h) (Or.inl ⟨by kernel_rfl, ?hb8⟩) hHeld ?rb8
          case hb8 =>
            intro W hSw
            go_simp
            try with_reducible rfl
          go_frame
          refine wpAnyH_take (i := 9) (oi := ⟨some 23, _, _, _, _, _⟩) (v := ?vb9) rfl (by kernel_rfl) (by kernel_rfl) (by kernel_rfl) (fun _ _ _ h => h) (Or.inl ⟨by kernel_rfl, ?hb9⟩) hHeld ?rb9
          case hb9 =>
            intro W hSw
            go_simp
            try with_reducible rfl
          go_frame
          refine wpAnyH_take (i := 10) (oi := ⟨some 24, _, _, _, _, _⟩) (v := ?vb10) rfl (by kernel_rfl) (by kernel_rfl) (by kernel_rfl) (fun _ _ _ h => h) (Or.inl ⟨by kernel_rfl, ?hb10⟩) hHeld ?rb10
          case hb10 =>
            intro W hSw
            go_simp
            try with_reducible rfl
          go_frame
          refine wpAnyH_take (i := 11) (oi := ⟨some 25, _, _, _, _, _⟩) (v := ?vb11) rfl (by kernel_rfl) (by kernel_rfl) (by kernel_rfl) (fun _ _ _ h => h) (Or.inl ⟨by kernel_rfl, ?hb11⟩) hHeld ?rb11
          case hb11 =>
            intro W hSw
            go_simp
            try with_reducible rfl
          go_frame
          refine wpAnyH_take (i := 12) (oi := ⟨some 26, _, _, _, _, _⟩) (v := ?vb12) rfl (by kernel_rfl) (by kernel_rfl) (by kernel_rfl) (fun _ _ _ h => h) (Or.inl ⟨by kernel_rfl, ?hb12⟩) hHeld ?rb12
          case hb12 =>
            intro W hSw
            go_simp
            try with_reducible rfl
          go_frame
          refine wpAnyH_take (i := 13) (oi := ⟨some 27, _, _, _, _, _⟩) (v := ?vb13) rfl (by kernel_rfl) (by kernel_rfl) (by kernel_rfl) (fun _ _ _ h => h) (Or.inl ⟨by kernel_rfl, ?hb13⟩) hHeld ?rb13
          case hb13 =>
            intro W hSw
            go_simp
            try with_reducible rfl
          go_frame
          refine wpAnyH_take (i := 14) (oi := ⟨some 28, _, _, _, _, _⟩) (v := ?vb14) rfl (by kernel_rfl) (by kernel_rfl) (by kernel_rfl) (fun _ _ _ h => h) (Or.inl ⟨by kernel_rfl, ?hb14⟩) hHeld ?rb14
          case hb14 =>
            intro W hSw
            go_simp
            try with_reducible rfl
          go_frame
          refine wpAnyH_take (i := 15) (oi := ⟨some 29, _, _, _, _, _⟩) (v := ?vb15) rfl (by kernel_rfl) (by kernel_rfl) (by kernel_rfl) (fun _ _ _ h => h) (Or.inl ⟨by kernel_rfl, ?hb15⟩) hHeld ?rb15
          case hb15 =>
            intro W hSw
            go_simp
            try with_reducible rfl
          go_frame
          refine wpAnyH_ready (rs := [16]) (by kernel_rfl) (by simp) ?_
          refine AllReadyH.cons rfl (fun K hK => ?_) AllReadyH.nil
          go_simp
          (with_reducible refine (hcr _ hb9).mono ?_)
          rintro e w6 ⟨rfl, hb6⟩
          have hb8 : Below wr.heap.size wr w6 := hb9.trans (hb6.mono hb9.size)
          refine hK.out _ _ ⟨(hb8.cell (by exact l3)).trans y0, (hb8.cell (by exact l3)).trans y1, (hb8.cell (by exact l3)).trans y2, (hb8.cell (by exact l3)).trans y3, (hb8.cell (by exact l3)).trans y4, (hb8.cell (by exact l3)).trans y5, (hb8.cell (by exact l3)).trans y6, (hb8.cell (by exact l3)).trans y7, (hb8.cell (by exact l2)).trans z, (hb8.cell (by exact hbk)).trans e0⟩ (fun hHeld => ?_)
          clear hK K
          try go_frame
          refine wpAnyH_take (i := 17) (oi := ⟨some 31, _, _, _, _, _⟩) (v := ?vb17) rfl (by kernel_rfl) (by kernel_rfl) (by kernel_rfl) (fun _ _ _ h => h) (Or.inl ⟨by kernel_rfl, ?hb17⟩) hHeld ?rb17
          case hb17 =>
            intro W hSw
            go_simp
            try with_reducible rfl
          go_frame
          refine wpAnyH_done (by kernel_rfl) ?_ _
          go_wp2
          go_ret
          rw [HF.out]
          exact ⟨rfl, hb.trans (hb8.mono hzz)⟩
      · rw [hw] at hcw hs
        have HF := Lib.hid (show B = true by rw [hcl, ← hs]; rfl)
        clear hs hw
        go_wp2
        refine wp_region_held_drew (S := fun w' => w'.cell? ⟨w.heap.size + 1, 0, none⟩ = some (.int .i64 q.t.c) ∧ w'.cell? ⟨w.heap.size + 1, 1, none⟩ = some (.int .i64 q.t.l) ∧ w'.cell? ⟨w.heap.size + 1, 2, none⟩ = some (.int .i64 q.t.s) ∧ w'.cell? ⟨w.heap.size + 1, 3, none⟩ = some (.int .i64 q.s.w) ∧ w'.cell? ⟨w.heap.size + 1, 4, none⟩ = some (.int .i64 q.s.l) ∧ w'.cell? ⟨w.heap.size + 1, 5, none⟩ = some (.int .i64 q.s.n) ∧ w'.cell? ⟨w.heap.size + 1, 6, none⟩ = some (.slice A3 n3 c3) ∧ w'.cell? ⟨w.heap.size + 1, 7, none⟩ = some (.slice A4 n4 c4) ∧ w'.cell? ⟨w.heap.size, 7, none⟩ = some (.slice (some ad) n2 c2) ∧ w'.cell? (ad.add (k * 4)) = some (.string a.key)) (by kernel_rfl) ⟨y0, y1, y2, y3, y4, y5, y6, y7, z, e0⟩ (fun hHeld => ?_)
        refine wpAnyH_take (i := 0) (oi := ⟨some 14, _, _, _, _, _⟩) (v := ?vc0) rfl (by kernel_rfl) (by kernel_rfl) (by kernel_rfl) (fun _ _ _ h => h) (Or.inl ⟨by kernel_rfl, ?hc0⟩) hHeld ?rc0
        case hc0 =>
          intro W hSw
          go_simp
          try with_reducible rfl
        go_frame
        refine wpAnyH_take (i := 1) (oi := ⟨some 15, _, _, _, _, _⟩) (v := ?vc1) rfl (by kernel_rfl) (by kernel_rfl) (by kernel_rfl) (fun _ _ _ h => h) (Or.inl ⟨by kernel_rfl, ?hc1⟩) hHeld ?rc1
        case hc1 =>
          intro W hSw
          go_simp
          try with_reducible rfl
        go_frame
        refine wpAnyH_take (i := 2) (oi := ⟨some 16, _, _, _, _, _⟩) (v := ?vc2) rfl (by kernel_rfl) (by kernel_rfl) (by kernel_rfl) (fun _ _ _ h => h) (Or.inl ⟨by kernel_rfl, ?hc2⟩) hHeld ?rc2
        case hc2 =>
          intro W hSw
          go_simp
          try with_reducible rfl
        go_frame
        refine wpAnyH_take (i := 3) (oi := ⟨some 17, _, _, _, _, _⟩) (v := ?vc3) rfl (by kernel_rfl) (by kernel_rfl) (by kernel_rfl) (fun _ _ _ h => h) (Or.inl ⟨by kernel_rfl, ?hc3⟩) hHeld ?rc3
        case hc3 =>
          intro W hSw
          go_simp
          try with_reducible rfl
        go_frame
        refine wpAnyH_take (i := 4) (oi := ⟨some 18, _, _, _, _, _⟩) (v := ?vc4) rfl (by kernel_rfl) (by kernel_rfl) (by kernel_rfl) (fun _ _ _ h => h) (Or.inl ⟨by kernel_rfl, ?hc4⟩) hHeld ?rc4
        case hc4 =>
          intro W hSw
          go_simp
          try with_reducible rfl
        go_frame
        refine wpAnyH_take (i := 5) (oi := ⟨some 19, _, _, _, _, _⟩) (v := ?vc5) rfl (by kernel_rfl) (by kernel_rfl) (by kernel_rfl) (fun _ _ _ h => h) (Or.inl ⟨by kernel_rfl, ?hc5⟩) hHeld ?rc5
        case hc5 =>
          intro W hSw
          go_simp
          try with_reducible rfl
        go_frame
        refine wpAnyH_take (i := 6) (oi := ⟨some 20, _, _, _, _, _⟩) (v := ?vc6) rfl (by kernel_rfl) (by kernel_rfl) (by kernel_rfl) (fun _ _ _ h => h) (Or.inl ⟨by kernel_rfl, ?hc6⟩) hHeld ?rc6
        case hc6 =>
          intro W hSw
          go_simp
          try with_reducible rfl
        go_frame
        refine wpAnyH_ready (rs := [7]) (by kernel_rfl) (by simp) ?_
        refine AllReadyH.cons rfl (fun K hK => ?_) AllReadyH.nil
        go_simp
        (with_reducible refine (hcw _ (Below.refl _ _).drew).mono ?_)
        rintro e w5 ⟨rfl, hb5⟩
        have hb9 : Below wr.heap.size wr w5 := (Below.refl wr.heap.size wr).drew.trans hb5
        refine hK.out _ _ ⟨(hb9.cell (by exact l3)).trans y0, (hb9.cell (by exact l3)).trans y1, (hb9.cell (by exact l3)).trans y2, (hb9.cell (by exact l3)).trans y3, (hb9.cell (by exact l3)).trans y4, (hb9.cell (by exact l3)).trans y5, (hb9.cell (by exact l3)).trans y6, (hb9.cell (by exact l3)).trans y7, (hb9.cell (by exact l2)).trans z, (hb9.cell (by exact hbk)).trans e0⟩ (fun hHeld => ?_)
        clear hK K
        try go_frame
        refine wpAnyH_take (i := 8) (oi := ⟨some 22, _, _, _, _, _⟩) (v := ?vc8) rfl (by kernel_rfl) (by kernel_rfl) (by kernel_rfl) (fun _ _ _ h => h) (Or.inl ⟨by kernel_rfl, ?hc8⟩) hHeld ?rc8
        case hc8 =>
          intro W hSw
          go_simp
          try with_reducible rfl
        go_frame
        refine wpAnyH_take (i := 9) (oi := ⟨some 23, _, _, _, _, _⟩) (v := undef) rfl (by kernel_rfl) (by kernel_rfl) (by kernel_rfl) (fun _ _ _ h => h) (Or.inr ⟨by kernel_rfl, rfl⟩) hHeld ?_
        go_frame
        refine wpAnyH_take (i := 10) (oi := ⟨some 24, _, _, _, _, _⟩) (v := undef) rfl (by kernel_rfl) (by kernel_rfl) (by kernel_rfl) (fun _ _ _ h => h) (Or.inr ⟨by kernel_rfl, rfl⟩) hHeld ?_
        go_frame
        refine wpAnyH_take (i := 11) (oi := ⟨some 25, _, _, _, _, _⟩) (v := undef) rfl (by kernel_rfl) (by kernel_rfl) (by kernel_rfl) (fun _ _ _ h => h) (Or.inr ⟨by kernel_rfl, rfl⟩) hHeld ?_
        go_frame
        refine wpAnyH_take (i := 12) (oi := ⟨some 26, _, _, _, _, _⟩) (v := undef) rfl (by kernel_rfl) (by kernel_rfl) (by kernel_rfl) (fun _ _ _ h => h) (Or.inr ⟨by kernel_rfl, rfl⟩) hHeld ?_
        go_frame
        refine wpAnyH_take (i := 13) (oi := ⟨some 27, _, _, _, _, _⟩) (v := undef) rfl (by kernel_rfl) (by kernel_rfl) (by kernel_rfl) (fun _ _ _ h => h) (Or.inr ⟨by kernel_rfl, rfl⟩) hHeld ?_
        go_frame
        refine wpAnyH_take (i := 14) (oi := ⟨some 28, _, _, _, _, _⟩) (v := undef) rfl (by kernel_rfl) (by kernel_rfl) (by kernel_rfl) (fun _ _ _ h => h) (Or.inr ⟨by kernel_rfl, rfl⟩) hHeld ?_
        go_frame
        refine wpAnyH_take (i := 15) (oi := ⟨some 29, _, _, _, _, _⟩) (v := undef) rfl (by kernel_rfl) (by kernel_rfl) (by kernel_rfl) (fun _ _ _ h => h) (Or.inr ⟨by kernel_rfl, rfl⟩) hHeld ?_
        go_frame
        refine wpAnyH_take (i := 16) (oi := ⟨some 30, _, _, _, _, _⟩) (v := undef) rfl (by kernel_rfl) (by kernel_rfl) (by kernel_rfl) (fun _ _ _ h => h) (Or.inr ⟨by kernel_rfl, rfl⟩) hHeld ?_
        go_frame
        refine wpAnyH_take (i := 17) (oi := ⟨some 31, _, _, _, _, _⟩) (v := ?vc17) rfl (by kernel_rfl) (by kernel_rfl) (by kernel_rfl) (fun _ _ _ h => h) (Or.inl ⟨by kernel_rfl, ?hc17⟩) hHeld ?rc17
        case hc17 =>
          intro W hSw
          go_simp
          try with_reducible rfl
        go_frame
        refine wpAnyH_done (by kernel_rfl) ?_ _
        go_wp2
        go_ret
        rw [HF.out]
        exact ⟨rfl, hb.trans (hb9.mono hzz)⟩
    · have hd1 : decide ((k : Int) < (n2 : Int)) = false := by simp; omega
      have hcl2 : B = p.r.any (fun k => wrL k q.w) := by rw [hcl, ← hs, List.drop_of_length_le (by omega)]; rfl
      clear hs hcl
      go_wp2
      obtain ⟨w1, rfl⟩ : ∃ w1, w1 = wr := ⟨_, rfl⟩
      clear x0 x1 x2 x3 x4 x5 x6 z y0 y1 y2 y3 y4 y5 y6 y7 l2 l3
      go_loopw [6] (fun i wr => ClashRel (fun a : ByteArray => wrL a q.w) p.r p q (.slice A1 n1 c1) (.slice A2 n2 c2) (.slice A3 n3 c3) (.slice A4 n4 c4) w i wr) (fun i _ => n1 - (intOf i).toNat)
      case atStart => exact ⟨0, by omega, rfl, rfl, hb, b2, b3⟩
      case round =>
        clear hb b2 b3 hzz
        obtain ⟨k, hk, rfl, hs, hb, b2, b3⟩ := hrel
        have hzz := hb.size
        obtain ⟨l2, x0, x1, x2, x3, x4, x5, z, x7⟩ := b2.eight
        obtain ⟨l3, y0, y1, y2, y3, y4, y5, y6, y7⟩ := b3.eight
        by_cases hlt : k < n1
        · obtain ⟨ad, a, rfl, ha, hbk, hok, e0⟩ := ((h1.below KyRel.kept hb).more KyRel.kept hb.size).ky hlt
          have hd1 : decide ((k : Int) < (n1 : Int)) = true := by simp; omega
          have hk0 : (0 : Int) ≤ (k : Int) := by omega
          have hk1 : (k : Int) < (n1 : Int) := by omega
          have hcw := fun w' (hx : Below wr.heap.size wr w') => HW.out a w' (hb.trans (hx.mono hzz))
          rw [any_dropE ha] at hs
          clear ha x0 x1 x2 x3 x4 x5 x7
          cases hw : wrL a q.w
          · rw [hw] at hcw hs
            have HS := Lib.hid (show (p.r.drop (k + 1)).any (fun a : ByteArray => wrL a q.w) = p.r.any (fun a : ByteArray => wrL a q.w) from hs)
            clear hs hw
            go_wp2
            refine wp_region_held_drew (S := fun w' => w'.cell? ⟨w.heap.size + 1, 0, none⟩ = some (.int .i64 q.t.c) ∧ w'.cell? ⟨w.heap.size + 1, 1, none⟩ = some (.int .i64 q.t.l) ∧ w'.cell? ⟨w.heap.size + 1, 2, none⟩ = some (.int .i64 q.t.s) ∧ w'.cell? ⟨w.heap.size + 1, 3, none⟩ = some (.int .i64 q.s.w) ∧ w'.cell? ⟨w.heap.size + 1, 4, none⟩ = some (.int .i64 q.s.l) ∧ w'.cell? ⟨w.heap.size + 1, 5, none⟩ = some (.int .i64 q.s.n) ∧ w'.cell? ⟨w.heap.size + 1, 6, none⟩ = some (.slice A3 n3 c3) ∧ w'.cell? ⟨w.heap.size + 1, 7, none⟩ = some (.slice A4 n4 c4) ∧ w'.cell? ⟨w.heap.size, 6, none⟩ = some (.slice (some ad) n1 c1) ∧ w'.cell? (ad.add k) = some (.string a)) (by kernel_rfl) ⟨y0, y1, y2, y3, y4, y5, y6, y7, z, e0⟩ (fun hHeld => ?_)
            refine wpAnyH_take (i := 0) (oi := ⟨some 39, _, _, _, _, _⟩) (v := ?vd0) rfl (by kernel_rfl) (by kernel_rfl) (by kernel_rfl) (fun _ _ _ h => h) (Or.inl ⟨by kernel_rfl, ?hd0⟩) hHeld ?rd0
            case hd0 =>
              intro W hSw
              go_simp
              try with_reducible rfl
            go_frame
            refine wpAnyH_take (i := 1) (oi := ⟨some 40, _, _, _, _, _⟩) (v := ?vd1) rfl (by kernel_rfl) (by kernel_rfl) (by kernel_rfl) (fun _ _ _ h => h) (Or.inl ⟨by kernel_rfl, ?hd1⟩) hHeld ?rd1
            case hd1 =>
              intro W hSw
              go_simp
              try with_reducible rfl
            go_frame
            refine wpAnyH_take (i := 2) (oi := ⟨some 41, _, _, _, _, _⟩) (v := ?vd2) rfl (by kernel_rfl) (by kernel_rfl) (by kernel_rfl) (fun _ _ _ h => h) (Or.inl ⟨by kernel_rfl, ?hd2⟩) hHeld ?rd2
            case hd2 =>
              intro W hSw
              go_simp
              try with_reducible rfl
            go_frame
            refine wpAnyH_take (i := 3) (oi := ⟨some 42, _, _, _, _, _⟩) (v := ?vd3) rfl (by kernel_rfl) (by kernel_rfl) (by kernel_rfl) (fun _ _ _ h => h) (Or.inl ⟨by kernel_rfl, ?hd3⟩) hHeld ?rd3
            case hd3 =>
              intro W hSw
              go_simp
              try with_reducible rfl
            go_frame
            refine wpAnyH_take (i := 4) (oi := ⟨some 43, _, _, _, _, _⟩) (v := ?vd4) rfl (by kernel_rfl) (by kernel_rfl) (by kernel_rfl) (fun _ _ _ h => h) (Or.inl ⟨by kernel_rfl, ?hd4⟩) hHeld ?rd4
            case hd4 =>
              intro W hSw
              go_simp
              try with_reducible rfl
            go_frame
            refine wpAnyH_take (i := 5) (oi := ⟨some 44, _, _, _, _, _⟩) (v := ?vd5) rfl (by kernel_rfl) (by kernel_rfl) (by kernel_rfl) (fun _ _ _ h => h) (Or.inl ⟨by kernel_rfl, ?hd5⟩) hHeld ?rd5
            case hd5 =>
              intro W hSw
              go_simp
              try with_reducible rfl
            go_frame
            refine wpAnyH_ready (rs := [6]) (by kernel_rfl) (by simp) ?_
            refine AllReadyH.cons rfl (fun K hK => ?_) AllReadyH.nil
            go_simp
            (with_reducible refine (hcw _ (Below.refl _ _).drew).mono ?_)
            rintro e w5 ⟨rfl, hb5⟩
            have hb9 : Below wr.heap.size wr w5 := (Below.refl wr.heap.size wr).drew.trans hb5
            refine hK.out _ _ ⟨(hb9.cell (by exact l3)).trans y0, (hb9.cell (by exact l3)).trans y1, (hb9.cell (by exact l3)).trans y2, (hb9.cell (by exact l3)).trans y3, (hb9.cell (by exact l3)).trans y4, (hb9.cell (by exact l3)).trans y5, (hb9.cell (by exact l3)).trans y6, (hb9.cell (by exact l3)).trans y7, (hb9.cell (by exact l2)).trans z, (hb9.cell (by exact hbk)).trans e0⟩ (fun hHeld => ?_)
            clear hK K
            try go_frame
            refine wpAnyH_done (by kernel_rfl) ?_ _
            go_wp2
            go_roundw
            case rel => exact ⟨k + 1, by omega, by go_num, HS.out, hb.trans (hb9.mono hzz), b2.below hb9 l2, b3.below hb9 l3⟩
            case measure => simp [intOf]; omega
          · rw [hw] at hcw hs
            have HF := Lib.hid (show B = true by rw [hcl2, ← hs]; rfl)
            clear hs hw
            go_wp2
            refine wp_region_held_drew (S := fun w' => w'.cell? ⟨w.heap.size + 1, 0, none⟩ = some (.int .i64 q.t.c) ∧ w'.cell? ⟨w.heap.size + 1, 1, none⟩ = some (.int .i64 q.t.l) ∧ w'.cell? ⟨w.heap.size + 1, 2, none⟩ = some (.int .i64 q.t.s) ∧ w'.cell? ⟨w.heap.size + 1, 3, none⟩ = some (.int .i64 q.s.w) ∧ w'.cell? ⟨w.heap.size + 1, 4, none⟩ = some (.int .i64 q.s.l) ∧ w'.cell? ⟨w.heap.size + 1, 5, none⟩ = some (.int .i64 q.s.n) ∧ w'.cell? ⟨w.heap.size + 1, 6, none⟩ = some (.slice A3 n3 c3) ∧ w'.cell? ⟨w.heap.size + 1, 7, none⟩ = some (.slice A4 n4 c4) ∧ w'.cell? ⟨w.heap.size, 6, none⟩ = some (.slice (some ad) n1 c1) ∧ w'.cell? (ad.add k) = some (.string a)) (by kernel_rfl) ⟨y0, y1, y2, y3, y4, y5, y6, y7, z, e0⟩ (fun hHeld => ?_)
            refine wpAnyH_take (i := 0) (oi := ⟨some 39, _, _, _, _, _⟩) (v := ?ve0) rfl (by kernel_rfl) (by kernel_rfl) (by kernel_rfl) (fun _ _ _ h => h) (Or.inl ⟨by kernel_rfl, ?he0⟩) hHeld ?re0
            case he0 =>
              intro W hSw
              go_simp
              try with_reducible rfl
            go_frame
            refine wpAnyH_take (i := 1) (oi := ⟨some 40, _, _, _, _, _⟩) (v := ?ve1) rfl (by kernel_rfl) (by kernel_rfl) (by kernel_rfl) (fun _ _ _ h => h) (Or.inl ⟨by kernel_rfl, ?he1⟩) hHeld ?re1
            case he1 =>
              intro W hSw
              go_simp
              try with_reducible rfl
            go_frame
            refine wpAnyH_take (i := 2) (oi := ⟨some 41, _, _, _, _, _⟩) (v := ?ve2) rfl (by kernel_rfl) (by kernel_rfl) (by kernel_rfl) (fun _ _ _ h => h) (Or.inl ⟨by kernel_rfl, ?he2⟩) hHeld ?re2
            case he2 =>
              intro W hSw
              go_simp
              try with_reducible rfl
            go_frame
            refine wpAnyH_take (i := 3) (oi := ⟨some 42, _, _, _, _, _⟩) (v := ?ve3) rfl (by kernel_rfl) (by kernel_rfl) (by kernel_rfl) (fun _ _ _ h => h) (Or.inl ⟨by kernel_rfl, ?he3⟩) hHeld ?re3
            case he3 =>
              intro W hSw
              go_simp
              try with_reducible rfl
            go_frame
            refine wpAnyH_take (i := 4) (oi := ⟨some 43, _, _, _, _, _⟩) (v := ?ve4) rfl (by kernel_rfl) (by kernel_rfl) (by kernel_rfl) (fun _ _ _ h => h) (Or.inl ⟨by kernel_rfl, ?he4⟩) hHeld ?re4
            case he4 =>
              intro W hSw
              go_simp
              try with_reducible rfl
            go_frame
            refine wpAnyH_take (i := 5) (oi := ⟨some 44, _, _, _, _, _⟩) (v := ?ve5) rfl (by kernel_rfl) (by kernel_rfl) (by kernel_rfl) (fun _ _ _ h => h) (Or.inl ⟨by kernel_rfl, ?he5⟩) hHeld ?re5
            case he5 =>
              intro W hSw
              go_simp
              try with_reducible rfl
            go_frame
            refine wpAnyH_ready (rs := [6]) (by kernel_rfl) (by simp) ?_
            refine AllReadyH.cons rfl (fun K hK => ?_) AllReadyH.nil
            go_simp
            (with_reducible refine (hcw _ (Below.refl _ _).drew).mono ?_)
            rintro e w5 ⟨rfl, hb5⟩
            have hb9 : Below wr.heap.size wr w5 := (Below.refl wr.heap.size wr).drew.trans hb5
            refine hK.out _ _ ⟨(hb9.cell (by exact l3)).trans y0, (hb9.cell (by exact l3)).trans y1, (hb9.cell (by exact l3)).trans y2, (hb9.cell (by exact l3)).trans y3, (hb9.cell (by exact l3)).trans y4, (hb9.cell (by exact l3)).trans y5, (hb9.cell (by exact l3)).trans y6, (hb9.cell (by exact l3)).trans y7, (hb9.cell (by exact l2)).trans z, (hb9.cell (by exact hbk)).trans e0⟩ (fun hHeld => ?_)
            clear hK K
            try go_frame
            refine wpAnyH_done (by kernel_rfl) ?_ _
            go_wp2
            go_ret
            rw [HF.out]
            exact ⟨rfl, hb.trans (hb9.mono hzz)⟩
        · have hd1 : decide ((k : Int) < (n1 : Int)) = false := by simp; omega
          have HF := Lib.hid (show B = false by rw [hcl2, ← hs, List.drop_of_length_le (by omega)]; rfl)
          clear hs hcl2
          go_wp2
          go_ret
          rw [HF.out]
          exact ⟨rfl, hb⟩
end Go.Proofs.YtipacjbegfingaaGreat
