/- The document's merges of two rows. -/
import Derived.Test.YtipacjbegfingaaGreatYaci
namespace Go.Proofs.YtipacjbegfingaaGreat
set_option linter.unusedVariables false
open Go.RowKit
attribute [local go_sem] run_store_float

abbrev HhRel : Rel Hh := Flat Hh.cells fun _ => True
theorem HhRel.kept : HhRel.Kept := Flat.kept _ _
theorem Sl.hh {w : World} {B n : Nat} {A : Option Addr} {l : List Hh} (h : Sl HhRel 2 w B A n l) {k : Nat} (hk : k < n) : ∃ ad a, A = some ad ∧ l[k]? = some a ∧ (ad.add (k * 2)).block < B ∧ True ∧ w.cell? (ad.add (k * 2)) = some (.string a.key) ∧
    w.cell? ⟨(ad.add (k * 2)).block, (ad.add (k * 2)).off + 1, none⟩ = some a.hd := by
  obtain ⟨ad, cs, a, e, hl, hb, _, hc, rfl, -⟩ := h.at_ hk
  have e0 : ∀ j, ad.add (k * 2 + j) = (ad.add (k * 2)).add j := fun j => (add_of_add _ _ _).symm
  have c0 := hc 0 _ rfl
  have c1 := hc 1 _ rfl
  rw [e0] at c1
  exact ⟨ad, a, e, hl, by rw [block_of_add]; exact hb, trivial, c0, c1⟩
def MgR {α : Type} (cells : α → List Value) (T : TypeId) (E : Nat) (key : α → ByteArray) (l1 l2 : List α) (w : World) (v u x : Value) (wr : World) : Prop :=
  ∃ (i j : Nat) (acc : List α), i ≤ l1.length ∧ j ≤ l2.length ∧ acc.length = i + j ∧ u = .int .i64 (i : Int) ∧ x = .int .i64 (j : Int) ∧ acc ++ mergeL key (l1.drop i) (l2.drop j) = mergeL key l1 l2 ∧ OwnL cells T E w.heap.size wr v acc ∧ Below w.heap.size w wr

set_option maxRecDepth 100000 in
set_option maxHeartbeats 4000000 in
theorem rmerge_w (A1 A2 : Option Addr) (n1 n2 c1 c2 : Nat) (l1 l2 : List Wt) (w : World) (h1 : Sl WtRel 4 w w.heap.size A1 n1 l1) (h2 : Sl WtRel 4 w w.heap.size A2 n2 l2) (hn1 : n1 ≤ 100000000) (hn2 : n2 ≤ 100000000) :
    Calls Tryz.prog 29 #[.slice A1 n1 c1, .slice A2 n2 c2] w fun e w' => ∃ v, e = .returned v ∧ OwnL Wt.cells 86 4 w.heap.size w' v (mergeL Wt.key l1 l2) ∧ Below w.heap.size w w' := by
  obtain ⟨i0, hi0, hz0, hz1, hz2⟩ := info_parts info_wG
  have e1 := h1.1
  have e2 := h2.1
  have f1 : n1 ≤ l1.length := by omega
  have f2 : l1.length ≤ n1 := by omega
  have f3 : n2 ≤ l2.length := by omega
  have f4 : l2.length ≤ n2 := by omega
  clear e1 e2
  go_enter Tryz.func29, Tryz.ntmps29
  go_wp2
  go_loopw [5, 6, 7] (fun v u x wr => MgR Wt.cells 86 4 Wt.key l1 l2 w v u x wr) (fun _ u x _ => (n1 - (intOf u).toNat) + (n2 - (intOf x).toNat))
  case atStart => exact ⟨0, 0, [], Nat.zero_le _, Nat.zero_le _, rfl, rfl, rfl, rfl, OwnL.nil _, Below.refl _ _⟩
  case round =>
    obtain ⟨i, j, acc, hi1, hj1, hacc, rfl, rfl, hs, ho, hb⟩ := hrel
    by_cases hj : j < n2
    · have g1 : decide ((j : Int) < (n2 : Int)) = true := by simp; omega
      have g2 : ((j : Int) == (n2 : Int)) = false := by simp; omega
      obtain ⟨ad2, b, rfl, hlb, hb2, hok2, d0, d1, d2, d3⟩ := (h2.below WtRel.kept hb).wt hj
      have hlt2 := Nat.lt_of_lt_of_le hb2 hb.size
      have p3 : (0 : Int) ≤ (j : Int) := by omega
      have p4 : (j : Int) < (n2 : Int) := by omega
      by_cases hi : i < n1
      · have g3 : decide ((i : Int) < (n1 : Int)) = true := by simp; omega
        obtain ⟨ad1, a, rfl, hla, hb1, hok1, c0, c1, c2, c3⟩ := (h1.below WtRel.kept hb).wt hi
        have hlt1 := Nat.lt_of_lt_of_le hb1 hb.size
        have p1 : (0 : Int) ≤ (i : Int) := by omega
        have p2 : (i : Int) < (n1 : Int) := by omega
        cases hbl : bl a.key b.key
        · have hbl' : Op.bytesLess a.key.toList b.key.toList = false := hbl
          have HS := Lib.hid (show (acc ++ [b]) ++ mergeL Wt.key (l1.drop (i)) (l2.drop (j + 1)) = mergeL Wt.key l1 l2 by rw [List.append_assoc, List.singleton_append, ← merge_step_r hlb (.inr ⟨a, hla, hbl⟩)]; exact hs)
          clear hs
          clear hla hlb
          go_wp2_with fail
          go_quiet (fail)
          have HB : Below wr.heap.size wr (wr.drewN nq) := ⟨rfl, rfl, rfl, Nat.le_refl _, fun _ _ => rfl⟩
          replace ho := ho.below HB
          replace hb := hb.trans (HB.mono hb.size)
          replace d0 := (HB.cell (p := (ad2.add (j * 4))) (by exact hlt2)).trans d0
          replace d1 := (HB.cell (p := ⟨(ad2.add (j * 4)).block, (ad2.add (j * 4)).off + 1, none⟩) (by exact hlt2)).trans d1
          replace d2 := (HB.cell (p := ⟨(ad2.add (j * 4)).block, (ad2.add (j * 4)).off + 2, none⟩) (by exact hlt2)).trans d2
          replace d3 := (HB.cell (p := ⟨(ad2.add (j * 4)).block, (ad2.add (j * 4)).off + 3, none⟩) (by exact hlt2)).trans d3
          clear HB
          generalize wr.drewN nq = wx at *
          have hX : Below wx.heap.size wx (wx.alloc (.cells (Wt.cells b).toArray 86)) := (Below.refl _ _).alloc (Nat.le_refl _) _
          have hzx := hb.size
          obtain ⟨A3, q3, rfl, hq3, hq3m⟩ := ho.form
          have hown0 := ho.below hX
          have hrd0 := reads_new' wx 86 (Wt.cells b) 4 rfl
          have hsz0 : (wx.alloc (.cells (Wt.cells b).toArray 86)).heap.size = wx.heap.size + 1 := by simp
          go_wp2_with (first
            | (at_builtin
               refine wpList_append_any _ rfl (.tmp 50) (.tmp 55) _ rfl w.heap.size 86 i0 _ 4 48 Tryz.underlying43 hi0 hz0 hz1 hz2 rfl (by omega) (.slice A3 acc.length q3) _ (acc.flatMap Wt.cells) (by rfl) hown0 _ (some ⟨wx.heap.size, 0, none⟩) 1 1 (Wt.cells b) (by rfl) hrd0 (wt_one b) (by unfold maxLen; omega) (by omega) (by simp; omega) ?_
               intro v3 w3 hown3 hg3 hat3))
          have hp := OwnL.push b hown3
          have hbw := (hb.trans (hX.mono hzx)).grown hg3 (by simp; omega) (fun q hq => (hown0.lt q hq).1)
          go_roundw
          case rel => exact ⟨i, j + 1, acc ++ [b], by omega, by omega, by rw [List.length_append, List.length_singleton]; omega, by go_num, by go_num, HS.out, hp, hbw⟩
          case measure => simp [intOf]; omega
        · have hbl' : Op.bytesLess a.key.toList b.key.toList = true := hbl
          have HS := Lib.hid (show (acc ++ [a]) ++ mergeL Wt.key (l1.drop (i + 1)) (l2.drop (j)) = mergeL Wt.key l1 l2 by rw [List.append_assoc, List.singleton_append, ← merge_step_l hla (.inr ⟨b, hlb, hbl⟩)]; exact hs)
          clear hs
          clear hla hlb
          go_wp2_with fail
          go_quiet (fail)
          have HB : Below wr.heap.size wr (wr.drewN nq) := ⟨rfl, rfl, rfl, Nat.le_refl _, fun _ _ => rfl⟩
          replace ho := ho.below HB
          replace hb := hb.trans (HB.mono hb.size)
          replace c0 := (HB.cell (p := (ad1.add (i * 4))) (by exact hlt1)).trans c0
          replace c1 := (HB.cell (p := ⟨(ad1.add (i * 4)).block, (ad1.add (i * 4)).off + 1, none⟩) (by exact hlt1)).trans c1
          replace c2 := (HB.cell (p := ⟨(ad1.add (i * 4)).block, (ad1.add (i * 4)).off + 2, none⟩) (by exact hlt1)).trans c2
          replace c3 := (HB.cell (p := ⟨(ad1.add (i * 4)).block, (ad1.add (i * 4)).off + 3, none⟩) (by exact hlt1)).trans c3
          clear HB
          generalize wr.drewN nq = wx at *
          have hX : Below wx.heap.size wx (wx.alloc (.cells (Wt.cells a).toArray 86)) := (Below.refl _ _).alloc (Nat.le_refl _) _
          have hzx := hb.size
          obtain ⟨A3, q3, rfl, hq3, hq3m⟩ := ho.form
          have hown0 := ho.below hX
          have hrd0 := reads_new' wx 86 (Wt.cells a) 4 rfl
          have hsz0 : (wx.alloc (.cells (Wt.cells a).toArray 86)).heap.size = wx.heap.size + 1 := by simp
          go_wp2_with (first
            | (at_builtin
               refine wpList_append_any _ rfl (.tmp 41) (.tmp 46) _ rfl w.heap.size 86 i0 _ 4 48 Tryz.underlying43 hi0 hz0 hz1 hz2 rfl (by omega) (.slice A3 acc.length q3) _ (acc.flatMap Wt.cells) (by rfl) hown0 _ (some ⟨wx.heap.size, 0, none⟩) 1 1 (Wt.cells a) (by rfl) hrd0 (wt_one a) (by unfold maxLen; omega) (by omega) (by simp; omega) ?_
               intro v3 w3 hown3 hg3 hat3))
          have hp := OwnL.push a hown3
          have hbw := (hb.trans (hX.mono hzx)).grown hg3 (by simp; omega) (fun q hq => (hown0.lt q hq).1)
          go_roundw
          case rel => exact ⟨i + 1, j, acc ++ [a], by omega, by omega, by rw [List.length_append, List.length_singleton]; omega, by go_num, by go_num, HS.out, hp, hbw⟩
          case measure => simp [intOf]; omega
      · have g3 : decide ((i : Int) < (n1 : Int)) = false := by simp; omega
        have HS := Lib.hid (show (acc ++ [b]) ++ mergeL Wt.key (l1.drop (i)) (l2.drop (j + 1)) = mergeL Wt.key l1 l2 by rw [List.append_assoc, List.singleton_append, ← merge_step_r hlb (.inl (by omega))]; exact hs)
        clear hs
        clear hlb
        go_wp2_with fail
        go_quiet (fail)
        have HB : Below wr.heap.size wr (wr.drewN nq) := ⟨rfl, rfl, rfl, Nat.le_refl _, fun _ _ => rfl⟩
        replace ho := ho.below HB
        replace hb := hb.trans (HB.mono hb.size)
        replace d0 := (HB.cell (p := (ad2.add (j * 4))) (by exact hlt2)).trans d0
        replace d1 := (HB.cell (p := ⟨(ad2.add (j * 4)).block, (ad2.add (j * 4)).off + 1, none⟩) (by exact hlt2)).trans d1
        replace d2 := (HB.cell (p := ⟨(ad2.add (j * 4)).block, (ad2.add (j * 4)).off + 2, none⟩) (by exact hlt2)).trans d2
        replace d3 := (HB.cell (p := ⟨(ad2.add (j * 4)).block, (ad2.add (j * 4)).off + 3, none⟩) (by exact hlt2)).trans d3
        clear HB
        generalize wr.drewN nq = wx at *
        have hX : Below wx.heap.size wx (wx.alloc (.cells (Wt.cells b).toArray 86)) := (Below.refl _ _).alloc (Nat.le_refl _) _
        have hzx := hb.size
        obtain ⟨A3, q3, rfl, hq3, hq3m⟩ := ho.form
        have hown0 := ho.below hX
        have hrd0 := reads_new' wx 86 (Wt.cells b) 4 rfl
        have hsz0 : (wx.alloc (.cells (Wt.cells b).toArray 86)).heap.size = wx.heap.size + 1 := by simp
        go_wp2_with (first
          | (at_builtin
             refine wpList_append_any _ rfl (.tmp 50) (.tmp 55) _ rfl w.heap.size 86 i0 _ 4 48 Tryz.underlying43 hi0 hz0 hz1 hz2 rfl (by omega) (.slice A3 acc.length q3) _ (acc.flatMap Wt.cells) (by rfl) hown0 _ (some ⟨wx.heap.size, 0, none⟩) 1 1 (Wt.cells b) (by rfl) hrd0 (wt_one b) (by unfold maxLen; omega) (by omega) (by simp; omega) ?_
             intro v3 w3 hown3 hg3 hat3))
        have hp := OwnL.push b hown3
        have hbw := (hb.trans (hX.mono hzx)).grown hg3 (by simp; omega) (fun q hq => (hown0.lt q hq).1)
        go_roundw
        case rel => exact ⟨i, j + 1, acc ++ [b], by omega, by omega, by rw [List.length_append, List.length_singleton]; omega, by go_num, by go_num, HS.out, hp, hbw⟩
        case measure => simp [intOf]; omega
    · have g1 : decide ((j : Int) < (n2 : Int)) = false := by simp; omega
      have g2 : ((j : Int) == (n2 : Int)) = true := by simp; omega
      by_cases hi : i < n1
      · have g3 : decide ((i : Int) < (n1 : Int)) = true := by simp; omega
        obtain ⟨ad1, a, rfl, hla, hb1, hok1, c0, c1, c2, c3⟩ := (h1.below WtRel.kept hb).wt hi
        have hlt1 := Nat.lt_of_lt_of_le hb1 hb.size
        have p1 : (0 : Int) ≤ (i : Int) := by omega
        have p2 : (i : Int) < (n1 : Int) := by omega
        have HS := Lib.hid (show (acc ++ [a]) ++ mergeL Wt.key (l1.drop (i + 1)) (l2.drop (j)) = mergeL Wt.key l1 l2 by rw [List.append_assoc, List.singleton_append, ← merge_step_l hla (.inl (by omega))]; exact hs)
        clear hs
        clear hla
        go_wp2_with fail
        go_quiet (fail)
        have HB : Below wr.heap.size wr (wr.drewN nq) := ⟨rfl, rfl, rfl, Nat.le_refl _, fun _ _ => rfl⟩
        replace ho := ho.below HB
        replace hb := hb.trans (HB.mono hb.size)
        replace c0 := (HB.cell (p := (ad1.add (i * 4))) (by exact hlt1)).trans c0
        replace c1 := (HB.cell (p := ⟨(ad1.add (i * 4)).block, (ad1.add (i * 4)).off + 1, none⟩) (by exact hlt1)).trans c1
        replace c2 := (HB.cell (p := ⟨(ad1.add (i * 4)).block, (ad1.add (i * 4)).off + 2, none⟩) (by exact hlt1)).trans c2
        replace c3 := (HB.cell (p := ⟨(ad1.add (i * 4)).block, (ad1.add (i * 4)).off + 3, none⟩) (by exact hlt1)).trans c3
        clear HB
        generalize wr.drewN nq = wx at *
        have hX : Below wx.heap.size wx (wx.alloc (.cells (Wt.cells a).toArray 86)) := (Below.refl _ _).alloc (Nat.le_refl _) _
        have hzx := hb.size
        obtain ⟨A3, q3, rfl, hq3, hq3m⟩ := ho.form
        have hown0 := ho.below hX
        have hrd0 := reads_new' wx 86 (Wt.cells a) 4 rfl
        have hsz0 : (wx.alloc (.cells (Wt.cells a).toArray 86)).heap.size = wx.heap.size + 1 := by simp
        go_wp2_with (first
          | (at_builtin
             refine wpList_append_any _ rfl (.tmp 41) (.tmp 46) _ rfl w.heap.size 86 i0 _ 4 48 Tryz.underlying43 hi0 hz0 hz1 hz2 rfl (by omega) (.slice A3 acc.length q3) _ (acc.flatMap Wt.cells) (by rfl) hown0 _ (some ⟨wx.heap.size, 0, none⟩) 1 1 (Wt.cells a) (by rfl) hrd0 (wt_one a) (by unfold maxLen; omega) (by omega) (by simp; omega) ?_
             intro v3 w3 hown3 hg3 hat3))
        have hp := OwnL.push a hown3
        have hbw := (hb.trans (hX.mono hzx)).grown hg3 (by simp; omega) (fun q hq => (hown0.lt q hq).1)
        go_roundw
        case rel => exact ⟨i + 1, j, acc ++ [a], by omega, by omega, by rw [List.length_append, List.length_singleton]; omega, by go_num, by go_num, HS.out, hp, hbw⟩
        case measure => simp [intOf]; omega
      · have g3 : decide ((i : Int) < (n1 : Int)) = false := by simp; omega
        have HS := Lib.hid (show mergeL Wt.key l1 l2 = acc by rw [← hs, show l1.drop i = [] from List.drop_of_length_le (by omega), show l2.drop j = [] from List.drop_of_length_le (by omega), merge_nil, List.append_nil])
        clear hs
        go_wp2
        go_ret
        rw [HS.out]
        exact ⟨_, rfl, ho, hb⟩

set_option maxRecDepth 100000 in
set_option maxHeartbeats 4000000 in
theorem rmerge_s (A1 A2 : Option Addr) (n1 n2 c1 c2 : Nat) (l1 l2 : List ByteArray) (w : World) (h1 : Sl KyRel 1 w w.heap.size A1 n1 l1) (h2 : Sl KyRel 1 w w.heap.size A2 n2 l2) (hn1 : n1 ≤ 100000000) (hn2 : n2 ≤ 100000000) :
    Calls Tryz.prog 28 #[.slice A1 n1 c1, .slice A2 n2 c2] w fun e w' => ∃ v, e = .returned v ∧ OwnL keyCells 9 1 w.heap.size w' v (mergeL id l1 l2) ∧ Below w.heap.size w w' := by
  obtain ⟨i0, hi0, hz0, hz1, hz2⟩ := info_parts info_sG
  have e1 := h1.1
  have e2 := h2.1
  have f1 : n1 ≤ l1.length := by omega
  have f2 : l1.length ≤ n1 := by omega
  have f3 : n2 ≤ l2.length := by omega
  have f4 : l2.length ≤ n2 := by omega
  clear e1 e2
  go_enter Tryz.func28, Tryz.ntmps28
  go_wp2
  go_loopw [5, 6, 7] (fun v u x wr => MgR keyCells 9 1 id l1 l2 w v u x wr) (fun _ u x _ => (n1 - (intOf u).toNat) + (n2 - (intOf x).toNat))
  case atStart => exact ⟨0, 0, [], Nat.zero_le _, Nat.zero_le _, rfl, rfl, rfl, rfl, OwnL.nil _, Below.refl _ _⟩
  case round =>
    obtain ⟨i, j, acc, hi1, hj1, hacc, rfl, rfl, hs, ho, hb⟩ := hrel
    by_cases hj : j < n2
    · have g1 : decide ((j : Int) < (n2 : Int)) = true := by simp; omega
      have g2 : ((j : Int) == (n2 : Int)) = false := by simp; omega
      obtain ⟨ad2, b, rfl, hlb, hb2, hok2, d0⟩ := (h2.below KyRel.kept hb).ky hj
      have hlt2 := Nat.lt_of_lt_of_le hb2 hb.size
      have p3 : (0 : Int) ≤ (j : Int) := by omega
      have p4 : (j : Int) < (n2 : Int) := by omega
      by_cases hi : i < n1
      · have g3 : decide ((i : Int) < (n1 : Int)) = true := by simp; omega
        obtain ⟨ad1, a, rfl, hla, hb1, hok1, c0⟩ := (h1.below KyRel.kept hb).ky hi
        have hlt1 := Nat.lt_of_lt_of_le hb1 hb.size
        have p1 : (0 : Int) ≤ (i : Int) := by omega
        have p2 : (i : Int) < (n1 : Int) := by omega
        cases hbl : bl a b
        · have hbl' : Op.bytesLess a.toList b.toList = false := hbl
          have HS := Lib.hid (show (acc ++ [b]) ++ mergeL id (l1.drop (i)) (l2.drop (j + 1)) = mergeL id l1 l2 by rw [List.append_assoc, List.singleton_append, ← merge_step_r hlb (.inr ⟨a, hla, hbl⟩)]; exact hs)
          clear hs
          clear hla hlb
          go_wp2_with fail
          go_quiet (fail)
          have HB : Below wr.heap.size wr (wr.drewN nq) := ⟨rfl, rfl, rfl, Nat.le_refl _, fun _ _ => rfl⟩
          replace ho := ho.below HB
          replace hb := hb.trans (HB.mono hb.size)
          replace d0 := (HB.cell (p := (ad2.add (j))) (by exact hlt2)).trans d0
          clear HB
          generalize wr.drewN nq = wx at *
          have hX : Below wx.heap.size wx (wx.alloc (.cells (keyCells b).toArray 9)) := (Below.refl _ _).alloc (Nat.le_refl _) _
          have hzx := hb.size
          obtain ⟨A3, q3, rfl, hq3, hq3m⟩ := ho.form
          have hown0 := ho.below hX
          have hrd0 := reads_new' wx 9 (keyCells b) 1 rfl
          have hsz0 : (wx.alloc (.cells (keyCells b).toArray 9)).heap.size = wx.heap.size + 1 := by simp
          go_wp2_with (first
            | (at_builtin
               refine wpList_append_any _ rfl (.tmp 48) (.tmp 53) _ rfl w.heap.size 9 i0 _ 1 16 Tryz.underlying42 hi0 hz0 hz1 hz2 rfl (by omega) (.slice A3 acc.length q3) _ (acc.flatMap keyCells) (by rfl) hown0 _ (some ⟨wx.heap.size, 0, none⟩) 1 1 (keyCells b) (by rfl) hrd0 (ky_one b) (by unfold maxLen; omega) (by omega) (by simp; omega) ?_
               intro v3 w3 hown3 hg3 hat3))
          have hp := OwnL.push b hown3
          have hbw := (hb.trans (hX.mono hzx)).grown hg3 (by simp; omega) (fun q hq => (hown0.lt q hq).1)
          go_roundw
          case rel => exact ⟨i, j + 1, acc ++ [b], by omega, by omega, by rw [List.length_append, List.length_singleton]; omega, by go_num, by go_num, HS.out, hp, hbw⟩
          case measure => simp [intOf]; omega
        · have hbl' : Op.bytesLess a.toList b.toList = true := hbl
          have HS := Lib.hid (show (acc ++ [a]) ++ mergeL id (l1.drop (i + 1)) (l2.drop (j)) = mergeL id l1 l2 by rw [List.append_assoc, List.singleton_append, ← merge_step_l hla (.inr ⟨b, hlb, hbl⟩)]; exact hs)
          clear hs
          clear hla hlb
          go_wp2_with fail
          go_quiet (fail)
          have HB : Below wr.heap.size wr (wr.drewN nq) := ⟨rfl, rfl, rfl, Nat.le_refl _, fun _ _ => rfl⟩
          replace ho := ho.below HB
          replace hb := hb.trans (HB.mono hb.size)
          replace c0 := (HB.cell (p := (ad1.add (i))) (by exact hlt1)).trans c0
          clear HB
          generalize wr.drewN nq = wx at *
          have hX : Below wx.heap.size wx (wx.alloc (.cells (keyCells a).toArray 9)) := (Below.refl _ _).alloc (Nat.le_refl _) _
          have hzx := hb.size
          obtain ⟨A3, q3, rfl, hq3, hq3m⟩ := ho.form
          have hown0 := ho.below hX
          have hrd0 := reads_new' wx 9 (keyCells a) 1 rfl
          have hsz0 : (wx.alloc (.cells (keyCells a).toArray 9)).heap.size = wx.heap.size + 1 := by simp
          go_wp2_with (first
            | (at_builtin
               refine wpList_append_any _ rfl (.tmp 39) (.tmp 44) _ rfl w.heap.size 9 i0 _ 1 16 Tryz.underlying42 hi0 hz0 hz1 hz2 rfl (by omega) (.slice A3 acc.length q3) _ (acc.flatMap keyCells) (by rfl) hown0 _ (some ⟨wx.heap.size, 0, none⟩) 1 1 (keyCells a) (by rfl) hrd0 (ky_one a) (by unfold maxLen; omega) (by omega) (by simp; omega) ?_
               intro v3 w3 hown3 hg3 hat3))
          have hp := OwnL.push a hown3
          have hbw := (hb.trans (hX.mono hzx)).grown hg3 (by simp; omega) (fun q hq => (hown0.lt q hq).1)
          go_roundw
          case rel => exact ⟨i + 1, j, acc ++ [a], by omega, by omega, by rw [List.length_append, List.length_singleton]; omega, by go_num, by go_num, HS.out, hp, hbw⟩
          case measure => simp [intOf]; omega
      · have g3 : decide ((i : Int) < (n1 : Int)) = false := by simp; omega
        have HS := Lib.hid (show (acc ++ [b]) ++ mergeL id (l1.drop (i)) (l2.drop (j + 1)) = mergeL id l1 l2 by rw [List.append_assoc, List.singleton_append, ← merge_step_r hlb (.inl (by omega))]; exact hs)
        clear hs
        clear hlb
        go_wp2_with fail
        go_quiet (fail)
        have HB : Below wr.heap.size wr (wr.drewN nq) := ⟨rfl, rfl, rfl, Nat.le_refl _, fun _ _ => rfl⟩
        replace ho := ho.below HB
        replace hb := hb.trans (HB.mono hb.size)
        replace d0 := (HB.cell (p := (ad2.add (j))) (by exact hlt2)).trans d0
        clear HB
        generalize wr.drewN nq = wx at *
        have hX : Below wx.heap.size wx (wx.alloc (.cells (keyCells b).toArray 9)) := (Below.refl _ _).alloc (Nat.le_refl _) _
        have hzx := hb.size
        obtain ⟨A3, q3, rfl, hq3, hq3m⟩ := ho.form
        have hown0 := ho.below hX
        have hrd0 := reads_new' wx 9 (keyCells b) 1 rfl
        have hsz0 : (wx.alloc (.cells (keyCells b).toArray 9)).heap.size = wx.heap.size + 1 := by simp
        go_wp2_with (first
          | (at_builtin
             refine wpList_append_any _ rfl (.tmp 48) (.tmp 53) _ rfl w.heap.size 9 i0 _ 1 16 Tryz.underlying42 hi0 hz0 hz1 hz2 rfl (by omega) (.slice A3 acc.length q3) _ (acc.flatMap keyCells) (by rfl) hown0 _ (some ⟨wx.heap.size, 0, none⟩) 1 1 (keyCells b) (by rfl) hrd0 (ky_one b) (by unfold maxLen; omega) (by omega) (by simp; omega) ?_
             intro v3 w3 hown3 hg3 hat3))
        have hp := OwnL.push b hown3
        have hbw := (hb.trans (hX.mono hzx)).grown hg3 (by simp; omega) (fun q hq => (hown0.lt q hq).1)
        go_roundw
        case rel => exact ⟨i, j + 1, acc ++ [b], by omega, by omega, by rw [List.length_append, List.length_singleton]; omega, by go_num, by go_num, HS.out, hp, hbw⟩
        case measure => simp [intOf]; omega
    · have g1 : decide ((j : Int) < (n2 : Int)) = false := by simp; omega
      have g2 : ((j : Int) == (n2 : Int)) = true := by simp; omega
      by_cases hi : i < n1
      · have g3 : decide ((i : Int) < (n1 : Int)) = true := by simp; omega
        obtain ⟨ad1, a, rfl, hla, hb1, hok1, c0⟩ := (h1.below KyRel.kept hb).ky hi
        have hlt1 := Nat.lt_of_lt_of_le hb1 hb.size
        have p1 : (0 : Int) ≤ (i : Int) := by omega
        have p2 : (i : Int) < (n1 : Int) := by omega
        have HS := Lib.hid (show (acc ++ [a]) ++ mergeL id (l1.drop (i + 1)) (l2.drop (j)) = mergeL id l1 l2 by rw [List.append_assoc, List.singleton_append, ← merge_step_l hla (.inl (by omega))]; exact hs)
        clear hs
        clear hla
        go_wp2_with fail
        go_quiet (fail)
        have HB : Below wr.heap.size wr (wr.drewN nq) := ⟨rfl, rfl, rfl, Nat.le_refl _, fun _ _ => rfl⟩
        replace ho := ho.below HB
        replace hb := hb.trans (HB.mono hb.size)
        replace c0 := (HB.cell (p := (ad1.add (i))) (by exact hlt1)).trans c0
        clear HB
        generalize wr.drewN nq = wx at *
        have hX : Below wx.heap.size wx (wx.alloc (.cells (keyCells a).toArray 9)) := (Below.refl _ _).alloc (Nat.le_refl _) _
        have hzx := hb.size
        obtain ⟨A3, q3, rfl, hq3, hq3m⟩ := ho.form
        have hown0 := ho.below hX
        have hrd0 := reads_new' wx 9 (keyCells a) 1 rfl
        have hsz0 : (wx.alloc (.cells (keyCells a).toArray 9)).heap.size = wx.heap.size + 1 := by simp
        go_wp2_with (first
          | (at_builtin
             refine wpList_append_any _ rfl (.tmp 39) (.tmp 44) _ rfl w.heap.size 9 i0 _ 1 16 Tryz.underlying42 hi0 hz0 hz1 hz2 rfl (by omega) (.slice A3 acc.length q3) _ (acc.flatMap keyCells) (by rfl) hown0 _ (some ⟨wx.heap.size, 0, none⟩) 1 1 (keyCells a) (by rfl) hrd0 (ky_one a) (by unfold maxLen; omega) (by omega) (by simp; omega) ?_
             intro v3 w3 hown3 hg3 hat3))
        have hp := OwnL.push a hown3
        have hbw := (hb.trans (hX.mono hzx)).grown hg3 (by simp; omega) (fun q hq => (hown0.lt q hq).1)
        go_roundw
        case rel => exact ⟨i + 1, j, acc ++ [a], by omega, by omega, by rw [List.length_append, List.length_singleton]; omega, by go_num, by go_num, HS.out, hp, hbw⟩
        case measure => simp [intOf]; omega
      · have g3 : decide ((i : Int) < (n1 : Int)) = false := by simp; omega
        have HS := Lib.hid (show mergeL id l1 l2 = acc by rw [← hs, show l1.drop i = [] from List.drop_of_length_le (by omega), show l2.drop j = [] from List.drop_of_length_le (by omega), merge_nil, List.append_nil])
        clear hs
        go_wp2
        go_ret
        rw [HS.out]
        exact ⟨_, rfl, ho, hb⟩

set_option maxRecDepth 100000 in
set_option maxHeartbeats 4000000 in
theorem rmerge_h (A1 A2 : Option Addr) (n1 n2 c1 c2 : Nat) (l1 l2 : List Hh) (w : World) (h1 : Sl HhRel 2 w w.heap.size A1 n1 l1) (h2 : Sl HhRel 2 w w.heap.size A2 n2 l2) (hn1 : n1 ≤ 100000000) (hn2 : n2 ≤ 100000000) :
    Calls Tryz.prog 30 #[.slice A1 n1 c1, .slice A2 n2 c2] w fun e w' => ∃ v, e = .returned v ∧ OwnL Hh.cells 59 2 w.heap.size w' v (mergeL Hh.key l1 l2) ∧ Below w.heap.size w w' := by
  obtain ⟨i0, hi0, hz0, hz1, hz2⟩ := info_parts info_hG
  have e1 := h1.1
  have e2 := h2.1
  have f1 : n1 ≤ l1.length := by omega
  have f2 : l1.length ≤ n1 := by omega
  have f3 : n2 ≤ l2.length := by omega
  have f4 : l2.length ≤ n2 := by omega
  clear e1 e2
  go_enter Tryz.func30, Tryz.ntmps30
  go_wp2
  go_loopw [5, 6, 7] (fun v u x wr => MgR Hh.cells 59 2 Hh.key l1 l2 w v u x wr) (fun _ u x _ => (n1 - (intOf u).toNat) + (n2 - (intOf x).toNat))
  case atStart => exact ⟨0, 0, [], Nat.zero_le _, Nat.zero_le _, rfl, rfl, rfl, rfl, OwnL.nil _, Below.refl _ _⟩
  case round =>
    obtain ⟨i, j, acc, hi1, hj1, hacc, rfl, rfl, hs, ho, hb⟩ := hrel
    by_cases hj : j < n2
    · have g1 : decide ((j : Int) < (n2 : Int)) = true := by simp; omega
      have g2 : ((j : Int) == (n2 : Int)) = false := by simp; omega
      obtain ⟨ad2, b, rfl, hlb, hb2, hok2, d0, d1⟩ := (h2.below HhRel.kept hb).hh hj
      have hlt2 := Nat.lt_of_lt_of_le hb2 hb.size
      have p3 : (0 : Int) ≤ (j : Int) := by omega
      have p4 : (j : Int) < (n2 : Int) := by omega
      by_cases hi : i < n1
      · have g3 : decide ((i : Int) < (n1 : Int)) = true := by simp; omega
        obtain ⟨ad1, a, rfl, hla, hb1, hok1, c0, c1⟩ := (h1.below HhRel.kept hb).hh hi
        have hlt1 := Nat.lt_of_lt_of_le hb1 hb.size
        have p1 : (0 : Int) ≤ (i : Int) := by omega
        have p2 : (i : Int) < (n1 : Int) := by omega
        cases hbl : bl a.key b.key
        · have hbl' : Op.bytesLess a.key.toList b.key.toList = false := hbl
          have HS := Lib.hid (show (acc ++ [b]) ++ mergeL Hh.key (l1.drop (i)) (l2.drop (j + 1)) = mergeL Hh.key l1 l2 by rw [List.append_assoc, List.singleton_append, ← merge_step_r hlb (.inr ⟨a, hla, hbl⟩)]; exact hs)
          clear hs
          clear hla hlb
          go_wp2_with fail
          go_quiet (fail)
          have HB : Below wr.heap.size wr (wr.drewN nq) := ⟨rfl, rfl, rfl, Nat.le_refl _, fun _ _ => rfl⟩
          replace ho := ho.below HB
          replace hb := hb.trans (HB.mono hb.size)
          replace d0 := (HB.cell (p := (ad2.add (j * 2))) (by exact hlt2)).trans d0
          replace d1 := (HB.cell (p := ⟨(ad2.add (j * 2)).block, (ad2.add (j * 2)).off + 1, none⟩) (by exact hlt2)).trans d1
          clear HB
          generalize wr.drewN nq = wx at *
          have hX : Below wx.heap.size wx (wx.alloc (.cells (Hh.cells b).toArray 59)) := (Below.refl _ _).alloc (Nat.le_refl _) _
          have hzx := hb.size
          obtain ⟨A3, q3, rfl, hq3, hq3m⟩ := ho.form
          have hown0 := ho.below hX
          have hrd0 := reads_new' wx 59 (Hh.cells b) 2 rfl
          have hsz0 : (wx.alloc (.cells (Hh.cells b).toArray 59)).heap.size = wx.heap.size + 1 := by simp
          go_wp2_with (first
            | (at_builtin
               refine wpList_append_any _ rfl (.tmp 50) (.tmp 55) _ rfl w.heap.size 59 i0 _ 2 40 Tryz.underlying27 hi0 hz0 hz1 hz2 rfl (by omega) (.slice A3 acc.length q3) _ (acc.flatMap Hh.cells) (by rfl) hown0 _ (some ⟨wx.heap.size, 0, none⟩) 1 1 (Hh.cells b) (by rfl) hrd0 (hh_one b) (by unfold maxLen; omega) (by omega) (by simp; omega) ?_
               intro v3 w3 hown3 hg3 hat3))
          have hp := OwnL.push b hown3
          have hbw := (hb.trans (hX.mono hzx)).grown hg3 (by simp; omega) (fun q hq => (hown0.lt q hq).1)
          go_roundw
          case rel => exact ⟨i, j + 1, acc ++ [b], by omega, by omega, by rw [List.length_append, List.length_singleton]; omega, by go_num, by go_num, HS.out, hp, hbw⟩
          case measure => simp [intOf]; omega
        · have hbl' : Op.bytesLess a.key.toList b.key.toList = true := hbl
          have HS := Lib.hid (show (acc ++ [a]) ++ mergeL Hh.key (l1.drop (i + 1)) (l2.drop (j)) = mergeL Hh.key l1 l2 by rw [List.append_assoc, List.singleton_append, ← merge_step_l hla (.inr ⟨b, hlb, hbl⟩)]; exact hs)
          clear hs
          clear hla hlb
          go_wp2_with fail
          go_quiet (fail)
          have HB : Below wr.heap.size wr (wr.drewN nq) := ⟨rfl, rfl, rfl, Nat.le_refl _, fun _ _ => rfl⟩
          replace ho := ho.below HB
          replace hb := hb.trans (HB.mono hb.size)
          replace c0 := (HB.cell (p := (ad1.add (i * 2))) (by exact hlt1)).trans c0
          replace c1 := (HB.cell (p := ⟨(ad1.add (i * 2)).block, (ad1.add (i * 2)).off + 1, none⟩) (by exact hlt1)).trans c1
          clear HB
          generalize wr.drewN nq = wx at *
          have hX : Below wx.heap.size wx (wx.alloc (.cells (Hh.cells a).toArray 59)) := (Below.refl _ _).alloc (Nat.le_refl _) _
          have hzx := hb.size
          obtain ⟨A3, q3, rfl, hq3, hq3m⟩ := ho.form
          have hown0 := ho.below hX
          have hrd0 := reads_new' wx 59 (Hh.cells a) 2 rfl
          have hsz0 : (wx.alloc (.cells (Hh.cells a).toArray 59)).heap.size = wx.heap.size + 1 := by simp
          go_wp2_with (first
            | (at_builtin
               refine wpList_append_any _ rfl (.tmp 41) (.tmp 46) _ rfl w.heap.size 59 i0 _ 2 40 Tryz.underlying27 hi0 hz0 hz1 hz2 rfl (by omega) (.slice A3 acc.length q3) _ (acc.flatMap Hh.cells) (by rfl) hown0 _ (some ⟨wx.heap.size, 0, none⟩) 1 1 (Hh.cells a) (by rfl) hrd0 (hh_one a) (by unfold maxLen; omega) (by omega) (by simp; omega) ?_
               intro v3 w3 hown3 hg3 hat3))
          have hp := OwnL.push a hown3
          have hbw := (hb.trans (hX.mono hzx)).grown hg3 (by simp; omega) (fun q hq => (hown0.lt q hq).1)
          go_roundw
          case rel => exact ⟨i + 1, j, acc ++ [a], by omega, by omega, by rw [List.length_append, List.length_singleton]; omega, by go_num, by go_num, HS.out, hp, hbw⟩
          case measure => simp [intOf]; omega
      · have g3 : decide ((i : Int) < (n1 : Int)) = false := by simp; omega
        have HS := Lib.hid (show (acc ++ [b]) ++ mergeL Hh.key (l1.drop (i)) (l2.drop (j + 1)) = mergeL Hh.key l1 l2 by rw [List.append_assoc, List.singleton_append, ← merge_step_r hlb (.inl (by omega))]; exact hs)
        clear hs
        clear hlb
        go_wp2_with fail
        go_quiet (fail)
        have HB : Below wr.heap.size wr (wr.drewN nq) := ⟨rfl, rfl, rfl, Nat.le_refl _, fun _ _ => rfl⟩
        replace ho := ho.below HB
        replace hb := hb.trans (HB.mono hb.size)
        replace d0 := (HB.cell (p := (ad2.add (j * 2))) (by exact hlt2)).trans d0
        replace d1 := (HB.cell (p := ⟨(ad2.add (j * 2)).block, (ad2.add (j * 2)).off + 1, none⟩) (by exact hlt2)).trans d1
        clear HB
        generalize wr.drewN nq = wx at *
        have hX : Below wx.heap.size wx (wx.alloc (.cells (Hh.cells b).toArray 59)) := (Below.refl _ _).alloc (Nat.le_refl _) _
        have hzx := hb.size
        obtain ⟨A3, q3, rfl, hq3, hq3m⟩ := ho.form
        have hown0 := ho.below hX
        have hrd0 := reads_new' wx 59 (Hh.cells b) 2 rfl
        have hsz0 : (wx.alloc (.cells (Hh.cells b).toArray 59)).heap.size = wx.heap.size + 1 := by simp
        go_wp2_with (first
          | (at_builtin
             refine wpList_append_any _ rfl (.tmp 50) (.tmp 55) _ rfl w.heap.size 59 i0 _ 2 40 Tryz.underlying27 hi0 hz0 hz1 hz2 rfl (by omega) (.slice A3 acc.length q3) _ (acc.flatMap Hh.cells) (by rfl) hown0 _ (some ⟨wx.heap.size, 0, none⟩) 1 1 (Hh.cells b) (by rfl) hrd0 (hh_one b) (by unfold maxLen; omega) (by omega) (by simp; omega) ?_
             intro v3 w3 hown3 hg3 hat3))
        have hp := OwnL.push b hown3
        have hbw := (hb.trans (hX.mono hzx)).grown hg3 (by simp; omega) (fun q hq => (hown0.lt q hq).1)
        go_roundw
        case rel => exact ⟨i, j + 1, acc ++ [b], by omega, by omega, by rw [List.length_append, List.length_singleton]; omega, by go_num, by go_num, HS.out, hp, hbw⟩
        case measure => simp [intOf]; omega
    · have g1 : decide ((j : Int) < (n2 : Int)) = false := by simp; omega
      have g2 : ((j : Int) == (n2 : Int)) = true := by simp; omega
      by_cases hi : i < n1
      · have g3 : decide ((i : Int) < (n1 : Int)) = true := by simp; omega
        obtain ⟨ad1, a, rfl, hla, hb1, hok1, c0, c1⟩ := (h1.below HhRel.kept hb).hh hi
        have hlt1 := Nat.lt_of_lt_of_le hb1 hb.size
        have p1 : (0 : Int) ≤ (i : Int) := by omega
        have p2 : (i : Int) < (n1 : Int) := by omega
        have HS := Lib.hid (show (acc ++ [a]) ++ mergeL Hh.key (l1.drop (i + 1)) (l2.drop (j)) = mergeL Hh.key l1 l2 by rw [List.append_assoc, List.singleton_append, ← merge_step_l hla (.inl (by omega))]; exact hs)
        clear hs
        clear hla
        go_wp2_with fail
        go_quiet (fail)
        have HB : Below wr.heap.size wr (wr.drewN nq) := ⟨rfl, rfl, rfl, Nat.le_refl _, fun _ _ => rfl⟩
        replace ho := ho.below HB
        replace hb := hb.trans (HB.mono hb.size)
        replace c0 := (HB.cell (p := (ad1.add (i * 2))) (by exact hlt1)).trans c0
        replace c1 := (HB.cell (p := ⟨(ad1.add (i * 2)).block, (ad1.add (i * 2)).off + 1, none⟩) (by exact hlt1)).trans c1
        clear HB
        generalize wr.drewN nq = wx at *
        have hX : Below wx.heap.size wx (wx.alloc (.cells (Hh.cells a).toArray 59)) := (Below.refl _ _).alloc (Nat.le_refl _) _
        have hzx := hb.size
        obtain ⟨A3, q3, rfl, hq3, hq3m⟩ := ho.form
        have hown0 := ho.below hX
        have hrd0 := reads_new' wx 59 (Hh.cells a) 2 rfl
        have hsz0 : (wx.alloc (.cells (Hh.cells a).toArray 59)).heap.size = wx.heap.size + 1 := by simp
        go_wp2_with (first
          | (at_builtin
             refine wpList_append_any _ rfl (.tmp 41) (.tmp 46) _ rfl w.heap.size 59 i0 _ 2 40 Tryz.underlying27 hi0 hz0 hz1 hz2 rfl (by omega) (.slice A3 acc.length q3) _ (acc.flatMap Hh.cells) (by rfl) hown0 _ (some ⟨wx.heap.size, 0, none⟩) 1 1 (Hh.cells a) (by rfl) hrd0 (hh_one a) (by unfold maxLen; omega) (by omega) (by simp; omega) ?_
             intro v3 w3 hown3 hg3 hat3))
        have hp := OwnL.push a hown3
        have hbw := (hb.trans (hX.mono hzx)).grown hg3 (by simp; omega) (fun q hq => (hown0.lt q hq).1)
        go_roundw
        case rel => exact ⟨i + 1, j, acc ++ [a], by omega, by omega, by rw [List.length_append, List.length_singleton]; omega, by go_num, by go_num, HS.out, hp, hbw⟩
        case measure => simp [intOf]; omega
      · have g3 : decide ((i : Int) < (n1 : Int)) = false := by simp; omega
        have HS := Lib.hid (show mergeL Hh.key l1 l2 = acc by rw [← hs, show l1.drop i = [] from List.drop_of_length_le (by omega), show l2.drop j = [] from List.drop_of_length_le (by omega), merge_nil, List.append_nil])
        clear hs
        go_wp2
        go_ret
        rw [HS.out]
        exact ⟨_, rfl, ho, hb⟩

end Go.Proofs.YtipacjbegfingaaGreat
