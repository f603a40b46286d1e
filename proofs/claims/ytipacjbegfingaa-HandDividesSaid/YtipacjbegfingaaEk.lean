/- The walks of raceref15.Texts, raceref10.TxnLess, raceref11.in. -/
import Derived.Test.YtipacjbegfingaaDk
import Derived.Test.YtipacjbegfingaaHr
namespace Go.Proofs.Ytipacjbegfingaa
set_option linter.unusedVariables false
open Go.RowKit Fl
attribute [local go_sem] run_store_float

def KHalves (w : World) (a b : List ByteArray) (v1 v2 : Value) (w' : World) : Prop :=
  OwnL keyCells 9 1 w.heap.size w' v1 a ∧ OwnL keyCells 9 1 w.heap.size w' v2 b ∧ Dis v1 v2 ∧ Below w.heap.size w w'
def KHalvePost (w : World) (a b : List ByteArray) : Ending → World → Prop := fun e w' => ∃ v1 v2, e = .returned (.tuple #[v1, v2]) ∧ KHalves w a b v1 v2 w'
def KHalveRel (w : World) (l : List ByteArray) (p : Nat) (v1 v2 i : Value) (wr : World) : Prop := ∃ k : Nat, k ≤ l.length ∧ i = .int .i64 (k : Int) ∧ KHalves w (keysL (l.take k) p) (keysR (l.take k) p) v1 v2 wr

set_option maxRecDepth 100000 in
set_option maxHeartbeats 8000000 in
theorem rtexts_any (A : Option Addr) (n c : Nat) (l : List ByteArray) (p : Nat) (w : World) (h : Sl KyRel 1 w w.heap.size A n l) (hn : n ≤ 1000000) :
    Calls Try.prog 39 #[.slice A n c, .float .f64 p] w (KHalvePost w (keysL l p) (keysR l p)) := by
  obtain ⟨i0, hi0, hz0, hz1, hz2⟩ := info_parts ky_info
  have hl := h.1
  have hle : l.length ≤ n := by omega
  have hge : n ≤ l.length := by omega
  clear hl
  go_enter Try.func39, Try.ntmps39
  go_wp2
  go_loopw [6, 7, 8] (fun v1 v2 i wr => KHalveRel w l p v1 v2 i wr) (fun _ _ i _ => n - (intOf i).toNat)
  case atStart => exact ⟨0, by omega, rfl, OwnL.nil _, OwnL.nil _, Dis.nil _, Below.refl _ _⟩
  case round =>
    obtain ⟨k, hk, rfl, ho1, ho2, hdis, hb⟩ := hrel
    have hzz := hb.size
    have hf1 : (keysL (l.take k) p).length ≤ 1000000 := by
      have h1 := List.length_filter_le (fun a : ByteArray => belowB a p) (l.take k)
      have h2 := List.length_take_le k l
      unfold keysL; omega
    have hf2 : (keysR (l.take k) p).length ≤ 1000000 := by
      have h1 := List.length_filter_le (fun a : ByteArray => !belowB a p) (l.take k)
      have h2 := List.length_take_le k l
      unfold keysR; omega
    by_cases hlt : k < n
    · obtain ⟨ad, a, rfl, ha, hbk, hok, c0⟩ := (h.below KyRel.kept hb).ky hlt
      have hd1 : decide ((k : Int) < (n : Int)) = true := by simp; omega
      have hsn := keys_snoc p ha
      have hbl := rbelow_any a p wr (reach_max hok)
      clear ha
      obtain ⟨A1, q1, rfl, hq1, hq1m⟩ := ho1.form
      obtain ⟨A2, q2, rfl, hq2, hq2m⟩ := ho2.form
      generalize keysL (l.take k) p = a1 at *
      generalize keysR (l.take k) p = a2 at *
      cases hbel : belowB a p
      · have HS := Lib.hid (hsn.2 hbel)
        rw [hbel] at hbl
        clear hsn hbel
        have hX := (Below.refl wr.heap.size wr).alloc (Nat.le_refl _) (.cells (keyCells a).toArray 9)
        have hown0 := ho2.below hX
        have hrd0 := reads_new' wr 9 (keyCells a) 1 rfl
        have hsz0 : (wr.alloc (.cells (keyCells a).toArray 9)).heap.size = wr.heap.size + 1 := by simp
        go_wp2_with (first
          | ((with_reducible refine hbl.mono ?_); rintro e w1 ⟨rfl, rfl⟩)
          | (at_builtin
             refine wpList_append_any _ rfl (.tmp 28) (.tmp 33) _ rfl w.heap.size 9 i0 _ 1 16 Try.underlying44 hi0 hz0 hz1 hz2 rfl (by omega) (.slice A2 a2.length q2) _ (a2.flatMap keyCells) (by rfl) hown0 _ (some ⟨wr.heap.size, 0, none⟩) 1 1 (keyCells a) (by rfl)
               hrd0 (ky_one a) (by unfold maxLen; omega) (by omega) (by simp; omega) ?_
             intro v3 w3 hown3 hg3 hat3
             obtain ⟨A3, q3, rfl, hq3, hq3m⟩ := own_form hown3))
        have hp := OwnL.push a hown3
        have hbw := (hb.trans (hX.mono hzz)).grown hg3 (by simp; omega) (fun q hq => (hown0.lt q hq).1)
        have ho1' := (ho1.below hX).beside hg3 hdis.symm
        have hdis' := hdis.symm.push (ho1.below hX) hat3
        go_roundw
        case rel =>
          refine ⟨k + 1, by omega, by go_num, ?_⟩
          rw [HS.out.1, HS.out.2]
          exact ⟨ho1', hp, hdis'.symm, hbw⟩
        case measure => simp [intOf]; omega
      · have HS := Lib.hid (hsn.1 hbel)
        rw [hbel] at hbl
        clear hsn hbel
        have hX := (Below.refl wr.heap.size wr).alloc (Nat.le_refl _) (.cells (keyCells a).toArray 9)
        have hown0 := ho1.below hX
        have hrd0 := reads_new' wr 9 (keyCells a) 1 rfl
        have hsz0 : (wr.alloc (.cells (keyCells a).toArray 9)).heap.size = wr.heap.size + 1 := by simp
        go_wp2_with (first
          | ((with_reducible refine hbl.mono ?_); rintro e w1 ⟨rfl, rfl⟩)
          | (at_builtin
             refine wpList_append_any _ rfl (.tmp 21) (.tmp 26) _ rfl w.heap.size 9 i0 _ 1 16 Try.underlying44 hi0 hz0 hz1 hz2 rfl (by omega) (.slice A1 a1.length q1) _ (a1.flatMap keyCells) (by rfl) hown0 _ (some ⟨wr.heap.size, 0, none⟩) 1 1 (keyCells a) (by rfl)
               hrd0 (ky_one a) (by unfold maxLen; omega) (by omega) (by simp; omega) ?_
             intro v3 w3 hown3 hg3 hat3
             obtain ⟨A3, q3, rfl, hq3, hq3m⟩ := own_form hown3))
        have hp := OwnL.push a hown3
        have hbw := (hb.trans (hX.mono hzz)).grown hg3 (by simp; omega) (fun q hq => (hown0.lt q hq).1)
        have ho2' := (ho2.below hX).beside hg3 hdis
        have hdis' := hdis.push (ho2.below hX) hat3
        go_roundw
        case rel =>
          refine ⟨k + 1, by omega, by go_num, ?_⟩
          rw [HS.out.1, HS.out.2]
          exact ⟨hp, ho2', hdis', hbw⟩
        case measure => simp [intOf]; omega
    · have hd1 : decide ((k : Int) < (n : Int)) = false := by simp; omega
      have he : l.take k = l := List.take_of_length_le (by omega)
      rw [he] at ho1 ho2
      obtain ⟨A1, q1, rfl, hq1, hq1m⟩ := ho1.form
      obtain ⟨A2, q2, rfl, hq2, hq2m⟩ := ho2.form
      clear he
      generalize keysL l p = a1 at *
      generalize keysR l p = a2 at *
      go_wp2
      go_ret2
      exact ⟨_, _, rfl, ho1, ho2, hdis, hb⟩


/-- does a transaction stand ahead of another one? -/
def Tx.less (a b : Tx) : Bool := if a.c ≠ b.c then decide (a.c < b.c) else if a.l ≠ b.l then decide (a.l < b.l) else decide (a.s < b.s)
set_option maxHeartbeats 1000000 in
theorem rtxnLess_any (a b : Tx) (w : World) : Calls Try.prog 78 #[a.val, b.val] w fun e w' => e = .returned (.bool (a.less b)) ∧ Below w.heap.size w w' := by
  by_cases h1 : a.c = b.c
  · by_cases h2 : a.l = b.l
    · have hr : a.less b = decide (a.s < b.s) := by unfold Tx.less; simp [h1, h2]
      have hq1 : (a.c != b.c) = false := by simp [h1]
      have hq2 : (a.l != b.l) = false := by simp [h2]
      rw [hr]
      clear hr h1 h2
      go_enter Try.func78, Try.ntmps78
      go_wp2
      go_ret
      exact ⟨rfl, by go_grown⟩
    · have hr : a.less b = decide (a.l < b.l) := by unfold Tx.less; simp [h1, h2]
      have hq1 : (a.c != b.c) = false := by simp [h1]
      have hq2 : (a.l != b.l) = true := by simp [h2]
      rw [hr]
      clear hr h1 h2
      go_enter Try.func78, Try.ntmps78
      go_wp2
      go_ret
      exact ⟨rfl, by go_grown⟩
  · have hr : a.less b = decide (a.c < b.c) := by unfold Tx.less; simp [h1]
    have hq1 : (a.c != b.c) = true := by simp [h1]
    rw [hr]
    clear hr h1
    go_enter Try.func78, Try.ntmps78
    go_wp2
    go_ret
    exact ⟨rfl, by go_grown⟩
set_option maxRecDepth 100000 in
set_option maxHeartbeats 1000000 in
theorem rinK_any (r : Rg) (k : ByteArray) (w : World) (hk : k.size ≤ maxLen) :
    Calls Try.prog 66 #[r.val, .string k] w fun e w' => e = .returned (.bool (inK r k)) ∧ Below w.heap.size w w' := by
  have ho := fun w => rof_any k w hk
  have hi := fun w => rin_any r (ofB k) w
  obtain ⟨l2, c0, c1, c2, c3, -⟩ := (Blk.new w 24 #[.int .i64 r.id, .int .i64 r.ep, .float .f64 r.lo, .float .f64 r.hi]).four
  have hX : Below w.heap.size w (w.alloc (.cells #[.int .i64 r.id, .int .i64 r.ep, .float .f64 r.lo, .float .f64 r.hi] 24)) := by go_grown
  go_enter Try.func66, Try.ntmps66
  go_wp2
  generalize (w.alloc (.cells #[.int .i64 r.id, .int .i64 r.ep, .float .f64 r.lo, .float .f64 r.hi] 24)) = w0 at *
  go_region_held3 (fun w' => w'.cell? ⟨w.heap.size, 0, none⟩ = some (.int .i64 r.id) ∧ w'.cell? ⟨w.heap.size, 1, none⟩ = some (.int .i64 r.ep) ∧ w'.cell? ⟨w.heap.size, 2, none⟩ = some (.float .f64 r.lo) ∧ w'.cell? ⟨w.heap.size, 3, none⟩ = some (.float .f64 r.hi))
    (first | exact ⟨c0, c1, c2, c3⟩ | exact ⟨(hb1.cell (p := ⟨_, _, none⟩) l2).trans c0, (hb1.cell (p := ⟨_, _, none⟩) l2).trans c1, (hb1.cell (p := ⟨_, _, none⟩) l2).trans c2, (hb1.cell (p := ⟨_, _, none⟩) l2).trans c3⟩)
    (first | ((with_reducible refine (ho _).mono ?_); rintro e w1 ⟨rfl, rfl⟩) | ((with_reducible refine (hi _).mono ?_); rintro e w1 ⟨rfl, hw1⟩; have hb1 : Below w0.heap.size w0 w1 := by rw [← hw1]; exact (Below.refl _ _).drew.alloc (Nat.le_refl _) _))
  go_wp2
  go_ret
  exact ⟨rfl, hX.trans (hb1.mono hX.size)⟩
end Go.Proofs.Ytipacjbegfingaa
