/- The walks of the document's below and Halve; what lists weigh. -/
import Derived.Test.YtipacjbegfingaaHv
namespace Go.Proofs.Ytipacjbegfingaa
open Go.RowKit Fl
attribute [local go_sem] run_store_float

set_option maxHeartbeats 400000 in
theorem rbelow_any (s : ByteArray) (p : Nat) (w : World) (hs : s.size ≤ maxLen) :
    Calls Try.prog 38 #[.string s, .float .f64 p] w fun e w' => e = .returned (.bool (belowB s p)) ∧ w = w' := by
  go_enter Try.func38, Try.ntmps38
  go_wp2_with ((with_reducible refine (rof_any _ _ hs).mono ?_); rintro e w' ⟨rfl, rfl⟩)
  go_ret
  exact ⟨rfl, rfl⟩

set_option maxRecDepth 100000 in
set_option maxHeartbeats 8000000 in
theorem rhalve_any (A : Option Addr) (n c : Nat) (l : List Wt) (p : Nat) (w : World) (h : Sl WtRel 4 w w.heap.size A n l) (hn : n ≤ 1000000) :
    Calls Try.prog 24 #[.slice A n c, .float .f64 p] w (HalvePost w (halveL l p) (halveR l p)) := by
  obtain ⟨i0, hi0, hz0, hz1, hz2⟩ := info_parts wt_info
  have hl := h.1
  have hle : l.length ≤ n := by omega
  have hge : n ≤ l.length := by omega
  clear hl
  go_enter Try.func24, Try.ntmps24
  go_wp2
  go_loopw [6, 7, 8] (fun v1 v2 i wr => HalveRel w l p v1 v2 i wr) (fun _ _ i _ => n - (intOf i).toNat)
  case atStart => exact ⟨0, by omega, rfl, OwnL.nil _, OwnL.nil _, Dis.nil _, Below.refl _ _⟩
  case round =>
    obtain ⟨k, hk, rfl, ho1, ho2, hdis, hb⟩ := hrel
    have hzz := hb.size
    have hf1 : (halveL (l.take k) p).length ≤ 1000000 := by
      have h1 := List.length_filter_le (fun a : Wt => belowB a.key p) (l.take k)
      have h2 := List.length_take_le k l
      unfold halveL; omega
    have hf2 : (halveR (l.take k) p).length ≤ 1000000 := by
      have h1 := List.length_filter_le (fun a : Wt => !belowB a.key p) (l.take k)
      have h2 := List.length_take_le k l
      unfold halveR; omega
    by_cases hlt : k < n
    · obtain ⟨ad, a, rfl, ha, hbk, hok, c0, c1, c2, c3⟩ := (h.below WtRel.kept hb).wt hlt
      have hd1 : decide ((k : Int) < (n : Int)) = true := by simp; omega
      have hsn := halve_snoc p ha
      have hbl := rbelow_any a.key p wr (reach_max hok.1)
      clear ha
      obtain ⟨A1, q1, rfl, hq1, hq1m⟩ := ho1.form
      obtain ⟨A2, q2, rfl, hq2, hq2m⟩ := ho2.form
      generalize halveL (l.take k) p = a1 at *
      generalize halveR (l.take k) p = a2 at *
      cases hbel : belowB a.key p
      · have HS := Lib.hid (hsn.2 hbel)
        rw [hbel] at hbl
        clear hsn hbel
        have hX := (Below.refl wr.heap.size wr).alloc (Nat.le_refl _) (.cells a.cells.toArray 96)
        have hown0 := ho2.below hX
        have hrd0 := reads_new' wr 96 a.cells 4 rfl
        have hsz0 : (wr.alloc (.cells a.cells.toArray 96)).heap.size = wr.heap.size + 1 := by simp
        go_wp2_with (first
          | ((with_reducible refine hbl.mono ?_); rintro e w1 ⟨rfl, rfl⟩)
          | (at_builtin
             refine wpList_append_any _ rfl (.tmp 29) (.tmp 34) _ rfl w.heap.size 96 i0 _ 4 48 Try.underlying45 hi0 hz0 hz1 hz2 rfl (by omega) (.slice A2 a2.length q2) _ (a2.flatMap Wt.cells) (by rfl) hown0 _ (some ⟨wr.heap.size, 0, none⟩) 1 1 a.cells (by rfl)
               hrd0 (wt_one a) (by unfold maxLen; omega) (by omega) (by simp; omega) ?_
             intro v3 w3 hown3 hg3 hat3
             obtain ⟨A3, q3, rfl, hq3, hq3m⟩ := own_form hown3))
        have hp := OwnL.push a hown3
        have hbw := (hb.trans (hX.mono hzz)).grown hg3 (by simp; omega) (fun q hq => (hown0.lt q hq).1)
        have ho1' := (ho1.below hX).beside hg3 hdis.symm
        have hdis' := hdis.symm.push (ho1.below hX) hat3
        go_roundw
        case rel =>
          refine ⟨k + 1, by omega, by go_num, ?_⟩
          rw [HS.out.1, HS.out.2]
          exact ⟨ho1', hp, hdis'.symm, hbw⟩
        case measure => simp [intOf]; omega
      · have HS := Lib.hid (hsn.1 hbel)
        rw [hbel] at hbl
        clear hsn hbel
        have hX := (Below.refl wr.heap.size wr).alloc (Nat.le_refl _) (.cells a.cells.toArray 96)
        have hown0 := ho1.below hX
        have hrd0 := reads_new' wr 96 a.cells 4 rfl
        have hsz0 : (wr.alloc (.cells a.cells.toArray 96)).heap.size = wr.heap.size + 1 := by simp
        go_wp2_with (first
          | ((with_reducible refine hbl.mono ?_); rintro e w1 ⟨rfl, rfl⟩)
          | (at_builtin
             refine wpList_append_any _ rfl (.tmp 22) (.tmp 27) _ rfl w.heap.size 96 i0 _ 4 48 Try.underlying45 hi0 hz0 hz1 hz2 rfl (by omega) (.slice A1 a1.length q1) _ (a1.flatMap Wt.cells) (by rfl) hown0 _ (some ⟨wr.heap.size, 0, none⟩) 1 1 a.cells (by rfl)
               hrd0 (wt_one a) (by unfold maxLen; omega) (by omega) (by simp; omega) ?_
             intro v3 w3 hown3 hg3 hat3
             obtain ⟨A3, q3, rfl, hq3, hq3m⟩ := own_form hown3))
        have hp := OwnL.push a hown3
        have hbw := (hb.trans (hX.mono hzz)).grown hg3 (by simp; omega) (fun q hq => (hown0.lt q hq).1)
        have ho2' := (ho2.below hX).beside hg3 hdis
        have hdis' := hdis.push (ho2.below hX) hat3
        go_roundw
        case rel =>
          refine ⟨k + 1, by omega, by go_num, ?_⟩
          rw [HS.out.1, HS.out.2]
          exact ⟨hp, ho2', hdis', hbw⟩
        case measure => simp [intOf]; omega
    · have hd1 : decide ((k : Int) < (n : Int)) = false := by simp; omega
      have he : l.take k = l := List.take_of_length_le (by omega)
      rw [he] at ho1 ho2
      obtain ⟨A1, q1, rfl, hq1, hq1m⟩ := ho1.form
      obtain ⟨A2, q2, rfl, hq2, hq2m⟩ := ho2.form
      clear he
      generalize halveL l p = a1 at *
      generalize halveR l p = a2 at *
      go_wp2
      go_ret2
      exact ⟨_, _, rfl, ho1, ho2, hdis, hb⟩

/-- a count up to a bound -/
def fewI (n more most : Int) : Int := if most < more ∨ most < n then most + 1 else n + more
set_option maxHeartbeats 400000 in
theorem wfew (n more most : Int) (w : World) (h0 : 0 ≤ n) (h1 : 0 ≤ more) (h2 : n ≤ 1000000000000) (h3 : more ≤ 9223372036854775807) (h4 : 0 ≤ most) (h5 : most ≤ 1000000000000) :
    Calls Try.prog 55 #[.int .i64 n, .int .i64 more, .int .i64 most] w fun e w' => e = .returned (.int .i64 (fewI n more most)) ∧ w = w' := by
  by_cases ha : most < more
  · have hr : fewI n more most = most + 1 := by unfold fewI; rw [if_pos (.inl ha)]
    have hb1 : decide (most < more) = true := by simp [ha]
    rw [hr]
    clear hr
    go_enter Try.func55, Try.ntmps55
    go_wp2
    go_ret
    exact ⟨rfl, rfl⟩
  · have hb1 : decide (most < more) = false := by simp; omega
    by_cases hb : most < n
    · have hr : fewI n more most = most + 1 := by unfold fewI; rw [if_pos (.inr hb)]
      have hb2 : decide (most < n) = true := by simp [hb]
      rw [hr]
      clear hr
      go_enter Try.func55, Try.ntmps55
      go_wp2
      go_ret
      exact ⟨rfl, rfl⟩
    · have hr : fewI n more most = n + more := by unfold fewI; rw [if_neg (by omega)]
      have hb2 : decide (most < n) = false := by simp; omega
      rw [hr]
      clear hr
      go_enter Try.func55, Try.ntmps55
      go_wp2
      go_ret
      exact ⟨rfl, rfl⟩
end Go.Proofs.Ytipacjbegfingaa
