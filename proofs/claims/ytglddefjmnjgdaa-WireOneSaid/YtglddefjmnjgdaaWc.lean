/- The walk of writes: items by the document. -/
import Derived.Test.YtglddefjmnjgdaaWb
namespace Go.Proofs.Ytglddefjmnjgdaa
open Go.RowKit Fl

theorem RowRel.below {w wr w2 : World} {bs : List UInt8} {v : Value} (h : RowRel w bs v wr) (hb : Below wr.heap.size wr w2) : RowRel w bs v w2 :=
  ⟨h.1.kept (row := none) ⟨hb.os, hb.tape, hb.output, hb.size, fun k hk _ => hb.block k hk⟩ (by cases v.ownBlock <;> simp), h.2.trans (hb.mono h.2.size)⟩

def WritesRel (w : World) (l : List It) (out i : Value) (wr : World) : Prop := ∃ k : Nat, k ≤ l.length ∧ i = .int .i64 (k : Int) ∧ RowRel w (encL (l.take k)) out wr

set_option maxRecDepth 100000 in
set_option maxHeartbeats 4000000 in
theorem writes_any (A : Option Addr) (n c : Nat) (l : List It) (w : World) (h : Sl ItRel 5 w w.heap.size A n l) (hn : n ≤ maxLen) (hf : fewB l = true) :
    Calls Try.prog 15 #[.slice A n c] w (RowPost w (encL l)) := by
  unfold maxLen at hn
  obtain ⟨i0, hi0, hz0, hz1, hz2⟩ := info_parts u8_info
  have hlen : l.length = n := h.1
  have hle : l.length ≤ n := by omega
  have hge : n ≤ l.length := by omega
  have hokl := h.all_ok
  have HF := Lib.hid hf
  clear hlen hf
  go_enter Try.func15, Try.ntmps15
  go_wp2
  go_loopw [3, 4] (fun out i wr => WritesRel w l out i wr) (fun _ i _ => n - (intOf i).toNat)
  case atStart => exact ⟨0, by omega, rfl, RowRel.start w⟩
  case round =>
    obtain ⟨k, hk, rfl, hrow⟩ := hrel
    obtain ⟨A1, c1, rfl, hA1, hA2⟩ := own_form hrow.1
    have hzz := hrow.2.size
    have htl := encL_take hokl HF.out k
    by_cases hlt : k < n
    · obtain ⟨ad, a, rfl, hl, hbk, hok, c0, c1', c2, c3, c4⟩ := (h.below ItRel.kept hrow.2).it hlt
      have HT := Lib.hid (encL_snoc hl)
      have hsm : a.s.size ≤ 20000 := by
        have h1 := (fewB_true HF.out).2
        have h2 := sum_mem_le (List.mem_of_getElem? hl)
        omega
      have hb1 : decide ((k : Int) < (n : Int)) = true := by simp; omega
      clear hl
      generalize encL (l.take k) = pre at *
      obtain ⟨hk0, hn0, hx0, hs0⟩ := hok
      obtain ⟨hn1, hn2⟩ := hn0
      have hcase : a.k = 0 ∨ (a.k ≠ 0 ∧ a.k = 1) ∨ (a.k ≠ 0 ∧ a.k ≠ 1 ∧ a.k = 2) ∨ (a.k ≠ 0 ∧ a.k ≠ 1 ∧ a.k ≠ 2 ∧ a.k = 3) ∨ (a.k ≠ 0 ∧ a.k ≠ 1 ∧ a.k ≠ 2 ∧ a.k ≠ 3) := by omega
      rcases hcase with h0 | ⟨h0, h1⟩ | ⟨h0, h1, h2⟩ | ⟨h0, h1, h2, h3⟩ | ⟨h0, h1, h2, h3⟩
      · have b0 : (a.k == 0) = true := by simp [h0]
        have he : encIt a = encI a.n := by unfold encIt; rw [if_pos h0]
        rw [he] at HT
        have hml : (encI a.n).length ≤ 10 := encI_len hn1 hn2
        clear he h0
        go_wp2_with (first
          | ((with_reducible refine (xint _ _ hn1 hn2).mono ?_)
             rintro e w2 ⟨A2, c2', rfl, hA3, hA4, hown2, hb2⟩
             have hrow2 := hrow.below hb2)
          | (at_builtin
             refine wpList_append_any _ rfl (.tmp 18) (.tmp 24) _ rfl w.heap.size 5 i0 _ 1 1 Try.underlying31 hi0 hz0 hz1 hz2 rfl (by omega) (.slice A1 pre.length c1) _ (bytesV pre) (by rfl) hrow2.1 w2.heap.size A2 (encI a.n).length c2' (bytesV (encI a.n)) (by rfl)
               (Reads.of_own hown2) (bytesV_one _) (by unfold maxLen; omega) (by omega) hrow2.2.size ?_
             intro v3 w3 hown3 hg3 hat3))
        go_roundw
        case rel =>
          refine ⟨k + 1, by omega, by go_num, ?_⟩
          rw [HT.out]
          exact hrow2.push (Below.refl _ _) hown3 hg3
        case measure => simp [intOf]; omega
      · have b0 : (a.k == 0) = false := by simp [h0]
        have b1 : (a.k == 1) = true := by simp [h1]
        have he : encIt a = encB a.b := by unfold encIt; rw [if_neg h0, if_pos h1]
        rw [he] at HT
        have hml : (encB a.b).length ≤ 10 := by simp [encB]
        clear he h0 h1
        go_wp2_with (first
          | ((with_reducible refine (xflag _ _).mono ?_)
             rintro e w2 ⟨A2, c2', rfl, hA3, hA4, hown2, hb2⟩
             have hrow2 := hrow.below hb2)
          | (at_builtin
             refine wpList_append_any _ rfl (.tmp 28) (.tmp 34) _ rfl w.heap.size 5 i0 _ 1 1 Try.underlying31 hi0 hz0 hz1 hz2 rfl (by omega) (.slice A1 pre.length c1) _ (bytesV pre) (by rfl) hrow2.1 w2.heap.size A2 (encB a.b).length c2' (bytesV (encB a.b)) (by rfl)
               (Reads.of_own hown2) (bytesV_one _) (by unfold maxLen; omega) (by omega) hrow2.2.size ?_
             intro v3 w3 hown3 hg3 hat3))
        go_roundw
        case rel =>
          refine ⟨k + 1, by omega, by go_num, ?_⟩
          rw [HT.out]
          exact hrow2.push (Below.refl _ _) hown3 hg3
        case measure => simp [intOf]; omega
      · have b0 : (a.k == 0) = false := by simp [h0]
        have b1 : (a.k == 1) = false := by simp [h1]
        have b2 : (a.k == 2) = true := by simp [h2]
        have he : encIt a = leB 8 (canonB a.x) := by unfold encIt; rw [if_neg h0, if_neg h1, if_pos h2]
        rw [he] at HT
        have hml : (leB 8 (canonB a.x)).length ≤ 10 := by rw [leB_len]; omega
        clear he h0 h1 h2
        go_wp2_with (first
          | ((with_reducible refine (xfloat _ _ hx0).mono ?_)
             rintro e w2 ⟨A2, c2', rfl, hA3, hA4, hown2, hb2⟩
             have hrow2 := hrow.below hb2)
          | (at_builtin
             refine wpList_append_any _ rfl (.tmp 38) (.tmp 44) _ rfl w.heap.size 5 i0 _ 1 1 Try.underlying31 hi0 hz0 hz1 hz2 rfl (by omega) (.slice A1 pre.length c1) _ (bytesV pre) (by rfl) hrow2.1 w2.heap.size A2 (leB 8 (canonB a.x)).length c2' (bytesV (leB 8 (canonB a.x))) (by rfl)
               (Reads.of_own hown2) (bytesV_one _) (by unfold maxLen; omega) (by omega) hrow2.2.size ?_
             intro v3 w3 hown3 hg3 hat3))
        go_roundw
        case rel =>
          refine ⟨k + 1, by omega, by go_num, ?_⟩
          rw [HT.out]
          exact hrow2.push (Below.refl _ _) hown3 hg3
        case measure => simp [intOf]; omega
      · have b0 : (a.k == 0) = false := by simp [h0]
        have b1 : (a.k == 1) = false := by simp [h1]
        have b2 : (a.k == 2) = false := by simp [h2]
        have b3 : (a.k == 3) = true := by simp [h3]
        have he : encIt a = encT a.s.data.toList := by unfold encIt; rw [if_neg h0, if_neg h1, if_neg h2, if_pos h3]
        rw [he] at HT
        have hml : (encT a.s.data.toList).length ≤ 20010 := by
                  have e : a.s.data.toList.length = a.s.size := Array.length_toList (xs := a.s.data)
                  unfold encT
                  rw [List.length_append, e]
                  have := encI_len (n := (a.s.size : Int)) (by omega) (by omega)
                  omega
        clear he h0 h1 h2 h3
        go_wp2_with (first
          | ((with_reducible refine (xtext _ _ (by omega)).mono ?_)
             rintro e w2 ⟨A2, c2', rfl, hA3, hA4, hown2, hb2⟩
             have hrow2 := hrow.below hb2)
          | (at_builtin
             refine wpList_append_any _ rfl (.tmp 48) (.tmp 54) _ rfl w.heap.size 5 i0 _ 1 1 Try.underlying31 hi0 hz0 hz1 hz2 rfl (by omega) (.slice A1 pre.length c1) _ (bytesV pre) (by rfl) hrow2.1 w2.heap.size A2 (encT a.s.data.toList).length c2' (bytesV (encT a.s.data.toList)) (by rfl)
               (Reads.of_own hown2) (bytesV_one _) (by unfold maxLen; omega) (by omega) hrow2.2.size ?_
             intro v3 w3 hown3 hg3 hat3))
        go_roundw
        case rel =>
          refine ⟨k + 1, by omega, by go_num, ?_⟩
          rw [HT.out]
          exact hrow2.push (Below.refl _ _) hown3 hg3
        case measure => simp [intOf]; omega
      · have b0 : (a.k == 0) = false := by simp [h0]
        have b1 : (a.k == 1) = false := by simp [h1]
        have b2 : (a.k == 2) = false := by simp [h2]
        have b3 : (a.k == 3) = false := by simp [h3]
        have he : encIt a = [] := by unfold encIt; rw [if_neg h0, if_neg h1, if_neg h2, if_neg h3]
        rw [he, List.append_nil] at HT
        clear he h0 h1 h2 h3
        go_wp2
        go_roundw
        case rel =>
          refine ⟨k + 1, by omega, by go_num, ?_⟩
          rw [HT.out]
          exact hrow
        case measure => simp [intOf]; omega
    · have he : l.take k = l := List.take_of_length_le (by omega)
      have hb1 : decide ((k : Int) < (n : Int)) = false := by simp; omega
      have HE := Lib.hid he
      clear he
      go_wp2
      go_ret
      have := hrow.post
      rw [HE.out] at this
      rw [HE.out]
      exact this
end Go.Proofs.Ytglddefjmnjgdaa
