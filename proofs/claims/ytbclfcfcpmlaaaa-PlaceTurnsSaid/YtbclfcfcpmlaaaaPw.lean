/- The walks of Find, of the program and of the document's answer. -/
import Derived.Test.YtbclfcfcpmlaaaaPr
namespace Go.Proofs.Ytbclfcfcpmlaaaa
open Go.RowKit Fl
attribute [local go_sem] run_store_float
attribute [local go_sem] Rg.val

def findR (l : List Rg) (x : Nat) : Option Rg := l.find? fun r => inR r x
theorem take_next {α : Type} {l : List α} {k : Nat} {r : α} (h : l[k]? = some r) : l.take (k + 1) = l.take k ++ [r] := by
  have hk := (List.getElem?_eq_some_iff.1 h).1
  rw [List.take_succ_eq_append_getElem hk, (List.getElem?_eq_some_iff.1 h).2]
theorem find_here {l : List Rg} {k x : Nat} {r : Rg} (h : l[k]? = some r) (hn : findR (l.take k) x = none) (hi : inR r x = true) : findR l x = some r := by
  have e : l = l.take (k + 1) ++ l.drop (k + 1) := (List.take_append_drop _ _).symm
  unfold findR at hn ⊢
  rw [e, take_next h, List.find?_append, List.find?_append, hn]
  simp [hi]
theorem find_next {l : List Rg} {k x : Nat} {r : Rg} (h : l[k]? = some r) (hn : findR (l.take k) x = none) (hi : inR r x = false) : findR (l.take (k + 1)) x = none := by
  unfold findR at hn ⊢
  rw [take_next h, List.find?_append, hn]
  simp [hi]
theorem find_not {l : List Rg} {k x : Nat} (hn : findR (l.take k) x = none) (hk : l.length ≤ k) : findR l x = none := by
  rw [List.take_of_length_le hk] at hn; exact hn

def zR : Rg := ⟨0, 0, 0, 0⟩
set_option maxHeartbeats 1000000 in
theorem find_any (A : Option Addr) (n c : Nat) (l : List Rg) (x : Nat) (w : World) (h : Sl RgRel 4 w w.heap.size A n l) (hn : n ≤ maxLen) :
    Calls Try.prog 22 #[.slice A n c, .float .f64 x] w fun e w' => e = .returned (.tuple #[((findR l x).getD zR).val, .bool (findR l x).isSome]) ∧ Below w.heap.size w w' := by
  unfold maxLen at hn
  have hlen := h.1
  have HL := Lib.hid hlen; clear hlen
  go_enter Try.func22, Try.ntmps22
  go_wp2
  go_loopw [10] (fun i wr => ∃ k : Nat, k ≤ n ∧ i = .int .i64 k ∧ Below w.heap.size w wr ∧ Blk wr w.heap.size 39 #[.int .i64 0, .int .i64 0, .float .f64 0, .float .f64 0] ∧ Hid (findR (l.take k) x = none)) (fun i _ => n - (intOf i).toNat)
  case atStart => exact ⟨0, by omega, rfl, (Below.refl _ _).alloc (Nat.le_refl _) _, Blk.new _ _ _, rfl⟩
  case round =>
    obtain ⟨k, hk, rfl, hb, hblk, hf⟩ := hrel
    obtain ⟨z0, z1, z2, z3, z4, z5, z6, z7, z8⟩ := hblk.four
    have HB := Lib.hid hblk; clear hblk
    by_cases hlt : k < n
    · obtain ⟨ad, r, rfl, hl, hbk, hok, c0, c1, c2, c3⟩ := (h.below RgRel.kept hb).rg hlt
      rcases Bool.eq_false_or_eq_true (inR r x) with hi | hi
      · have HF : Hid ((findR l x) = some r) := Lib.hid (find_here hl hf.out hi)
        have HI := Lib.hid hi
        clear hf hl hi
        go_wp2_with ((with_reducible refine (in_any r _ _).mono ?_); rw [HI.out]; rintro e w1 ⟨rfl, rfl⟩)
        refine post_cell_tmp (g := w.heap.size) rfl rfl ((((((HB.out.set_ 0 (.int .i64 r.id)).set_ 1 (.int .i64 r.ep)).set_ 2 (.float .f64 r.lo)).set_ 3 (.float .f64 r.hi)).alloc (.cells #[.int .i64 r.id, .int .i64 r.ep, .float .f64 r.lo, .float .f64 r.hi] 39)).alloc (.cells #[.int .i64 r.id, .int .i64 r.ep, .float .f64 r.lo, .float .f64 r.hi] 39)) Try.underlying39 rfl (by kernel_rfl) ⟨by rw [HF.out]; rfl, ?_⟩
        go_grown
      · have HF : Hid (findR (l.take (k + 1)) x = none) := Lib.hid (find_next hl hf.out hi)
        have HI := Lib.hid hi
        clear hf hl hi
        go_wp2_with ((with_reducible refine (in_any r _ _).mono ?_); rw [HI.out]; rintro e w1 ⟨rfl, rfl⟩)
        go_roundw
        case rel => exact ⟨k + 1, by omega, by go_num, by go_grown, (HB.out.alloc (.cells #[.int .i64 r.id, .int .i64 r.ep, .float .f64 r.lo, .float .f64 r.hi] 39)).alloc (.cells #[.int .i64 r.id, .int .i64 r.ep, .float .f64 r.lo, .float .f64 r.hi] 39), HF⟩
        case measure => simp [intOf]; omega
    · have HF : Hid (findR l x = none) := Lib.hid (find_not hf.out (by rw [HL.out]; omega))
      clear hf
      go_wp2
      refine post_cell_tmp (g := w.heap.size) rfl rfl ((((HB.out.set_ 0 _).set_ 1 _).set_ 2 _).set_ 3 _) Try.underlying39 rfl (by kernel_rfl) ⟨by rw [HF.out]; rfl, ?_⟩
      go_grown

set_option maxHeartbeats 1000000 in
theorem rfind_any (A : Option Addr) (n c : Nat) (l : List Rg) (x : Nat) (w : World) (h : Sl RgRel 4 w w.heap.size A n l) (hn : n ≤ maxLen) :
    Calls Try.prog 23 #[.slice A n c, .float .f64 x] w fun e w' => e = .returned (.tuple #[((findR l x).getD zR).val, .bool (findR l x).isSome]) ∧ Below w.heap.size w w' := by
  unfold maxLen at hn
  have hlen := h.1
  have HL := Lib.hid hlen; clear hlen
  go_enter Try.func23, Try.ntmps23
  go_wp2
  go_loopw [6] (fun i wr => ∃ k : Nat, k ≤ n ∧ i = .int .i64 k ∧ Below w.heap.size w wr ∧ Blk wr w.heap.size 39 #[.int .i64 0, .int .i64 0, .float .f64 0, .float .f64 0] ∧ Hid (findR (l.take k) x = none)) (fun i _ => n - (intOf i).toNat)
  case atStart => exact ⟨0, by omega, rfl, (Below.refl _ _).alloc (Nat.le_refl _) _, Blk.new _ _ _, rfl⟩
  case round =>
    obtain ⟨k, hk, rfl, hb, hblk, hf⟩ := hrel
    obtain ⟨z0, z1, z2, z3, z4, z5, z6, z7, z8⟩ := hblk.four
    have HB := Lib.hid hblk; clear hblk
    by_cases hlt : k < n
    · obtain ⟨ad, r, rfl, hl, hbk, hok, c0, c1, c2, c3⟩ := (h.below RgRel.kept hb).rg hlt
      have hbk2 : (ad.add (k * 4)).block < wr.heap.size := by omega
      rcases Bool.eq_false_or_eq_true (inR r x) with hi | hi
      · have HF : Hid ((findR l x) = some r) := Lib.hid (find_here hl hf.out hi)
        have HI := Lib.hid hi
        clear hf hl hi
        go_wp2_with ((with_reducible refine (rin_any r _ _).mono ?_); rw [HI.out]; rintro e w1 ⟨rfl, rfl⟩)
        refine post_cell_tmp (g := w.heap.size) rfl rfl (((((HB.out.set_ 0 (.int .i64 r.id)).set_ 1 (.int .i64 r.ep)).set_ 2 (.float .f64 r.lo)).set_ 3 (.float .f64 r.hi)).alloc (.cells #[.int .i64 r.id, .int .i64 r.ep, .float .f64 r.lo, .float .f64 r.hi] 39)) Try.underlying39 rfl (by kernel_rfl) ⟨by rw [HF.out]; rfl, ?_⟩
        go_grown
      · have HF : Hid (findR (l.take (k + 1)) x = none) := Lib.hid (find_next hl hf.out hi)
        have HI := Lib.hid hi
        clear hf hl hi
        go_wp2_with ((with_reducible refine (rin_any r _ _).mono ?_); rw [HI.out]; rintro e w1 ⟨rfl, rfl⟩)
        go_roundw
        case rel => exact ⟨k + 1, by omega, by go_num, by go_grown, HB.out.alloc (.cells #[.int .i64 r.id, .int .i64 r.ep, .float .f64 r.lo, .float .f64 r.hi] 39), HF⟩
        case measure => simp [intOf]; omega
    · have HF : Hid (findR l x = none) := Lib.hid (find_not hf.out (by rw [HL.out]; omega))
      clear hf
      go_wp2
      refine post_cell_tmp (g := w.heap.size) rfl rfl ((((HB.out.set_ 0 _).set_ 1 _).set_ 2 _).set_ 3 _) Try.underlying39 rfl (by kernel_rfl) ⟨by rw [HF.out]; rfl, ?_⟩
      go_grown
end Go.Proofs.Ytbclfcfcpmlaaaa
