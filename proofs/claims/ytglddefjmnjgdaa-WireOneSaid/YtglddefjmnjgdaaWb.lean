/- The walk of first: what the chapter's examples fix. -/
import Derived.Test.YtglddefjmnjgdaaWa
namespace Go.Proofs.Ytglddefjmnjgdaa
open Go.RowKit Fl

section
variable {t : TypeId} {w w' : World} {g k : Nat} {A : Option Addr} {n c B : Nat} {l bs : List UInt8} {s : RS} {v v' : Value}
/-- a writer's and a reader's memory do not meet -/
structure Apart (A : Option Addr) (n k g : Nat) (v : Value) : Prop where
  ne : k ≠ g
  own : v.ownBlock ≠ some k
  row : ∀ ad, A = some ad → 0 < n → ad.block ≠ g ∧ v.ownBlock ≠ some ad.block
theorem Wr.grown (h : Wr w B g v bs) (hg : w.grownBy w' (some k)) (hk : g ≠ k) (hv : v.ownBlock ≠ some k) : Wr w' B g v bs :=
  ⟨h.1, h.blk.grown hg (by intro e; exact hk (by injection e)), h.row.kept hg (.inr hv)⟩
theorem Rd.foot (h : Rd t w k A n c l s) (hf : Foot w w' g v v') (ha : Apart A n k g v) : Rd t w' k A n c l s where
  blk := (hf.block k h.blk.lt ha.ne (fun e => ha.own e.symm)).trans h.blk
  reads := ⟨h.reads.1, fun hn => by
    obtain ⟨ad, e, hlt, hc⟩ := h.reads.2 hn
    obtain ⟨h1, h2⟩ := ha.row ad e hn
    refine ⟨ad, e, Nat.lt_of_lt_of_le hlt hf.size, fun j u hu => ?_⟩
    rw [World.cell?_of_block (w := w) (w' := w') (hf.block _ (by rw [block_of_add]; exact hlt) (by rw [block_of_add]; exact h1) (by rw [block_of_add]; exact fun e => h2 e.symm))]
    exact hc j u hu⟩
  len := h.len
  small := h.small
  apart := h.apart
  at_le := h.at_le
  nc := h.nc
  cm := h.cm
theorem Apart.foot (ha : Apart A n k g v) (h : Rd t w k A n c l s) (hf : Foot w w' g v v') : Apart A n k g v' where
  ne := ha.ne
  own := by
    rcases hf.own with e | ⟨j, e, hj⟩
    · rw [e]; exact ha.own
    · rw [e]; intro e2; have := h.blk.lt; injection e2; omega
  row := fun ad e hn => by
    refine ⟨(ha.row ad e hn).1, ?_⟩
    obtain ⟨ad', e', hlt, _⟩ := h.reads.2 hn
    obtain rfl : ad = ad' := Option.some.inj (e.symm.trans e')
    rcases hf.own with e2 | ⟨j, e2, hj⟩
    · rw [e2]; exact (ha.row ad e hn).2
    · rw [e2]; intro e3; injection e3; omega
/-- where the reader is new, a writer that was there is apart -/
theorem Apart.of_new (hw : Wr w B g v bs) (hA : ∀ ad, A = some ad → w.heap.size ≤ ad.block) (hk : w.heap.size ≤ k) : Apart A n k g v where
  ne := by have := hw.lt; omega
  own := fun e => by have := hw.own_lt k e; omega
  row := fun ad e _ => by
    have := hA ad e
    refine ⟨by have := hw.lt; omega, fun e2 => by have := hw.own_lt _ e2; omega⟩
/-- where the writer is new, a reader that was there is apart -/
theorem Apart.of_old (h : Rd t w k A n c l s) : Apart A n k w.heap.size (.slice none 0 0) where
  ne := by have := h.blk.lt; omega
  own := by simp [Value.ownBlock]
  row := fun ad e hn => by
    obtain ⟨ad', e', hlt, _⟩ := h.reads.2 hn
    obtain rfl : ad = ad' := Option.some.inj (e.symm.trans e')
    exact ⟨by omega, by simp [Value.ownBlock]⟩
theorem Wr.rd (h : Wr w B g v bs) (ha : Apart A n k g v) (hg : w.grownBy w' (some k)) : Wr w' B g v bs := h.grown hg (fun e => ha.ne e.symm) ha.own
end

theorem rTextFirst : rText [8, 97, 98, 99, 100, 2] ⟨0, 0, 0⟩ 4 = ([97, 98, 99, 100], ⟨5, 0, 0⟩) := by decide +kernel
theorem rFlagFirst : rFlag [8, 97, 98, 99, 100, 2] ⟨5, 0, 0⟩ = (false, ⟨5, 4, 5⟩) := by decide +kernel
theorem encFirst : [] ++ encI 64 ++ encI (-65) = [128, 1, 129, 1] := by decide +kernel

set_option maxRecDepth 100000 in
set_option maxHeartbeats 4000000 in
theorem first_any (w : World) : Calls Try.prog 11 #[] w fun e w' => e = .returned (.bool true) ∧ Below w.heap.size w w' := by
  go_enter Try.func11, Try.ntmps11
  go_wp2_with fail
  refine (wnew _).mono ?_
  rintro e w1 ⟨rfl, hw1⟩
  have hW0 := Wr.new w
  rw [hw1] at hW0
  have hb0 : Below w.heap.size w w1 := by rw [← hw1]; exact (Below.refl _ _).alloc (Nat.le_refl _) _
  have hz0 : w.heap.size + 1 ≤ w1.heap.size := by rw [← hw1]; simp
  clear hw1
  go_wp2_with fail
  refine (wRNew _ _ _ [8, 97, 98, 99, 100, 2] _ (by
    refine ⟨by simp, fun _ => ⟨_, rfl, by simp, fun j u hj => ?_⟩⟩
    rw [Addr.add_mid, Nat.zero_add, (Blk.new _ _ _).cell]
    simpa using hj) (by omega)).mono ?_
  rintro e w2 ⟨A, n, c, rfl, hp, hk, hR, hA, hb1⟩
  generalize hkk : w2.heap.size - 1 = k at *
  clear hkk hp
  have hX : Below w1.heap.size w1 (w1.alloc (.cells #[.int .u8 8, .int .u8 97, .int .u8 98, .int .u8 99, .int .u8 100, .int .u8 2] 5)) := (Below.refl _ _).alloc (Nat.le_refl _) _
  have hW1 := (hW0.below hX)
  generalize w1.alloc (.cells #[.int .u8 8, .int .u8 97, .int .u8 98, .int .u8 99, .int .u8 100, .int .u8 2] 5) = X at *
  have hzx := hX.size
  have hap1 := Apart.of_new hW1 hA hk (n := n)
  have hW2 := hW1.below hb1
  have hb2 : Below w.heap.size w w2 := (hb0.trans (hX.mono (by omega))).trans (hb1.mono (by omega))
  have hz2 := hb2.size
  clear hX hW0 hW1 hA hb1 hb0
  go_wp2_with fail
  refine (wint _ _ _ _ _ _ hW2 hz2 (by omega) (by omega) (by simp)).mono ?_
  rintro e w3 ⟨rfl, v3, hW3, hf3⟩
  have hR3 := hR.foot hf3 hap1
  have hap3 := hap1.foot hR hf3
  have hb3 := hb2.trans (hf3.below hW2)
  have hz3 := hb3.size
  clear hW2 hf3 hap1 hR hb2
  go_wp2_with fail
  refine (wint _ _ _ _ _ _ hW3 hz3 (by omega) (by omega) (by rw [List.nil_append]; have := encI_len (n := 64) (by omega) (by omega); omega)).mono ?_
  rintro e w4 ⟨rfl, v4, hW4, hf4⟩
  have hR4 := hR3.foot hf4 hap3
  have hap4 := hap3.foot hR3 hf4
  have hb4 := hb3.trans (hf4.below hW3)
  clear hW3 hf4 hap3 hR3 hb3
  rw [encFirst] at hW4
  go_wp2_with fail
  refine (wRText _ _ _ _ _ _ _ _ hR4).mono ?_
  rw [rTextFirst]
  rintro e w5 ⟨rfl, hR5, hg5⟩
  have hW5 := hW4.rd hap4 hg5
  have hb5 := hb4.grown hg5 hb4.size (by intro j hj; injection hj; omega)
  clear hW4 hb4 hg5 hR4
  go_wp2_with fail
  refine (wRFlag _ _ _ _ _ _ _ hR5).mono ?_
  rw [rFlagFirst]
  rintro e w6 ⟨rfl, hR6, hg6⟩
  have hW6 := hW5.rd hap4 hg6
  have hb6 := hb5.grown hg6 hb5.size (by intro j hj; injection hj; omega)
  clear hW5 hb5 hg6 hR5
  go_wp2_with fail
  refine (wRFault _ _ _ _ _ _ _ hR6).mono ?_
  rintro e w7 ⟨rfl, q, rfl⟩
  have hW7 : Wr (w6.drewN q) w.heap.size w.heap.size v4 [128, 1, 129, 1] := hW6.below ⟨rfl, rfl, rfl, Nat.le_refl _, fun _ _ => rfl⟩
  have hb7 : Below w.heap.size w (w6.drewN q) := hb6.trans ⟨rfl, rfl, rfl, Nat.le_refl _, fun _ _ => rfl⟩
  clear hW6 hb6 hR6
  go_wp2_with fail
  refine (wbytes _ _ _ _ _ hW7 (by simp)).mono ?_
  rintro e w8 ⟨A8, c8, rfl, _, _, hown, hb8⟩
  have hb9 := hb7.trans (hb8.mono hb7.size)
  have hcv := run_conv_reads (P := Try.prog) w8 31 9 5 (n := 4) (c := c8) Try.underlying31 Try.underlying5 Try.underlying9 (Reads.of_own hown)
  go_wp2
  go_ret
  exact ⟨rfl, hb9⟩
end Go.Proofs.Ytglddefjmnjgdaa
