/- Words for a reader's own walks: a slice of bytes cut and made a string; draws. -/
import Derived.Test.YtglddefjmnjgdaaRn
import Derived.Laws.BytesArg
import Derived.Laws.Slices
namespace Go.Proofs.Ytglddefjmnjgdaa
open Go.RowKit Fl

theorem rFail_at (s : RS) (e : Int) (q : Nat) : (rFail s e q).at_ = s.at_ := by unfold rFail; split <;> rfl

section
variable {P : Program} (w : World)
theorem run_conv_reads (src dst e : TypeId) (hs : P.underlying src = some (.slice e)) (he : P.underlying e = some (.int .u8)) (hd : P.underlying dst = some .string)
    {B : Nat} {A : Option Addr} {n c : Nat} {bs : List UInt8} (hr : Reads w B 1 A n (bytesV bs)) : (convert src dst (.slice A n c)).run P w = .ok (.string ⟨bs.toArray⟩) w := by
  have hn : bs.length = n := by have := hr.1; simpa using this
  rcases A with _ | ad
  · have h0 : n = 0 := by
      rcases Nat.eq_zero_or_pos n with h0 | h0
      · exact h0
      · obtain ⟨ad, h, _⟩ := hr.2 h0; cases h
    obtain rfl : bs = [] := List.eq_nil_of_length_eq_zero (by omega)
    rw [run_convert_bytes_nil w src e hs he n c dst hd]; rfl
  · have hcell : ∀ j u, (bytesV bs)[j]? = some u → w.cell? (ad.add j) = some u := by
      intro j u hu
      have : 0 < n := by
        have := (List.getElem?_eq_some_iff.1 hu).1
        simp at this; omega
      obtain ⟨ad', e, _, hc⟩ := hr.2 this
      obtain rfl : ad = ad' := Option.some.inj e
      exact hc j u hu
    have hl := run_loadCells_list (P := P) w ad (bytesV bs) hcell
    rw [bytesV_len, hn] at hl
    have e2 : bytesV bs = (bs.map fun x => (x.toNat : Int)).map (Value.int .u8) := by simp
    rw [e2] at hl
    rw [run_convert_bytes_string w src dst e _ n c hs he hd, run_bytesToString w ad n c _ hl, foldl_push_bytes]
    congr 2
    apply ByteArray.ext
    show (#[] : Array UInt8) ++ _ = _
    rw [Array.empty_append, List.map_map]
    congr 1
    conv => rhs; rw [← List.map_id bs]
    apply List.map_congr_left
    intro x _
    simp
/-- s[l:h] -/
theorem run_cut (t e : TypeId) (ht : P.underlying t = some (.slice e)) (hz : ∀ w, (Go.sizeOf e).run P w = .ok 1 w)
    {B : Nat} {A : Option Addr} {n c : Nat} {xs : List Value} (hr : Reads w B 1 A n xs) (hnc : n ≤ c) (l h : Nat) (h1 : l ≤ h) (h2 : h ≤ n) :
    ∃ A', (∀ w' : World, (Instr.slice t (.slice A n c) (some (.int .i64 (l : Int))) (some (.int .i64 (h : Int))) none).run P w' = .ok (.slice A' (h - l) (c - l)) w') ∧ Reads w B 1 A' (h - l) ((xs.drop l).take (h - l)) := by
  have he : P.elem t = e := by simp [Program.elem, ht]
  have ht' : P.underlying t = some (.slice (P.elem t)) := by rw [he]; exact ht
  refine ⟨if c = l then A else A.map (·.add (l * 1)), fun w' => ?_, ?_⟩
  · rw [run_slice_lh w' t A n c ht' .i64 .i64 _ _ (by omega) (by omega) (by omega), he, hz]
    simp [Result.andThen, sliced]
  · have hc := hr.cut (k := l) (cap := c) (by omega) hnc
    refine ⟨by rw [List.length_take, List.length_drop, hr.1]; omega, fun hn => ?_⟩
    obtain ⟨ad, e3, hb, hcell⟩ := hc.2 (by omega)
    refine ⟨ad, e3, hb, fun j u hu => hcell j u ?_⟩
    rw [Nat.mul_one]
    rw [List.getElem?_take] at hu
    split at hu
    · exact hu
    · cases hu
end
theorem bytesV_drop (bs : List UInt8) (k m : Nat) : ((bytesV bs).drop k).take m = bytesV ((bs.drop k).take m) := by simp [List.map_drop, List.map_take]
theorem size_u8 : ∀ w, (Go.sizeOf 5).run Try.prog w = .ok 1 w := fun w => by kernel_rfl

section
variable {t : TypeId} {w w' : World} {g : Nat} {A : Option Addr} {n c : Nat} {l : List UInt8} {s s' : RS}
theorem Rd.drewN (h : Rd t w g A n c l s) (k : Nat) : Rd t (w.drewN k) g A n c l s := ⟨h.blk, h.reads, h.len, h.small, h.apart, h.at_le, h.nc, h.cm⟩
theorem grown_drewN {r : Option Nat} (h : w.grownBy w' r) (k : Nat) : w.grownBy (w'.drewN k) r := ⟨h.os, h.tape, h.output, h.size, h.block⟩
end

/-- a number read that has to be from 0 to most: it and the place behind it -/
def cnt (l : List UInt8) (s : RS) (most e : Int) : Option (Int × Nat) × RS :=
  match dec l s.at_ with
  | .short => (none, rFail s 5 l.length)
  | .form => (none, rFail s 4 s.at_)
  | .ok n next => if n < 0 then (none, rFail s 4 s.at_) else if most < n then (none, rFail s e s.at_) else (some (n, next), s)
theorem rCount_cnt (l : List UInt8) (s : RS) (most e : Int) (h : s.e = 0) : rCount l s most e = match cnt l s most e with | (none, s') => (0, s') | (some (n, next), _) => (n, ⟨next, s.e, s.p⟩) := by
  unfold rCount cnt
  rw [if_neg (by simp [h])]
  cases dec l s.at_ with
  | short => rfl
  | form => rfl
  | ok n next => 
    simp only
    by_cases h1 : n < 0
    · rw [if_pos h1, if_pos h1]
    · rw [if_neg h1, if_neg h1]
      by_cases h2 : most < n
      · rw [if_pos h2, if_pos h2]
      · rw [if_neg h2, if_neg h2]
theorem rText_cnt (l : List UInt8) (s : RS) (most : Int) (h : s.e = 0) : rText l s most = match cnt l s most 2 with | (none, s') => ([], s') | (some (n, next), _) => if (l.length : Int) - next < n then ([], rFail s 5 l.length) else ((l.drop next).take n.toNat, ⟨next + n.toNat, s.e, s.p⟩) := by
  unfold rText cnt
  rw [if_neg (by simp [h])]
  cases dec l s.at_ with
  | short => rfl
  | form => rfl
  | ok n next => 
    simp only
    by_cases h1 : n < 0
    · rw [if_pos h1, if_pos h1]
    · rw [if_neg h1, if_neg h1]
      by_cases h2 : most < n
      · rw [if_pos h2, if_pos h2]
      · rw [if_neg h2, if_neg h2]
theorem cnt_ok {l : List UInt8} {s s' : RS} {most e n : Int} {next : Nat} (h : cnt l s most e = (some (n, next), s')) : s' = s ∧ 0 ≤ n ∧ n ≤ most ∧ dec l s.at_ = .ok n next := by
  unfold cnt at h
  cases hd : dec l s.at_ with
  | short => rw [hd] at h; simp at h
  | form => rw [hd] at h; simp at h
  | ok m q =>
    rw [hd] at h
    simp only at h
    by_cases h1 : m < 0
    · rw [if_pos h1] at h; simp at h
    · rw [if_neg h1] at h
      by_cases h2 : most < m
      · rw [if_pos h2] at h; simp at h
      · rw [if_neg h2] at h
        simp only [Prod.mk.injEq, Option.some.injEq] at h
        obtain ⟨⟨rfl, rfl⟩, rfl⟩ := h
        exact ⟨rfl, by omega, by omega, rfl⟩
end Go.Proofs.Ytglddefjmnjgdaa
