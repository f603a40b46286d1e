/- Words for a reader: a block of a slice of bytes, a place, a fault, its place (of wire's and of the reference's: t is the struct's type); fail, stop. -/
import Derived.Test.YtglddefjmnjgdaaWf
import Derived.Test.YtglddefjmnjgdaaDec
namespace Go.Proofs.Ytglddefjmnjgdaa
open Go.RowKit Fl

abbrev Rd.cells (A : Option Addr) (n c : Nat) (s : RS) : Array Value := #[.slice A n c, .int .i64 s.at_, .int .i64 s.e, .int .i64 s.p]
structure Rd (t : TypeId) (w : World) (g : Nat) (A : Option Addr) (n c : Nat) (l : List UInt8) (s : RS) : Prop where
  blk : Blk w g t (Rd.cells A n c s)
  reads : Reads w w.heap.size 1 A n (bytesV l)
  len : l.length = n
  small : n ≤ 1000000000000
  apart : ∀ ad, A = some ad → 0 < n → ad.block ≠ g
  at_le : s.at_ ≤ n
  nc : n ≤ c
  cm : c ≤ maxLen
def RdPost (t : TypeId) (w : World) (g : Nat) (A : Option Addr) (n c : Nat) (l : List UInt8) (v : Value) (s' : RS) : Ending → World → Prop :=
  fun e w' => e = .returned v ∧ Rd t w' g A n c l s' ∧ w.grownBy w' (some g)

section
variable {t : TypeId} {w w' : World} {g : Nat} {A : Option Addr} {n c : Nat} {l : List UInt8} {s s' : RS}
/-- turned in its own block alone -/
theorem Rd.turn (h : Rd t w g A n c l s) (hb : Blk w' g t (Rd.cells A n c s')) (hg : w.grownBy w' (some g)) (ha : s'.at_ ≤ n) : Rd t w' g A n c l s' where
  blk := hb
  reads := ⟨h.reads.1, fun hn => by
    obtain ⟨ad, e, hlt, hc⟩ := h.reads.2 hn
    have hne := h.apart ad e hn
    refine ⟨ad, e, Nat.lt_of_lt_of_le hlt hg.size, fun j u hu => ?_⟩
    rw [World.cell?_of_block (w := w) (w' := w') (hg.block _ (by rw [block_of_add]; exact hlt) (by rw [block_of_add]; intro e; exact hne (by injection e)))]
    exact hc j u hu⟩
  len := h.len
  small := h.small
  apart := h.apart
  at_le := ha
  nc := h.nc
  cm := h.cm
theorem Rd.below (h : Rd t w g A n c l s) (hb : Below w.heap.size w w') : Rd t w' g A n c l s where
  blk := h.blk.below hb h.blk.lt
  reads := (h.reads.below hb).more hb.size
  len := h.len
  small := h.small
  apart := h.apart
  at_le := h.at_le
  nc := h.nc
  cm := h.cm
/-- another block of a known kind has turned -/
theorem Rd.far (h : Rd t w g A n c l s) {k : Nat} (hg : w.grownBy w' (some k)) (hk : g ≠ k) (ha : ∀ ad, A = some ad → 0 < n → ad.block ≠ k) : Rd t w' g A n c l s where
  blk := h.blk.grown hg (by intro e; exact hk (by injection e))
  reads := ⟨h.reads.1, fun hn => by
    obtain ⟨ad, e, hlt, hc⟩ := h.reads.2 hn
    have hne := ha ad e hn
    refine ⟨ad, e, Nat.lt_of_lt_of_le hlt hg.size, fun j u hu => ?_⟩
    rw [World.cell?_of_block (w := w) (w' := w') (hg.block _ (by rw [block_of_add]; exact hlt) (by rw [block_of_add]; intro e; exact hne (by injection e)))]
    exact hc j u hu⟩
  len := h.len
  small := h.small
  apart := h.apart
  at_le := h.at_le
  nc := h.nc
  cm := h.cm
theorem Rd.cell (h : Rd t w g A n c l s) {k : Nat} (hk : k < n) : ∃ ad u, A = some ad ∧ ad.block < w.heap.size ∧ l[k]? = some u ∧ w.cell? (ad.add k) = some (.int .u8 u.toNat) := by
  obtain ⟨ad, u, e, hb, hx, hc⟩ := h.reads.at_ hk
  have hl := h.len
  have hu : l[k]? = some l[k] := List.getElem?_eq_getElem (by omega)
  rw [List.getElem?_map, hu] at hx
  obtain rfl := Option.some.inj hx
  exact ⟨ad, _, e, hb, hu, hc⟩
theorem grown_set (w : World) (g i : Nat) (u : Value) : w.grownBy (w.setCell ⟨g, i, none⟩ u) (some g) :=
  ⟨rfl, rfl, rfl, by simp [World.setCell], fun k _ h => Below.heap_setCell _ _ _ _ (fun e => h (by rw [e]))⟩
theorem Rd.moved (h : Rd t w g A n c l s) {k : Nat} (hk : k ≤ n) : Rd t (w.setCell ⟨g, 1, none⟩ (.int .i64 (k : Int))) g A n c l ⟨k, s.e, s.p⟩ :=
  h.turn (by have := h.blk.set_ 1 (.int .i64 (k : Int)); exact this) (grown_set _ _ _ _) hk
theorem Rd.faulted (h : Rd t w g A n c l s) (e : Int) (q : Nat) : Rd t ((w.setCell ⟨g, 2, none⟩ (.int .i64 e)).setCell ⟨g, 3, none⟩ (.int .i64 (q : Int))) g A n c l ⟨s.at_, e, q⟩ :=
  h.turn (by have := (h.blk.set_ 2 (.int .i64 e)).set_ 3 (.int .i64 (q : Int)); exact this) ((grown_set _ _ _ _).trans (grown_set _ _ _ _)) h.at_le
end

set_option maxHeartbeats 4000000 in
theorem wfail (g : Nat) (A : Option Addr) (n c : Nat) (l : List UInt8) (s : RS) (e : Int) (q : Nat) (w : World) (h : Rd 73 w g A n c l s) :
    Calls Try.prog 45 #[.pointer (some ⟨g, 0, none⟩), .int .i64 e, .int .i64 (q : Int)] w (RdPost 73 w g A n c l (.tuple #[]) (rFail s e q)) := by
  obtain ⟨hgl, c0, c1, c2, c3, f0, f1, f2, f3⟩ := h.blk.four
  by_cases h1 : s.e = 0
  · by_cases h2 : e = 0
    · have hs : rFail s e q = s := by unfold rFail; rw [if_neg (by intro h; exact h.2 h2)]
      have hb1 : (s.e == 0) = true := by simp [h1]
      have hb2 : (e == 0) = true := by simp [h2]
      go_enter Try.func45, Try.ntmps45
      go_wp2
      go_end0
      rw [hs]
      exact ⟨rfl, h, World.grownBy.refl _ _⟩
    · have hs : rFail s e q = ⟨s.at_, e, q⟩ := by unfold rFail; rw [if_pos ⟨h1, h2⟩]
      have hb1 : (s.e == 0) = true := by simp [h1]
      have hb2 : (e == 0) = false := by simp [h2]
      go_enter Try.func45, Try.ntmps45
      go_wp2
      go_end0
      rw [hs]
      exact ⟨rfl, h.faulted e q, (grown_set _ _ _ _).trans (grown_set _ _ _ _)⟩
  · have hs : rFail s e q = s := by unfold rFail; rw [if_neg (by intro h; exact h1 h.1)]
    have hb1 : (s.e == 0) = false := by simp [h1]
    go_enter Try.func45, Try.ntmps45
    go_wp2
    go_end0
    rw [hs]
    exact ⟨rfl, h, World.grownBy.refl _ _⟩
end Go.Proofs.Ytglddefjmnjgdaa
