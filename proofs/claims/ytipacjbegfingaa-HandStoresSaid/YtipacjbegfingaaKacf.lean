/- HandStores: the three stores side by side, behind Resolve or without it. -/
import Derived.Test.YtipacjbegfingaaKabg
import Derived.Test.YtipacjbegfingaaKacb
import Derived.Test.YtipacjbegfingaaKacc
import Derived.Test.YtipacjbegfingaaKacd
namespace Go.Proofs.Ytipacjbegfingaa
set_option linter.unusedVariables false
open Go.RowKit Fl

theorem lastV_mem : ∀ (l : List Vn) (z : Vn), l.foldl (fun _ v => v) z = z ∨ l.foldl (fun _ v => v) z ∈ l := by
  intro l
  induction l with
  | nil => intro z; exact .inl rfl
  | cons a l ih =>
    intro z
    rcases ih a with e | e
    · exact .inr (by rw [List.foldl_cons, e]; exact List.mem_cons_self ..)
    · exact .inr (List.mem_cons_of_mem _ e)
/-- all that is read at a stamp is as it may be -/
theorem atL_ok {w : World} {B n : Nat} {A : Option Addr} {H : List Hs} (s : Sp) (h : Sl HsRel 2 w B A n H) : ∀ a ∈ atL s H, a.ok := by
  intro a ha
  obtain ⟨x, hx, e⟩ := List.mem_filterMap.1 ha
  by_cases hk : (lastUp s (rvers x.key H)).v.k ≠ 0
  · rw [if_pos hk] at e
    obtain rfl := Option.some.inj e
    obtain ⟨i, hi⟩ := List.mem_iff_getElem?.1 hx
    obtain ⟨ad, cs, -, -, -, -, v, -, hkey, -⟩ := h.2 i x hi
    refine ⟨hkey, ?_⟩
    show (lastUp s (rvers x.key H)).v.ok
    unfold lastUp lastV
    rcases lastV_mem ((rvers x.key H).filter fun v => decide (v.s.cmp s ≤ 0)) zeroVn with e | e
    · rw [e]; unfold zeroVn Vl.ok i64ok; exact ⟨by simp, by simp, Nat.zero_le _⟩
    · have hm := (List.mem_filter.1 e).1
      generalize ((rvers x.key H).filter fun v => decide (v.s.cmp s ≤ 0)).foldl (fun _ v => v) zeroVn = u at *
      unfold rvers at hm
      split at hm
      · next y hy =>
        obtain ⟨j, hj⟩ := List.mem_iff_getElem?.1 (List.mem_of_find?_eq_some hy)
        obtain ⟨ad, cs, -, -, -, -, v, -, -, A', n', c', -, -, -, h3⟩ := h.2 j y hj
        obtain ⟨k, hk'⟩ := List.mem_iff_getElem?.1 hm
        obtain ⟨_, _, _, _, _, _, _, hok⟩ := h3.2 k u hk'
        exact hok.2
      · cases hm
  · rw [if_neg hk] at e; cases e
/-- a store stays past what is done to one beside it -/
theorem RSh.past {w w' : World} {ga g m d : Nat} {B' B : Option Addr} {v : Value} {L : Sp} {H : List Hs} (h : RSh w ga B' m d v L H) (c : Chg w w' g B) (k : KeepN w w') (h1 : ga ≠ g) (h2 : ∀ p, B = some p → ga ≠ p.block)
    (h3 : ∀ p, B' = some p → p.block ≠ g ∧ ∀ q, B = some q → p.block ≠ q.block) : RSh w' ga B' m d v L H :=
  h.keep (c.block ga h.blk.lt h1 h2) (fun p hp => c.block _ (by obtain ⟨_, _, _, h5⟩ := h.row p hp; exact h5.lt) (h3 p hp).1 (h3 p hp).2) k c.size
theorem NewH.none {w : World} {g m d : Nat} {B : Option Addr} {v : Value} {L : Sp} {H : List Hs} (h : RSh w g B m d v L H) : ∃ vP, NewH w g vP L B H w :=
  ⟨v, B, m, d, h, KeepN.refl w, Chg.ofBelow g B (Below.refl _ _), fun p hp => .inl hp⟩
/-- the whole and its halves, each in its own blocks -/
def Thr (w0 w : World) (gA gL gR x : Nat) : Prop :=
  ∃ (H : List Hs) (B1 : Option Addr) (m1 d1 : Nat) (v1 : Value) (B2 : Option Addr) (m2 d2 : Nat) (v2 : Value) (B3 : Option Addr) (m3 d3 : Nat) (v3 : Value), RSh w gA B1 m1 d1 v1 ⟨0, 0, 0⟩ H ∧ RSh w gL B2 m2 d2 v2 ⟨0, 0, 0⟩ (hsF (fun k => belowB k x) H) ∧ RSh w gR B3 m3 d3 v3 ⟨0, 0, 0⟩ (hsF (fun k => !belowB k x) H) ∧ riseH ⟨#[]⟩ H ∧ H.length ≤ 3000000 ∧ Below w0.heap.size w0 w
theorem thr_same {w0 w : World} {gA gL gR x : Nat} {H : List Hs} {B1 B2 B3 : Option Addr} {m1 d1 m2 d2 m3 d3 : Nat} {v1 v2 v3 : Value} (r1 : RSh w gA B1 m1 d1 v1 ⟨0, 0, 0⟩ H) (r2 : RSh w gL B2 m2 d2 v2 ⟨0, 0, 0⟩ (hsF (fun k => belowB k x) H)) (r3 : RSh w gR B3 m3 d3 v3 ⟨0, 0, 0⟩ (hsF (fun k => !belowB k x) H)) (hr : riseH ⟨#[]⟩ H) (hl : H.length ≤ 1000000) (hb : Below w0.heap.size w0 w) : Thr w0 w gA gL gR x :=
  ⟨H, B1, m1, d1, v1, B2, m2, d2, v2, B3, m3, d3, v3, r1, r2, r3, hr, by omega, hb⟩
/-- how long the histories are behind Resolve -/
theorem resH_len {H : List Hs} {Q : List Pn} (hH : SmallH H) (hQ : SmallP Q) (t : Tx) (commit : Bool) (at_ : Sp) : (resH H (putAll Q) t commit at_).length ≤ 3000000 := by
  unfold resH
  have h1 := hH.1
  split
  · split
    · omega
    · next p hp =>
      cases commit
      · show H.length ≤ _; omega
      · show (insAll at_ p.w H).length ≤ _
        have h2 := (hQ.2 p (mem_putAll.1 (List.mem_of_find?_eq_some hp))).2
        exact (insAll_lenH (M := 3000000) at_ p.w (N := 1000000) ⟨h1, fun a ha => hH.2 a ha⟩ (by omega)).1
  · omega
theorem metB_drop {f : ByteArray → Bool} {l P Q : List Wt} {k : Nat} {a : Wt} (h : l[k]? = some a) : metB f (l.drop k) P Q = cntB (if f a.key = true then P else Q) a + metB f (l.drop (k + 1)) P Q := by
  obtain ⟨hk, e⟩ := List.getElem?_eq_some_iff.1 h
  unfold metB
  rw [List.drop_eq_getElem_cons hk, e, List.map_cons, List.sum_cons]
theorem cntB_drop {l : List Wt} {k : Nat} {a b : Wt} (h : l[k]? = some b) : cntB (l.drop k) a = (if meetB a b = true then 1 else 0) + cntB (l.drop (k + 1)) a := by
  obtain ⟨hk, e⟩ := List.getElem?_eq_some_iff.1 h
  unfold cntB
  rw [List.drop_eq_getElem_cons hk, e]
  by_cases hm : meetB a b = true
  · rw [List.filter_cons_of_pos hm, List.length_cons, if_pos hm]; omega
  · rw [List.filter_cons_of_neg hm, if_neg hm]; omega
def OutR (f : ByteArray → Bool) (AL P Q : List Wt) (w : World) (s i : Value) (wr : World) : Prop :=
  ∃ k n : Nat, k ≤ AL.length ∧ i = .int .i64 (k : Int) ∧ s = .int .i64 (n : Int) ∧ n + metB f (AL.drop k) P Q = AL.length ∧ Below w.heap.size w wr
def InR (In : List Wt) (a : Wt) (R N : Nat) (w : World) (s i : Value) (wr : World) : Prop :=
  ∃ k n : Nat, k ≤ In.length ∧ i = .int .i64 (k : Int) ∧ s = .int .i64 (n : Int) ∧ n + cntB (In.drop k) a + R = N ∧ Below w.heap.size w wr
end Go.Proofs.Ytipacjbegfingaa
