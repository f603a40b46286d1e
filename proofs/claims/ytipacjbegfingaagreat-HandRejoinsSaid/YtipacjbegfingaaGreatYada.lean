/- Rejoin's clone: histories whose versions lie in blocks of their own. -/
import Derived.Test.YtipacjbegfingaaGreatYaaf
import Derived.Test.YtipacjbegfingaaGreatYabi
import Derived.Test.YtipacjbegfingaaGreatYacj
namespace Go.Proofs.YtipacjbegfingaaGreat
set_option linter.unusedVariables false
open Go.RowKit
attribute [local go_sem] run_store_float

theorem hs_oneG (k : ByteArray) (A : Option Addr) (n c : Nat) : ∀ u ∈ ([.string k, .slice A n c] : List Value), u.oneCell' = true := by
  intro u hu
  simp only [List.mem_cons, List.not_mem_nil, or_false] at hu
  rcases hu with rfl | rfl <;> rfl
end Go.Proofs.YtipacjbegfingaaGreat
/- Histories by their headers: read so, merged so. -/
namespace Go.Proofs.YtipacjbegfingaaGreat
set_option linter.unusedVariables false
open Go.RowKit

inductive All2 {α β : Type} (R : α → β → Prop) : List α → List β → Prop where
  | nil : All2 R [] []
  | cons {a : α} {b : β} {l : List α} {m : List β} : R a b → All2 R l m → All2 R (a :: l) (b :: m)
section
variable {α β : Type} {R S : α → β → Prop} {l : List α} {m : List β}
theorem All2.len (h : All2 R l m) : l.length = m.length := by
  induction h with
  | nil => rfl
  | cons _ _ ih => rw [List.length_cons, List.length_cons, ih]
theorem All2.imp (h : All2 R l m) (hi : ∀ a b, R a b → S a b) : All2 S l m := by
  induction h with
  | nil => exact .nil
  | cons h1 _ ih => exact .cons (hi _ _ h1) ih
theorem All2.get (h : All2 R l m) : ∀ (i : Nat) (b : β), m[i]? = some b → ∃ a, l[i]? = some a ∧ R a b := by
  induction h with
  | nil => intro i b hb; simp at hb
  | cons h1 _ ih =>
    intro i b hb
    cases i with
    | zero => simp only [List.getElem?_cons_zero, Option.some.injEq] at hb; subst hb; exact ⟨_, rfl, h1⟩
    | succ i => simp only [List.getElem?_cons_succ] at hb ⊢; exact ih i b hb
theorem All2.mem (h : All2 R l m) : ∀ a ∈ l, ∃ b ∈ m, R a b := by
  induction h with
  | nil => intro a ha; cases ha
  | cons h1 _ ih =>
    intro a ha
    rcases List.mem_cons.1 ha with rfl | ha
    · exact ⟨_, List.mem_cons_self .., h1⟩
    · obtain ⟨b, hb, hr⟩ := ih a ha
      exact ⟨b, List.mem_cons_of_mem _ hb, hr⟩
/-- merged side by side -/
theorem All2.merge {k : α → ByteArray} {k' : β → ByteArray} (hk : ∀ a b, R a b → k a = k' b) : ∀ (n : Nat) (l1 l2 : List α) (m1 m2 : List β), l1.length + l2.length ≤ n → All2 R l1 m1 → All2 R l2 m2 → All2 R (mergeL k l1 l2) (mergeL k' m1 m2) := by
  intro n
  induction n with
  | zero =>
    intro l1 l2 m1 m2 hn h1 h2
    cases h1 with
    | nil => rw [nil_merge, nil_merge]; exact h2
    | cons => simp only [List.length_cons] at hn; omega
  | succ n ih =>
    intro l1 l2 m1 m2 hn h1 h2
    cases h1 with
    | nil => rw [nil_merge, nil_merge]; exact h2
    | @cons a b l1 m1 ha h1 =>
      cases h2 with
      | nil => rw [merge_nil, merge_nil]; exact .cons ha h1
      | @cons c d l2 m2 hc h2 =>
        simp only [List.length_cons] at hn
        have e1 := hk _ _ ha
        have e2 := hk _ _ hc
        cases e : bl (k a) (k c)
        · rw [merge_right _ _ e, merge_right _ _ (by rw [← e1, ← e2]; exact e)]
          exact .cons hc (ih _ _ _ _ (by simp only [List.length_cons]; omega) (.cons ha h1) h2)
        · rw [merge_left _ _ e, merge_left _ _ (by rw [← e1, ← e2]; exact e)]
          exact .cons ha (ih _ _ _ _ (by simp only [List.length_cons]; omega) h1 (.cons hc h2))
theorem All2.rise {k : α → ByteArray} {k' : β → ByteArray} (hk : ∀ a b, R a b → k a = k' b) (h : All2 R l m) (hm : RiseK k' m) : RiseK k l := by
  induction h with
  | nil => exact List.Pairwise.nil
  | cons h1 h2 ih =>
    obtain ⟨m1, m2⟩ := List.pairwise_cons.1 hm
    refine List.Pairwise.cons (fun x hx => ?_) (ih m2)
    obtain ⟨y, hy, hr⟩ := h2.mem x hx
    rw [hk _ _ h1, hk _ _ hr]
    exact m1 y hy
end
/-- a header reads as a history -/
def HhOk (w : World) (B : Nat) (x : Hh) (a : Hs) : Prop := x.key = a.key ∧ a.key.size ≤ 140737488351232 ∧ x.n ≤ x.c ∧ x.c ≤ maxLen ∧ Sl VnRel 6 w B x.A x.n a.vs
theorem HhOk.below {w w' : World} {B B' : Nat} {x : Hh} {a : Hs} (h : HhOk w B x a) (hb : Below B w w') (hB : B ≤ B') : HhOk w' B' x a :=
  ⟨h.1, h.2.1, h.2.2.1, h.2.2.2.1, (h.2.2.2.2.below VnRel.kept hb).more VnRel.kept hB⟩
theorem css_hh {w : World} {B : Nat} : ∀ (css : List (List Value)) (l : List Hs), css.length = l.length → (∀ (i : Nat) (cs : List Value) (a : Hs), css[i]? = some cs → l[i]? = some a → HsRel w B cs a) → ∃ L : List Hh, css = L.map Hh.cells ∧ All2 (HhOk w B) L l := by
  intro css
  induction css with
  | nil =>
    intro l hl _
    cases l with
    | nil => exact ⟨[], rfl, .nil⟩
    | cons a l => simp at hl
  | cons cs css ih =>
    intro l hl h
    cases l with
    | nil => simp at hl
    | cons a l =>
      obtain ⟨L, e, hL⟩ := ih l (by simpa using hl) fun i cs b h1 h2 => h (i + 1) cs b (by simpa using h1) (by simpa using h2)
      obtain ⟨v, e2, hk, A, n, c, e3, h1, h2, h3⟩ := h 0 cs a rfl rfl
      subst e3
      exact ⟨⟨a.key, A, n, c⟩ :: L, by rw [List.map_cons, ← e, e2]; rfl, .cons ⟨rfl, hk, h1, h2, h3⟩ hL⟩
/-- histories, by their headers -/
theorem Sl.hhs {w : World} {B n : Nat} {A : Option Addr} {l : List Hs} (h : Sl HsRel 2 w B A n l) : ∃ L : List Hh, L.length = n ∧ Reads w B 2 A n (L.flatMap Hh.cells) ∧ Sl HhRel 2 w B A n L ∧ All2 (HhOk w B) L l := by
  obtain ⟨css, hcl, hcs, hr, hp⟩ := h.css (by omega)
  obtain ⟨L, e, hL⟩ := css_hh css l (by rw [hcl, h.1]) hp
  have hlen : L.length = n := by rw [← hcl, e, List.length_map]
  have e2 : css.flatten = L.flatMap Hh.cells := by rw [e]; rfl
  rw [e2] at hr
  exact ⟨L, hlen, hr, hr.sl (by omega) hh_len (fun _ _ => trivial) hlen, hL⟩
theorem Sl.of_hhs {w : World} {B n : Nat} {A : Option Addr} {L : List Hh} {l : List Hs} (h : Sl HhRel 2 w B A n L) (hL : All2 (HhOk w B) L l) : Sl HsRel 2 w B A n l :=
  ⟨by rw [← hL.len]; exact h.1, fun i a ha => by
    obtain ⟨x, hx, e1, e2, e3, e4, e5⟩ := hL.get i a ha
    obtain ⟨ad, cs, e, hb, hl, hc, ecs, -⟩ := h.2 i x hx
    refine ⟨ad, cs, e, hb, hl, hc, x.hd, ?_, e2, x.A, x.n, x.c, rfl, e3, e4, e5⟩
    rw [ecs, ← e1]; rfl⟩
end Go.Proofs.YtipacjbegfingaaGreat
/- Histories merged, by the program and by the document. -/
namespace Go.Proofs.YtipacjbegfingaaGreat
set_option linter.unusedVariables false
open Go.RowKit

theorem hhOk_key {w : World} {B : Nat} (x : Hh) (a : Hs) (h : HhOk w B x a) : x.key = a.key := h.1
theorem all2_apart {w : World} {B : Nat} {L1 L2 : List Hh} {l1 l2 : List Hs} (h1 : All2 (HhOk w B) L1 l1) (h2 : All2 (HhOk w B) L2 l2) (hd : ∀ a ∈ l1, ∀ b ∈ l2, a.key ≠ b.key) : ∀ a ∈ L1, ∀ b ∈ L2, Hh.key a ≠ Hh.key b := fun a ha b hb => by
  obtain ⟨x, hx, r1⟩ := h1.mem a ha
  obtain ⟨y, hy, r2⟩ := h2.mem b hb
  rw [r1.1, r2.1]
  exact hd x hx y hy
/-- histories that may be rise -/
theorem histsB_riseK : ∀ (l : List Hs) (p : ByteArray), histsB p l = true → RiseK Hs.key l ∧ ∀ a ∈ l, bl p a.key = true := by
  intro l
  induction l with
  | nil => intro p _; exact ⟨List.Pairwise.nil, fun a ha => by cases ha⟩
  | cons a l ih =>
    intro p h
    have h' : (histB p a && histsB a.key l) = true := h
    rw [Bool.and_eq_true] at h'
    obtain ⟨i1, i2⟩ := ih a.key h'.2
    have hp := histB_lt h'.1
    refine ⟨List.Pairwise.cons i2 i1, fun b hb => ?_⟩
    rcases List.mem_cons.1 hb with rfl | hb
    · exact hp
    · exact bl_trans hp (i2 b hb)
theorem riseFrom_riseK : ∀ (l : List ByteArray) (p : Option ByteArray), riseFrom p l = true → RiseK id l ∧ ∀ q, p = some q → ∀ a ∈ l, bl q a = true := by
  intro l
  induction l with
  | nil => intro p _; exact ⟨List.Pairwise.nil, fun q _ a ha => by cases ha⟩
  | cons a l ih =>
    intro p h
    have h' : (keyB a && (match p with | some q => bl q a | none => true) && riseFrom (some a) l) = true := by
      cases p <;> exact h
    simp only [Bool.and_eq_true] at h'
    obtain ⟨i1, i2⟩ := ih (some a) h'.2
    have i3 := i2 a rfl
    refine ⟨List.Pairwise.cons i3 i1, fun q hq b hb => ?_⟩
    subst hq
    rcases List.mem_cons.1 hb with rfl | hb
    · exact h'.1.2
    · exact bl_trans h'.1.2 (i3 b hb)
theorem riseK_wt {l : List Wt} (h : RiseK id (l.map (·.key))) : RiseK Wt.key l := by
  unfold RiseK at *
  rw [List.pairwise_map] at h
  exact h
/-- what may be pending rises -/
theorem pend_riseK {p : Pn} (h : pendE p = 0) : RiseK id p.r ∧ RiseK Wt.key p.w := by
  obtain ⟨_, _, _, h4, h5, _⟩ := pendE_zero.1 h
  unfold riseB at h4 h5
  rw [Bool.and_eq_true] at h4 h5
  exact ⟨(riseFrom_riseK _ _ h4.1).1, riseK_wt (riseFrom_riseK _ _ h5.1).1⟩
end Go.Proofs.YtipacjbegfingaaGreat
