/- Plain facts about covers: what Check tells of a list of ranges; its order, one less, one twice. No walk here. -/
import Derived.Test.YtbclfcfcpmlaaaaPr
namespace Go.Proofs.Ytbclfcfcpmlaaaa
open Fl

def flC (l : List Rg) (x : Nat) : List Rg := l.filter fun r => decide (r.lo = x)
def stepC (l : List Rg) (x : Nat) : Option Nat := match flC l x with | [r] => some r.hi | _ => none
def chn (l : List Rg) : Nat → Nat → Option Nat
  | 0, x => some x
  | n + 1, x => (stepC l x).bind (chn l n)
def scanC : List Rg → List Rg → Option Int
  | _, [] => none
  | pre, r :: t => if mayR r then (if pre.any (fun o => o.id == r.id) then some 9 else scanC (pre ++ [r]) t) else some 1
def ck (l : List Rg) : Int :=
  if l.length = 0 then 8 else if 12 < l.length then 3 else match scanC [] l with
    | some e => e
    | none => if chn l l.length 0 = some 4607182418800017408 then 0 else 14
def cntC (l : List Rg) (x : Nat) : Nat := (l.filter fun r => decide (x ≤ r.lo)).length
def AllMay (l : List Rg) : Prop := ∀ r ∈ l, mayR r = true

theorem chn_snoc (l : List Rg) (n : Nat) : ∀ x, chn l (n + 1) x = (chn l n x).bind (stepC l) := by
  induction n with
  | zero => intro x; show (stepC l x).bind (chn l 0) = stepC l x; cases stepC l x <;> rfl
  | succ n ih =>
    intro x
    show (stepC l x).bind (chn l (n + 1)) = ((stepC l x).bind (chn l n)).bind (stepC l)
    cases stepC l x with
    | none => rfl
    | some y => exact ih y
theorem chn_none {l : List Rg} {n x : Nat} (h : chn l n x = none) : ∀ m, n ≤ m → chn l m x = none := by
  intro m
  induction m with
  | zero => intro hm; have : n = 0 := by omega
            subst this; exact h
  | succ m ih =>
    intro hm
    by_cases e : n = m + 1
    · subst e; exact h
    · rw [chn_snoc, ih (by omega)]; rfl

theorem flC_mem {l : List Rg} {x : Nat} {r : Rg} (h : r ∈ flC l x) : r ∈ l ∧ r.lo = x := by
  unfold flC at h
  simpa using h
theorem step_some {l : List Rg} {x y : Nat} (h : stepC l x = some y) : ∃ r, flC l x = [r] ∧ r.hi = y ∧ r ∈ l ∧ r.lo = x := by
  unfold stepC at h
  split at h
  · rename_i r e
    refine ⟨r, e, by simpa using h, ?_⟩
    have : r ∈ flC l x := by rw [e]; simp
    exact flC_mem this
  · cases h

theorem step_up {l : List Rg} {x y : Nat} (hm : AllMay l) (h : stepC l x = some y) : x < y ∧ y ≤ 4607182418800017408 := by
  obtain ⟨r, _, rfl, hr, rfl⟩ := step_some h
  exact ⟨(mayR_lo (hm r hr)).1, (mayR_lo (hm r hr)).2.1⟩
theorem step_one {l : List Rg} (hm : AllMay l) : stepC l 4607182418800017408 = none := by
  cases h : stepC l 4607182418800017408 with
  | none => rfl
  | some y => have := step_up hm h; omega
theorem chn_le {l : List Rg} (hm : AllMay l) : ∀ (n x y : Nat), x ≤ 4607182418800017408 → chn l n x = some y → y ≤ 4607182418800017408 := by
  intro n
  induction n with
  | zero => intro x y hx h; simp only [chn, Option.some.injEq] at h; omega
  | succ n ih =>
    intro x y hx h
    rw [chn_snoc] at h
    cases h1 : chn l n x with
    | none => rw [h1] at h; cases h
    | some z => rw [h1] at h; exact (step_up hm h).2

theorem cnt_le (l : List Rg) (x : Nat) : cntC l x ≤ l.length := List.length_filter_le _ _
theorem cnt_parts (l : List Rg) (x y : Nat) (h : x < y) : cntC l y + (flC l x).length ≤ cntC l x := by
  unfold cntC flC
  induction l with
  | nil => simp
  | cons r l ih =>
    simp only [List.filter_cons]
    by_cases h1 : y ≤ r.lo
    · have h2 : x ≤ r.lo := by omega
      have h3 : ¬ r.lo = x := by omega
      simp [h1, h2, h3]; omega
    · by_cases h2 : r.lo = x
      · have h3 : ¬ y ≤ x := by omega
        simp [h2, h3]; omega
      · by_cases h3 : x ≤ r.lo
        · simp [h1, h2, h3]; omega
        · simp [h1, h2, h3]; omega
theorem cnt_step {l : List Rg} {x y : Nat} (hm : AllMay l) (h : stepC l x = some y) : cntC l y + 1 ≤ cntC l x := by
  obtain ⟨r, e, _, _, _⟩ := step_some h
  have := cnt_parts l x y (step_up hm h).1
  rw [e] at this
  exact this

/-- the chain has come to an end above 1, at step j -/
theorem fin_top {l : List Rg} {j x : Nat} (hm : AllMay l) (h : chn l j 0 = some x) (hx : ¬ x < 4607182418800017408) (hj : j ≤ l.length) :
    (j = l.length → chn l l.length 0 = some 4607182418800017408) ∧ (¬ j = l.length → ¬ chn l l.length 0 = some 4607182418800017408) := by
  have hle := chn_le hm j 0 x (by omega) h
  have e : x = 4607182418800017408 := by omega
  subst e
  refine ⟨fun e => by rw [← e]; exact h, fun e => ?_⟩
  have h1 : chn l (j + 1) 0 = none := by rw [chn_snoc, h]; exact step_one hm
  rw [chn_none h1 l.length (by omega)]
  simp
/-- no step from here -/
theorem fin_stuck {l : List Rg} {j x : Nat} (h : chn l j 0 = some x) (hx : x < 4607182418800017408) (hs : stepC l x = none) (hj : j ≤ l.length) : ¬ chn l l.length 0 = some 4607182418800017408 := by
  by_cases e : j = l.length
  · subst e; rw [h]; intro g; have := Option.some.inj g; omega
  · have h1 : chn l (j + 1) 0 = none := by rw [chn_snoc, h]; exact hs
    rw [chn_none h1 l.length (by omega)]
    simp
theorem fin_stuck' {l : List Rg} {j x : Nat} (h : chn l j 0 = some x) (hs : stepC l x = none) (hj : j < l.length) : ¬ chn l l.length 0 = some 4607182418800017408 := by
  have h1 : chn l (j + 1) 0 = none := by rw [chn_snoc, h]; exact hs
  rw [chn_none h1 l.length (by omega)]
  simp

/-- the scan over a whole list -/
theorem scan_none {l : List Rg} : ∀ pre, scanC pre l = none ↔ ((∀ r ∈ l, mayR r = true) ∧ ∀ k r, l[k]? = some r → ∀ o ∈ pre ++ l.take k, ¬ o.id = r.id) := by
  induction l with
  | nil => intro pre; simp [scanC]
  | cons a l ih =>
    intro pre
    unfold scanC
    by_cases h1 : mayR a = true
    · rw [if_pos h1]
      by_cases h2 : pre.any (fun o => o.id == a.id) = true
      · rw [if_pos h2]
        constructor
        · intro h; cases h
        · rintro ⟨_, h⟩
          obtain ⟨o, ho, he⟩ := List.any_eq_true.1 h2
          exact absurd (by simpa using he) (h 0 a rfl o (by simp [ho]))
      · rw [if_neg h2, ih]
        constructor
        · rintro ⟨g1, g2⟩
          refine ⟨fun r hr => ?_, fun k r hk o ho => ?_⟩
          · rcases List.mem_cons.1 hr with rfl | hr
            · exact h1
            · exact g1 r hr
          · cases k with
            | zero =>
              simp only [List.getElem?_cons_zero, Option.some.injEq] at hk
              subst hk
              intro e
              apply h2
              simp only [List.take_zero, List.append_nil] at ho
              exact List.any_eq_true.2 ⟨o, ho, by simpa using e⟩
            | succ k =>
              exact g2 k r (by simpa using hk) o (by simpa [List.append_assoc] using ho)
        · rintro ⟨g1, g2⟩
          refine ⟨fun r hr => g1 r (by simp [hr]), fun k r hk o ho => ?_⟩
          exact g2 (k + 1) r (by simpa using hk) o (by simpa [List.append_assoc] using ho)
    · rw [if_neg h1]
      constructor
      · intro h; cases h
      · rintro ⟨h, _⟩; exact absurd (h a (by simp)) h1

theorem nodup_ids {l : List Rg} : (∀ k r, l[k]? = some r → ∀ o ∈ l.take k, ¬ o.id = r.id) ↔ (l.map (·.id)).Nodup := by
  unfold List.Nodup
  rw [List.pairwise_map, List.pairwise_iff_getElem]
  constructor
  · intro h i j hi hj hij
    exact h j l[j] (List.getElem?_eq_getElem hj) l[i] (List.mem_take_iff_getElem.2 ⟨i, by omega, rfl⟩)
  · intro h k r hk o ho
    obtain ⟨i, hi, rfl⟩ := List.mem_take_iff_getElem.1 ho
    have hkl : k < l.length := (List.getElem?_eq_some_iff.1 hk).1
    have hr : l[k] = r := (List.getElem?_eq_some_iff.1 hk).2
    have := h i k (by omega) hkl (by omega)
    rw [hr] at this
    exact this

theorem ck_ok {l : List Rg} : ck l = 0 ↔ l ≠ [] ∧ l.length ≤ 12 ∧ AllMay l ∧ (l.map (·.id)).Nodup ∧ chn l l.length 0 = some 4607182418800017408 := by
  unfold ck
  by_cases h1 : l.length = 0
  · rw [if_pos h1]
    have : l = [] := List.eq_nil_of_length_eq_zero h1
    subst this
    simp
  · rw [if_neg h1]
    have hne : l ≠ [] := fun e => h1 (by rw [e]; rfl)
    by_cases h2 : 12 < l.length
    · rw [if_pos h2]
      constructor
      · intro h; cases h
      · rintro ⟨_, h, _⟩; omega
    · rw [if_neg h2]
      have hs := scan_none (l := l) []
      cases h3 : scanC [] l with
      | some e =>
        rw [h3] at hs
        have he : e ≠ 0 := by
          have : ∀ (l pre : List Rg), scanC pre l ≠ some 0 := by
            intro l
            induction l with
            | nil => intro pre h; cases h
            | cons a l ih =>
              intro pre
              unfold scanC
              split
              · split
                · intro h; cases h
                · exact ih _
              · intro h; cases h
          intro e0
          exact this l [] (by rw [h3, e0])
        constructor
        · intro h; exact absurd h he
        · rintro ⟨_, _, hm, hn, _⟩
          have := hs.2 ⟨hm, by simpa using nodup_ids.2 hn⟩
          cases this
      | none =>
        obtain ⟨g1, g2⟩ := hs.1 h3
        have g3 : (l.map (·.id)).Nodup := nodup_ids.1 (by simpa using g2)
        show (if chn l l.length 0 = some 4607182418800017408 then (0 : Int) else 14) = 0 ↔ _
        by_cases h4 : chn l l.length 0 = some 4607182418800017408
        · rw [if_pos h4]; exact ⟨fun _ => ⟨hne, by omega, g1, g3, h4⟩, fun _ => rfl⟩
        · rw [if_neg h4]
          constructor
          · intro h; cases h
          · rintro ⟨_, _, _, _, h⟩; exact absurd h h4

theorem stepC_perm {l m : List Rg} (h : l.Perm m) (x : Nat) : stepC l x = stepC m x := by
  have hf : (flC l x).Perm (flC m x) := h.filter _
  unfold stepC
  rcases hl : flC l x with _ | ⟨a, _ | ⟨b, t⟩⟩
  · rw [hl] at hf; rw [List.nil_perm.1 hf]
  · rw [hl] at hf; rw [List.singleton_perm.1 hf]
  · rw [hl] at hf
    have hlen := hf.length_eq
    rcases hm : flC m x with _ | ⟨a', _ | ⟨b', t'⟩⟩
    · simp [hm] at hlen
    · simp [hm] at hlen
    · rfl
theorem chn_perm {l m : List Rg} (h : l.Perm m) : ∀ n x, chn l n x = chn m n x := by
  intro n
  induction n with
  | zero => intro x; rfl
  | succ n ih =>
    intro x
    show (stepC l x).bind (chn l n) = (stepC m x).bind (chn m n)
    rw [stepC_perm h, show chn l n = chn m n from funext ih]
theorem ck_perm {l m : List Rg} (h : l.Perm m) : ck l = 0 ↔ ck m = 0 := by
  rw [ck_ok, ck_ok, h.length_eq, chn_perm h]
  have hm : AllMay l ↔ AllMay m := ⟨fun g r hr => g r (h.mem_iff.2 hr), fun g r hr => g r (h.mem_iff.1 hr)⟩
  have hn : (l.map (·.id)).Nodup ↔ (m.map (·.id)).Nodup := (h.map _).nodup_iff
  have he : l ≠ [] ↔ m ≠ [] := not_congr ⟨fun e => by subst e; exact List.nil_perm.1 h |>.symm ▸ rfl, fun e => by subst e; exact List.perm_nil.1 h⟩
  rw [hm, hn, he]

/-- one less -/
theorem ck_less {l1 l2 : List Rg} {r : Rg} (h : ck (l1 ++ r :: l2) = 0) : ¬ ck (l1 ++ l2) = 0 := by
  intro g
  rw [ck_ok] at h g
  obtain ⟨_, _, hm, _, hc⟩ := h
  obtain ⟨_, _, _, _, gc⟩ := g
  have hlen : (l1 ++ r :: l2).length = (l1 ++ l2).length + 1 := by simp only [List.length_append, List.length_cons]; omega
  rw [hlen] at hc
  generalize (l1 ++ l2).length = n at hc gc
  have hsub : ∀ x ∈ l1 ++ l2, x ∈ l1 ++ r :: l2 := fun x hx => by
    rcases List.mem_append.1 hx with a | a
    · exact List.mem_append_left _ a
    · exact List.mem_append_right _ (List.mem_cons_of_mem _ a)
  generalize l1 ++ r :: l2 = l at hm hc hsub
  generalize l1 ++ l2 = s at gc hsub
  have key : ∀ j, j ≤ n → chn s j 0 = chn l j 0 := by
    intro j
    induction j with
    | zero => intro _; rfl
    | succ j ih =>
      intro hj
      have e := ih (by omega)
      rw [chn_snoc, chn_snoc, e]
      cases hx : chn l j 0 with
      | none => rfl
      | some x =>
        show stepC s x = stepC l x
        cases hs : stepC s x with
        | none =>
          have : chn s (j + 1) 0 = none := by rw [chn_snoc, e, hx]; exact hs
          rw [chn_none this n hj] at gc
          cases gc
        | some y =>
          cases hl : stepC l x with
          | none =>
            have : chn l (j + 1) 0 = none := by rw [chn_snoc, hx]; exact hl
            rw [chn_none this (n + 1) (by omega)] at hc
            cases hc
          | some z =>
            obtain ⟨a, _, rfl, ha, ha2⟩ := step_some hs
            obtain ⟨b, hb, rfl, _, _⟩ := step_some hl
            have : a ∈ flC l x := by unfold flC; simp [hsub a ha, ha2]
            rw [hb] at this
            simp at this
            rw [this]
  rw [chn_snoc, ← key n (Nat.le_refl _), gc] at hc
  have := step_one hm
  rw [show (some 4607182418800017408 : Option Nat).bind (stepC l) = stepC l 4607182418800017408 from rfl, this] at hc
  cases hc
/-- one twice -/
theorem ck_twice {l : List Rg} {r : Rg} (h : r ∈ l) : ¬ ck (l ++ [r]) = 0 := by
  intro g
  rw [ck_ok] at g
  obtain ⟨_, _, _, hn, _⟩ := g
  rw [List.map_append, List.nodup_append] at hn
  exact hn.2.2 r.id (List.mem_map.2 ⟨r, h, rfl⟩) r.id (by simp) rfl
end Go.Proofs.Ytbclfcfcpmlaaaa
