/- Plain law: what a stable sort by blocks, insertion and symMerge does to a row. -/
import Derived.KernelRfl
import Derived.Test.YtipacjbegfingaaGreatYaah
namespace Go.Proofs.YtipacjbegfingaaGreat
/-- a strict order, by its 'less' -/
structure Lin {α : Type} (lt : α → α → Bool) : Prop where
  to : ∀ a b, lt a b = true → lt b a = false
  tr : ∀ a b c, lt b a = false → lt c b = false → lt c a = false
theorem Lin.self {α : Type} {lt : α → α → Bool} (h : Lin lt) (a : α) : lt a a = false := by
  cases e : lt a a
  · rfl
  · have := h.to a a e; rw [e] at this; cases this
section
variable {α : Type}
/-- two of a row change places -/
def sw (f : Nat → α) (i j : Nat) : Nat → α := fun k => if k = i then f j else if k = j then f i else f k
/-- a row, turned within [a, b) -/
def Pm (a b : Nat) (f g : Nat → α) : Prop := ∃ p q : Nat → Nat, (∀ k, q (p k) = k) ∧ (∀ k, p (q k) = k) ∧ (∀ k, k < a ∨ b ≤ k → p k = k) ∧ ∀ k, g k = f (p k)
theorem Pm.refl (a b : Nat) (f : Nat → α) : Pm a b f f := ⟨id, id, fun _ => rfl, fun _ => rfl, fun _ _ => rfl, fun _ => rfl⟩
theorem Pm.trans {a b : Nat} {f g h : Nat → α} (x : Pm a b f g) (y : Pm a b g h) : Pm a b f h := by
  obtain ⟨p, q, h1, h2, h3, h4⟩ := x
  obtain ⟨p', q', k1, k2, k3, k4⟩ := y
  exact ⟨fun k => p (p' k), fun k => q' (q k), fun k => by simp only [h1, k1], fun k => by simp only [k2, h2], fun k hk => by simp only [k3 k hk, h3 k hk], fun k => by rw [k4, h4]⟩
theorem Pm.wide {a b a' b' : Nat} {f g : Nat → α} (x : Pm a b f g) (ha : a' ≤ a) (hb : b ≤ b') : Pm a' b' f g := by
  obtain ⟨p, q, h1, h2, h3, h4⟩ := x
  exact ⟨p, q, h1, h2, fun k hk => h3 k (by omega), h4⟩
theorem Pm.swap {a b i j : Nat} (f : Nat → α) (hi : a ≤ i) (hi2 : i < b) (hj : a ≤ j) (hj2 : j < b) : Pm a b f (sw f i j) := by
  refine ⟨fun k => if k = i then j else if k = j then i else k, fun k => if k = i then j else if k = j then i else k, ?_, ?_, ?_, ?_⟩
  · intro k
    by_cases h1 : k = i
    · subst h1
      simp only [if_true]
      by_cases h2 : j = k
      · simp [h2]
      · simp [h2]
    · by_cases h2 : k = j
      · subst h2; simp [h1]
      · simp [h1, h2]
  · intro k
    by_cases h1 : k = i
    · subst h1
      simp only [if_true]
      by_cases h2 : j = k
      · simp [h2]
      · simp [h2]
    · by_cases h2 : k = j
      · subst h2; simp [h1]
      · simp [h1, h2]
  · intro k hk
    have h1 : ¬ k = i := by omega
    have h2 : ¬ k = j := by omega
    simp [h1, h2]
  · intro k
    show sw f i j k = f (if k = i then j else if k = j then i else k)
    unfold sw
    by_cases h1 : k = i
    · rw [if_pos h1, if_pos h1]
    · rw [if_neg h1, if_neg h1]
      by_cases h2 : k = j
      · rw [if_pos h2, if_pos h2]
      · rw [if_neg h2, if_neg h2]
theorem Pm.out {a b : Nat} {f g : Nat → α} (x : Pm a b f g) (k : Nat) (hk : k < a ∨ b ≤ k) : g k = f k := by
  obtain ⟨p, q, h1, h2, h3, h4⟩ := x
  rw [h4, h3 k hk]
theorem Pm.inn {a b : Nat} {f g : Nat → α} (x : Pm a b f g) (k : Nat) (h : a ≤ k) (h' : k < b) : ∃ i, a ≤ i ∧ i < b ∧ g k = f i := by
  obtain ⟨p, q, h1, h2, h3, h4⟩ := x
  refine ⟨p k, ?_, ?_, h4 k⟩
  · rcases Nat.lt_or_ge (p k) a with hl | hl
    · have e := h3 (p k) (.inl hl)
      have := congrArg q e
      rw [h1, h1] at this; omega
    · exact hl
  · rcases Nat.lt_or_ge (p k) b with hl | hl
    · exact hl
    · have e := h3 (p k) (.inr hl)
      have := congrArg q e
      rw [h1, h1] at this; omega
/-- ranges change places -/
def srF (f : Nat → α) (a b n : Nat) : Nat → α := fun k => if a ≤ k ∧ k < a + n then f (k - a + b) else if b ≤ k ∧ k < b + n then f (k - b + a) else f k
theorem srF_zero (f : Nat → α) (a b : Nat) : srF f a b 0 = f := by
  funext k
  unfold srF
  rw [if_neg (by omega), if_neg (by omega)]
theorem srF_step (f : Nat → α) {a b n : Nat} (h : a + n < b) : srF f a b (n + 1) = sw (srF f a b n) (a + n) (b + n) := by
  funext k
  unfold sw srF
  by_cases h1 : k = a + n
  · subst h1
    rw [if_pos (by omega), if_pos rfl, if_neg (by omega), if_neg (by omega)]
    congr 1; omega
  · rw [if_neg h1]
    by_cases h2 : k = b + n
    · subst h2
      rw [if_neg (by omega), if_pos (by omega), if_pos rfl, if_neg (by omega), if_neg (by omega)]
      congr 1; omega
    · rw [if_neg h2]
      by_cases h3 : a ≤ k ∧ k < a + n
      · rw [if_pos (by omega), if_pos h3]
      · rw [if_neg (by omega), if_neg h3]
        by_cases h4 : b ≤ k ∧ k < b + n
        · rw [if_pos (by omega), if_pos h4]
        · rw [if_neg (by omega), if_neg h4]
theorem srF_pm (f : Nat → α) {a b n lo hi : Nat} (h : a + n ≤ b) (h1 : lo ≤ a) (h2 : b + n ≤ hi) : Pm lo hi f (srF f a b n) := by
  induction n with
  | zero => rw [srF_zero]; exact Pm.refl _ _ _
  | succ n ih =>
    rw [srF_step f (by omega)]
    exact (ih (by omega) (by omega)).trans (Pm.swap _ (by omega) (by omega) (by omega) (by omega))
/-- two blocks, one beside the other, change places -/
def roF (f : Nat → α) (a m b : Nat) : Nat → α := fun k => if a ≤ k ∧ k < a + (b - m) then f (k + (m - a)) else if a + (b - m) ≤ k ∧ k < b then f (k - (b - m)) else f k
theorem roF_none (f : Nat → α) {a m b : Nat} (h1 : a ≤ m) (h2 : m ≤ b) (h : a = m ∨ m = b) : roF f a m b = f := by
  funext k
  unfold roF
  by_cases h3 : a ≤ k ∧ k < a + (b - m)
  · rw [if_pos h3]; congr 1; omega
  · rw [if_neg h3]
    by_cases h4 : a + (b - m) ≤ k ∧ k < b
    · rw [if_pos h4]; congr 1; omega
    · rw [if_neg h4]
theorem roF_left (d : Nat → α) {m i j : Nat} (hi : i ≤ m) (h : j < i) : roF (srF d (m - i) m j) (m - (i - j)) m (m + j) = roF d (m - i) m (m + j) := by
  funext k
  unfold roF srF
  by_cases h1 : k < m - i
  · rw [if_neg (by omega), if_neg (by omega), if_neg (by omega), if_neg (by omega), if_neg (by omega), if_neg (by omega)]
  · by_cases h2 : k < m - i + j
    · rw [if_neg (by omega), if_neg (by omega), if_pos (by omega), if_pos (by omega)]
      congr 1; omega
    · by_cases h3 : k < m + j
      · rw [if_neg (c := m - i ≤ k ∧ k < m - i + (m + j - m)) (by omega), if_pos (c := m - i + (m + j - m) ≤ k ∧ k < m + j) (by omega)]
        by_cases h4 : k < m - (i - j) + j
        · rw [if_pos (by omega), if_neg (by omega), if_pos (by omega)]
          congr 1; omega
        · rw [if_neg (by omega), if_pos (by omega), if_neg (by omega), if_neg (by omega)]
      · rw [if_neg (by omega), if_neg (by omega), if_neg (by omega), if_neg (by omega), if_neg (by omega), if_neg (by omega)]
theorem roF_right (d : Nat → α) {m i j : Nat} (hi : i ≤ m) (h : i < j) : roF (srF d (m - i) (m + j - i) i) (m - i) m (m + (j - i)) = roF d (m - i) m (m + j) := by
  funext k
  unfold roF srF
  by_cases h1 : k < m - i
  · rw [if_neg (by omega), if_neg (by omega), if_neg (by omega), if_neg (by omega), if_neg (by omega), if_neg (by omega)]
  · by_cases h2 : k < m - i + (j - i)
    · rw [if_pos (by omega), if_neg (by omega)]
      by_cases h5 : m + j - i ≤ k + (m - (m - i)) ∧ k + (m - (m - i)) < m + j - i + i
      · omega
      · rw [if_neg h5, if_pos (by omega)]
    · by_cases h3 : k < m - i + j
      · rw [if_neg (by omega), if_pos (by omega), if_pos (by omega), if_pos (by omega)]
        congr 1; omega
      · by_cases h4 : k < m + j
        · rw [if_neg (by omega), if_neg (by omega), if_neg (by omega), if_pos (by omega), if_neg (by omega), if_pos (by omega)]
          congr 1; omega
        · rw [if_neg (by omega), if_neg (by omega), if_neg (by omega), if_neg (by omega), if_neg (by omega), if_neg (by omega)]
theorem roF_same (d : Nat → α) {m i : Nat} (hi : i ≤ m) : srF d (m - i) m i = roF d (m - i) m (m + i) := by
  funext k
  unfold roF srF
  by_cases h1 : m - i ≤ k ∧ k < m - i + i
  · rw [if_pos h1, if_pos (by omega)]; congr 1; omega
  · rw [if_neg h1, if_neg (c := m - i ≤ k ∧ k < m - i + (m + i - m)) (by omega)]
    by_cases h2 : m ≤ k ∧ k < m + i
    · rw [if_pos h2, if_pos (by omega)]; congr 1; omega
    · rw [if_neg h2, if_neg (by omega)]
theorem roF_pm (f : Nat → α) : ∀ (n a m b : Nat), b - a ≤ n → a ≤ m → m ≤ b → Pm a b f (roF f a m b) := by
  suffices hq : ∀ (n m i j : Nat) (f : Nat → α), i + j ≤ n → i ≤ m → Pm (m - i) (m + j) f (roF f (m - i) m (m + j)) by
    intro n a m b _ h1 h2
    have := hq (m - a + (b - m)) m (m - a) (b - m) f (Nat.le_refl _) (by omega)
    rwa [show m - (m - a) = a by omega, show m + (b - m) = b by omega] at this
  intro n
  induction n with
  | zero => intro m i j f h hi; rw [roF_none f (by omega) (by omega) (by omega)]; exact Pm.refl _ _ _
  | succ n ih =>
    intro m i j f h hi
    by_cases h0 : i = 0 ∨ j = 0
    · rw [roF_none f (by omega) (by omega) (by omega)]; exact Pm.refl _ _ _
    · rcases Nat.lt_trichotomy i j with hl | he | hl
      · rw [← roF_right f hi hl]
        exact (srF_pm f (by omega) (by omega) (by omega)).trans ((ih m i (j - i) _ (by omega) hi).wide (by omega) (by omega))
      · subst he
        rw [← roF_same f hi]
        exact srF_pm f (by omega) (by omega) (by omega)
      · rw [← roF_left f hi hl]
        exact (srF_pm f (by omega) (by omega) (by omega)).trans ((ih m (i - j) j _ (by omega) (by omega)).wide (by omega) (by omega))
/-- the first of a block brought behind it, step by step -/
theorem roF_first (f : Nat → α) (a k : Nat) (h : a ≤ k) : roF f a (a + 1) (k + 2) = sw (roF f a (a + 1) (k + 1)) k (k + 1) := by
  funext x
  unfold sw roF
  by_cases h1 : x = k
  · subst h1
    rw [if_pos (by omega), if_pos rfl, if_neg (by omega), if_neg (by omega)]
    congr 1; omega
  · rw [if_neg h1]
    by_cases h2 : x = k + 1
    · subst h2
      rw [if_neg (by omega), if_pos (by omega), if_pos rfl, if_neg (by omega), if_pos (by omega)]
      congr 1; omega
    · rw [if_neg h2]
      by_cases h3 : a ≤ x ∧ x < k
      · rw [if_pos (by omega), if_pos (by omega)]
      · rw [if_neg (by omega), if_neg (by omega), if_neg (by omega), if_neg (by omega)]
/-- the last of a block brought ahead of it -/
theorem roF_last (f : Nat → α) (k m : Nat) (h0 : 0 < k) (h : k ≤ m) : roF f (k - 1) m (m + 1) = sw (roF f k m (m + 1)) k (k - 1) := by
  funext x
  unfold sw roF
  by_cases h1 : x = k
  · subst h1
    rw [if_neg (by omega), if_pos (by omega), if_pos rfl, if_neg (by omega), if_neg (by omega)]
    congr 1; omega
  · rw [if_neg h1]
    by_cases h2 : x = k - 1
    · subst h2
      rw [if_pos (by omega), if_pos rfl, if_pos (by omega)]
      congr 1; omega
    · rw [if_neg h2, if_neg (c := k - 1 ≤ x ∧ x < k - 1 + (m + 1 - m)) (by omega), if_neg (c := k ≤ x ∧ x < k + (m + 1 - m)) (by omega)]
      by_cases h3 : k < x ∧ x < m + 1
      · rw [if_pos (by omega), if_pos (by omega)]
      · rw [if_neg (by omega), if_neg (by omega)]
end
section
variable {α : Type} {lt : α → α → Bool}
/-- a row rises within [a, b) -/
def Srt (lt : α → α → Bool) (f : Nat → α) (a b : Nat) : Prop := ∀ i j, a ≤ i → i ≤ j → j < b → lt (f j) (f i) = false
theorem Srt.sub {f : Nat → α} {a b a' b' : Nat} (h : Srt lt f a b) (h1 : a ≤ a') (h2 : b' ≤ b) : Srt lt f a' b' := fun i j hi hij hj => h i j (by omega) hij (by omega)
theorem Srt.same {f g : Nat → α} {a b : Nat} (h : Srt lt f a b) (e : ∀ k, a ≤ k → k < b → g k = f k) : Srt lt g a b := fun i j hi hij hj => by
  rw [e i hi (by omega), e j (by omega) hj]; exact h i j hi hij hj
theorem Srt.shift {f g : Nat → α} {a b n : Nat} (h : Srt lt f (a + n) (b + n)) (e : ∀ k, a ≤ k → k < b → g k = f (k + n)) : Srt lt g a b := fun i j hi hij hj => by
  rw [e i hi (by omega), e j (by omega) hj]; exact h _ _ (by omega) (by omega) (by omega)
theorem Srt.one (hL : Lin lt) (f : Nat → α) {a b : Nat} (h : b ≤ a + 1) : Srt lt f a b := fun i j hi hij hj => by
  obtain rfl : i = j := by omega
  exact hL.self _
/-- two that rise, all of one below all of the other -/
theorem Srt.join {f : Nat → α} {a m b : Nat} (h1 : Srt lt f a m) (h2 : Srt lt f m b) (h3 : ∀ i j, a ≤ i → i < m → m ≤ j → j < b → lt (f j) (f i) = false) : Srt lt f a b := fun i j hi hij hj => by
  by_cases e1 : j < m
  · exact h1 i j hi hij e1
  · by_cases e2 : m ≤ i
    · exact h2 i j e2 hij hj
    · exact h3 i j hi (by omega) (by omega) hj
/-- an inserted one, under way -/
def Ins (lt : α → α → Bool) (d : Nat → α) (a j i : Nat) : Prop := ∀ p q, a ≤ p → p ≤ q → q ≤ i → q ≠ j ∨ p = q → lt (d q) (d p) = false
theorem ins_start (hL : Lin lt) {d : Nat → α} {a i : Nat} (h : Srt lt d a i) : Ins lt d a i i := fun p q hp hpq hq hn => by
  by_cases e : p = q
  · rw [e]; exact hL.self _
  · exact h p q hp hpq (by omega)
theorem ins_step (hL : Lin lt) {d : Nat → α} {a j i : Nat} (h : Ins lt d a j i) (ha : a < j) (hj : j ≤ i) (hl : lt (d j) (d (j - 1)) = true) : Ins lt (sw d j (j - 1)) a (j - 1) i := fun p q hp hpq hq hn => by
  by_cases e : p = q
  · rw [e]; exact hL.self _
  · have hq1 : q ≠ j - 1 := by omega
    unfold sw
    by_cases q1 : q = j
    · rw [if_pos q1]
      by_cases p1 : p = j - 1
      · rw [if_neg (by omega), if_pos p1]; exact hL.to _ _ hl
      · rw [if_neg (by omega), if_neg p1]; exact h p (j - 1) hp (by omega) (by omega) (.inl (by omega))
    · rw [if_neg q1, if_neg hq1]
      by_cases p1 : p = j
      · rw [if_pos p1]; exact h (j - 1) q (by omega) (by omega) hq (.inl q1)
      · rw [if_neg p1]
        by_cases p2 : p = j - 1
        · rw [if_pos p2]; exact h j q (by omega) (by omega) hq (.inl q1)
        · rw [if_neg p2]; exact h p q hp hpq hq (.inl q1)
theorem ins_end (hL : Lin lt) {d : Nat → α} {a j i : Nat} (h : Ins lt d a j i) (ha : a ≤ j) (hj : j ≤ i) (he : j = a ∨ lt (d j) (d (j - 1)) = false) : Srt lt d a (i + 1) := fun p q hp hpq hq => by
  by_cases e : q ≠ j ∨ p = q
  · exact h p q hp hpq (by omega) e
  · obtain ⟨rfl, hne⟩ : q = j ∧ p ≠ q := by constructor <;> omega
    rcases he with he | he
    · omega
    · have h1 := h p (q - 1) hp (by omega) (by omega) (.inl (by omega))
      exact hL.tr _ _ _ h1 he
/-- one brought into a block behind it -/
theorem srt_first (hL : Lin lt) {f : Nat → α} {a b i : Nat} (h : Srt lt f (a + 1) b) (h1 : a + 1 ≤ i) (h2 : i ≤ b) (hb : i = a + 1 ∨ lt (f (i - 1)) (f a) = true) (ha : i = b ∨ lt (f i) (f a) = false) : Srt lt (roF f a (a + 1) i) a b := by
  have e1 : ∀ k, a ≤ k → k < i - 1 → roF f a (a + 1) i k = f (k + 1) := fun k h3 h4 => by
    unfold roF; rw [if_pos (by omega)]; congr 1; omega
  have e2 : roF f a (a + 1) i (i - 1) = f a := by
    unfold roF; rw [if_neg (by omega), if_pos (by omega)]; congr 1; omega
  have e3 : ∀ k, i ≤ k → roF f a (a + 1) i k = f k := fun k h3 => by
    unfold roF; rw [if_neg (by omega), if_neg (by omega)]
  refine Srt.join (m := i - 1) (Srt.shift (n := 1) (h.sub (by omega) (by omega)) e1) (Srt.join (m := i) (Srt.one hL _ (by omega)) ((h.sub (by omega) (by omega)).same fun k h3 _ => e3 k h3) ?_) ?_
  · intro p q hp hp2 hq hq2
    obtain rfl : p = i - 1 := by omega
    rw [e2, e3 q hq]
    rcases ha with ha | ha
    · omega
    · exact hL.tr _ _ _ ha (h i q h1 hq hq2)
  · intro p q hp hp2 hq hq2
    rw [e1 p hp hp2]
    by_cases hq3 : q = i - 1
    · rw [hq3, e2]
      rcases hb with hb | hb
      · omega
      · exact hL.tr _ _ _ (h (p + 1) (i - 1) (by omega) (by omega) (by omega)) (hL.to _ _ hb)
    · rw [e3 q (by omega)]; exact h _ _ (by omega) (by omega) hq2
/-- one brought into a block ahead of it -/
theorem srt_last (hL : Lin lt) {f : Nat → α} {a m i : Nat} (h : Srt lt f a m) (h1 : a ≤ i) (h2 : i ≤ m) (hb : i = a ∨ lt (f m) (f (i - 1)) = false) (ha : i = m ∨ lt (f m) (f i) = true) : Srt lt (roF f i m (m + 1)) a (m + 1) := by
  have e1 : ∀ k, k < i → roF f i m (m + 1) k = f k := fun k h3 => by
    unfold roF; rw [if_neg (by omega), if_neg (by omega)]
  have e2 : roF f i m (m + 1) i = f m := by
    unfold roF; rw [if_pos (by omega)]; congr 1; omega
  have e3 : ∀ k, i + 1 ≤ k → k < m + 1 → roF f i m (m + 1) k = f (k - 1) := fun k h3 h4 => by
    unfold roF; rw [if_neg (by omega), if_pos (by omega)]; congr 1; omega
  intro p q hp hpq hq
  by_cases e : p = q
  · rw [e]; exact hL.self _
  · by_cases hp1 : p < i
    · rw [e1 p hp1]
      by_cases hq1 : q < i
      · rw [e1 q hq1]; exact h p q hp hpq (by omega)
      · by_cases hq2 : q = i
        · rw [hq2, e2]
          rcases hb with hb | hb
          · omega
          · exact hL.tr _ _ _ (h p (i - 1) hp (by omega) (by omega)) hb
        · rw [e3 q (by omega) hq]; exact h p (q - 1) hp (by omega) (by omega)
    · by_cases hp2 : p = i
      · rw [hp2, e2, e3 q (by omega) hq]
        rcases ha with ha | ha
        · omega
        · exact hL.tr _ _ _ (hL.to _ _ ha) (h i (q - 1) h1 (by omega) (by omega))
      · rw [e3 p (by omega) (by omega), e3 q (by omega) hq]; exact h _ _ (by omega) (by omega) (by omega)
/-- symMerge's cut: what is left of the middle lies below what is right of it -/
theorem sym_cut (hL : Lin lt) {f : Nat → α} {a m b s mid lo hi : Nat} (h1 : Srt lt f a m) (h2 : Srt lt f m b) (ham : a < m) (hmb : m < b) (hmid : mid = (a + b) / 2)
    (hlo : mid < m ∧ lo = mid + m - b ∧ hi = mid ∨ m ≤ mid ∧ lo = a ∧ hi = m) (hs1 : lo ≤ s) (hs2 : s ≤ hi)
    (hb : s = lo ∨ lt (f (mid + m - s)) (f (s - 1)) = false) (ha : s = hi ∨ lt (f (mid + m - 1 - s)) (f s) = true) :
    a ≤ s ∧ s ≤ mid ∧ mid ≤ mid + m - s ∧ mid + m - s ≤ b ∧ s ≤ m ∧ m ≤ mid + m - s ∧
    Srt lt (roF f s m (mid + m - s)) a s ∧ Srt lt (roF f s m (mid + m - s)) s mid ∧ Srt lt (roF f s m (mid + m - s)) mid (mid + m - s) ∧ Srt lt (roF f s m (mid + m - s)) (mid + m - s) b ∧
    ∀ i j, a ≤ i → i < mid → mid ≤ j → j < b → lt (roF f s m (mid + m - s) j) (roF f s m (mid + m - s) i) = false := by
  have g1 : a ≤ s := by omega
  have g2 : s ≤ mid := by omega
  have g3 : s ≤ m := by omega
  obtain ⟨e, he⟩ : ∃ e, mid + m - s = e := ⟨_, rfl⟩
  have g4 : mid ≤ e := by omega
  have g5 : e ≤ b := by omega
  have g6 : m ≤ e := by omega
  have hes : e + s = mid + m := by omega
  rw [show mid + m - 1 - s = e - 1 by omega] at ha
  rw [he] at hb ⊢
  clear he
  have e1 : ∀ k, k < s → roF f s m e k = f k := fun k h3 => by
    unfold roF; rw [if_neg (by omega), if_neg (by omega)]
  have e2 : ∀ k, s ≤ k → k < mid → roF f s m e k = f (k + (m - s)) := fun k h3 h4 => by
    unfold roF; rw [if_pos (by omega)]
  have e3 : ∀ k, mid ≤ k → k < e → roF f s m e k = f (k - (e - m)) := fun k h3 h4 => by
    unfold roF; rw [if_neg (by omega), if_pos (by omega)]
  have e4 : ∀ k, e ≤ k → roF f s m e k = f k := fun k h3 => by
    unfold roF; rw [if_neg (by omega), if_neg (by omega)]
  refine ⟨g1, g2, g4, g5, g3, g6, (h1.sub (by omega) g3).same fun k _ h4 => e1 k h4, Srt.shift (n := m - s) (h2.sub (by omega) (by omega)) e2, ?_, (h2.sub g6 (by omega)).same fun k h3 _ => e4 k h3, ?_⟩
  · intro i j hi' hij hj
    rw [e3 i hi' (by omega), e3 j (by omega) hj]
    exact h1 _ _ (by omega) (by omega) (by omega)
  · intro i j hi1 hi2 hj1 hj2
    by_cases i1 : i < s
    · rw [e1 i i1]
      by_cases j1 : j < e
      · rw [e3 j hj1 j1]; exact h1 _ _ hi1 (by omega) (by omega)
      · rw [e4 j (by omega)]
        rcases hb with hb | hb
        · omega
        · exact hL.tr _ _ _ (hL.tr _ _ _ (h1 i (s - 1) hi1 (by omega) (by omega)) hb) (h2 e j g6 (by omega) hj2)
    · rw [e2 i (by omega) hi2]
      by_cases j1 : j < e
      · rw [e3 j hj1 j1]
        rcases ha with ha | ha
        · omega
        · exact hL.tr _ _ _ (hL.tr _ _ _ (h2 _ (e - 1) (by omega) (by omega) (by omega)) (hL.to _ _ ha)) (h1 s _ g1 (by omega) (by omega))
      · rw [e4 j (by omega)]; exact h2 _ _ (by omega) (by omega) hj2
/-- and behind both halves all rises -/
theorem sym_end {f g g2 : Nat → α} {a mid b : Nat} (h1 : Srt lt g a mid) (hp1 : Pm a mid f g) (h2 : Srt lt g2 mid b) (hp2 : Pm mid b g g2) (hc : ∀ i j, a ≤ i → i < mid → mid ≤ j → j < b → lt (f j) (f i) = false) : Srt lt g2 a b := by
  refine Srt.join (m := mid) (h1.same fun k _ h5 => hp2.out k (.inl h5)) h2 fun i j hi hi2 hj hj2 => ?_
  obtain ⟨i', x1, x2, ei⟩ := hp1.inn i hi hi2
  obtain ⟨j', y1, y2, ej⟩ := hp2.inn j hj hj2
  rw [hp2.out i (.inl hi2), ei, ej, hp1.out j' (.inr y1)]
  exact hc i' j' x1 x2 y1 y2
/-- each block of so many rises -/
def Blks (lt : α → α → Bool) (f : Nat → α) (bs n : Nat) : Prop := ∀ k, Srt lt f (k * bs) (min ((k + 1) * bs) n)
/-- k blocks of size c are done, the rest is in blocks of size bs -/
def Phase (lt : α → α → Bool) (f : Nat → α) (bs c k n : Nat) : Prop := (∀ j, j < k → Srt lt f (j * c) (min ((j + 1) * c) n)) ∧ ∀ i, k * c ≤ i * bs → Srt lt f (i * bs) (min ((i + 1) * bs) n)
theorem phase_start {f : Nat → α} {bs n : Nat} (c : Nat) (h : Blks lt f bs n) : Phase lt f bs c 0 n := ⟨fun _ hj => absurd hj (Nat.not_lt_zero _), fun i _ => h i⟩
theorem phase_blocks {f : Nat → α} {bs k n : Nat} (h : Phase lt f bs (2 * bs) k n) : Srt lt f (k * (2 * bs)) (min (k * (2 * bs) + bs) n) ∧ Srt lt f (k * (2 * bs) + bs) (min (k * (2 * bs) + 2 * bs) n) := by
  have e : k * (2 * bs) = (2 * k) * bs := by rw [Nat.mul_comm 2 k, Nat.mul_assoc]
  have h1 := h.2 (2 * k) (by omega)
  have h2 := h.2 (2 * k + 1) (by rw [Nat.add_mul]; omega)
  rw [Nat.add_mul] at h1
  rw [Nat.add_mul, Nat.add_mul, Nat.add_mul] at h2
  rw [e]
  exact ⟨by simpa using h1, by
    have x : 2 * k * bs + 1 * bs + 1 * bs = 2 * k * bs + 2 * bs := by omega
    rw [x] at h2
    simpa using h2⟩
theorem phase_step {f g : Nat → α} {bs k n : Nat} (h : Phase lt f bs (2 * bs) k n) (hb : k * (2 * bs) + 2 * bs ≤ n) (hg : Srt lt g (k * (2 * bs)) (k * (2 * bs) + 2 * bs)) (hp : Pm (k * (2 * bs)) (k * (2 * bs) + 2 * bs) f g) : Phase lt g bs (2 * bs) (k + 1) n := by
  refine ⟨fun j hj => ?_, fun i hi => ?_⟩
  · by_cases e : j = k
    · subst e
      refine hg.sub (Nat.le_refl _) ?_
      rw [Nat.add_mul]; omega
    · have h1 : (j + 1) * (2 * bs) ≤ k * (2 * bs) := Nat.mul_le_mul_right _ (by omega)
      exact (h.1 j (by omega)).same fun x _ hx => hp.out x (.inl (by omega))
  · rw [Nat.add_mul] at hi
    exact (h.2 i (by omega)).same fun x hx _ => hp.out x (.inr (by omega))
theorem phase_end {f g : Nat → α} {bs k n : Nat} (h : Phase lt f bs (2 * bs) k n) (hb : n < k * (2 * bs) + 2 * bs) (hg : Srt lt g (k * (2 * bs)) n) (hp : Pm (k * (2 * bs)) n f g) : Blks lt g (2 * bs) n := fun j => by
  rcases Nat.lt_trichotomy j k with e | e | e
  · have h1 : (j + 1) * (2 * bs) ≤ k * (2 * bs) := Nat.mul_le_mul_right _ (by omega)
    exact (h.1 j e).same fun x _ hx => hp.out x (.inl (by omega))
  · subst e; exact hg.sub (Nat.le_refl _) (Nat.min_le_right _ _)
  · have h1 : (k + 1) * (2 * bs) ≤ j * (2 * bs) := Nat.mul_le_mul_right _ (by omega)
    rw [Nat.add_mul] at h1
    exact fun p q h2 h3 h4 => by omega
/-- the blocks of insertionSort -/
theorem first_step {f g : Nat → α} {bs k : Nat} (h : ∀ j, j < k → Srt lt f (j * bs) (j * bs + bs)) (hg : Srt lt g (k * bs) (k * bs + bs)) (hp : Pm (k * bs) (k * bs + bs) f g) : ∀ j, j < k + 1 → Srt lt g (j * bs) (j * bs + bs) := fun j hj => by
  by_cases e : j = k
  · subst e; exact hg
  · have h1 : (j + 1) * bs ≤ k * bs := Nat.mul_le_mul_right _ (by omega)
    rw [Nat.add_mul] at h1
    exact (h j (by omega)).same fun x _ hx => hp.out x (.inl (by omega))
theorem first_end {f g : Nat → α} {bs k n : Nat} (h : ∀ j, j < k → Srt lt f (j * bs) (j * bs + bs)) (hb : n < k * bs + bs) (hg : Srt lt g (k * bs) n) (hp : Pm (k * bs) n f g) : Blks lt g bs n := fun j => by
  rcases Nat.lt_trichotomy j k with e | e | e
  · have h1 : (j + 1) * bs ≤ k * bs := Nat.mul_le_mul_right _ (by omega)
    have h2 : (j + 1) * bs = j * bs + bs := by rw [Nat.add_mul, Nat.one_mul]
    exact ((h j e).sub (Nat.le_refl _) (by omega)).same fun x _ hx => hp.out x (.inl (by omega))
  · subst e; exact hg.sub (Nat.le_refl _) (Nat.min_le_right _ _)
  · have h1 : (k + 1) * bs ≤ j * bs := Nat.mul_le_mul_right _ (by omega)
    rw [Nat.add_mul] at h1
    exact fun p q h2 h3 h4 => by omega
theorem blks_all {f : Nat → α} {bs n : Nat} (h : Blks lt f bs n) (hn : n ≤ bs) : Srt lt f 0 n := by
  have := h 0
  rwa [Nat.zero_mul, Nat.zero_add, Nat.one_mul, Nat.min_eq_right hn] at this
/-- rows that rise strictly and hold the same are the same -/
theorem rise_eq {l m : List α} (hl : l.Pairwise fun a b => lt a b = true) (hm : m.Pairwise fun a b => lt a b = true) (hL : ∀ a, lt a a = false) (hA : ∀ a b, lt a b = true → lt b a = false) (h : ∀ x, x ∈ l ↔ x ∈ m) : l = m := by
  induction l generalizing m with
  | nil =>
    cases m with
    | nil => rfl
    | cons b m => exact absurd ((h b).2 (List.mem_cons_self ..)) (by simp)
  | cons a l ih =>
    cases m with
    | nil => exact absurd ((h a).1 (List.mem_cons_self ..)) (by simp)
    | cons b m =>
      obtain ⟨l1, l2⟩ := List.pairwise_cons.1 hl
      obtain ⟨m1, m2⟩ := List.pairwise_cons.1 hm
      have e : a = b := by
        rcases List.mem_cons.1 ((h a).1 (List.mem_cons_self ..)) with e | e
        · exact e
        · rcases List.mem_cons.1 ((h b).2 (List.mem_cons_self ..)) with e2 | e2
          · exact e2.symm
          · have x1 := m1 a e
            have x2 := l1 b e2
            rw [hA _ _ x1] at x2; cases x2
      subst e
      congr 1
      refine ih l2 m2 fun x => ⟨fun hx => ?_, fun hx => ?_⟩
      · rcases List.mem_cons.1 ((h x).1 (List.mem_cons_of_mem _ hx)) with e | e
        · have := l1 x hx; rw [e, hL] at this; cases this
        · exact e
      · rcases List.mem_cons.1 ((h x).2 (List.mem_cons_of_mem _ hx)) with e | e
        · have := m1 x hx; rw [e, hL] at this; cases this
        · exact e
end
end Go.Proofs.YtipacjbegfingaaGreat
/- A row that a sort turns about: elements by their places. -/
namespace Go.Proofs.YtipacjbegfingaaGreat
set_option linter.unusedVariables false
open Go.RowKit

/-- a block whose first elements are these -/
def RowF {α : Type} (cells : α → List Value) (E : Nat) (T : TypeId) (w : World) (g c n : Nat) (f : Nat → α) : Prop :=
  ∃ cur : Array Value, Blk w g T cur ∧ cur.size = c * E ∧ n ≤ c ∧ c ≤ maxLen ∧ ∀ k, k < n → ∀ j v, (cells (f k))[j]? = some v → cur[k * E + j]? = some v
/-- but for one block all is as it was, or new -/
structure At1 (w w' : World) (g : Nat) : Prop where
  os : w'.os = w.os
  tape : w'.tape = w.tape
  output : w'.output = w.output
  size : w.heap.size ≤ w'.heap.size
  block : ∀ k, k < w.heap.size → k ≠ g → w'.heap[k]? = w.heap[k]?
theorem At1.ofBelow {w w1 : World} (g : Nat) (h : Below w.heap.size w w1) : At1 w w1 g := ⟨h.os, h.tape, h.output, h.size, fun k hk _ => h.block k hk⟩
theorem At1.refl (w : World) (g : Nat) : At1 w w g := .ofBelow g (Below.refl _ _)
theorem At1.trans {w w1 w2 : World} {g : Nat} (h : At1 w w1 g) (k : At1 w1 w2 g) : At1 w w2 g :=
  ⟨k.os.trans h.os, k.tape.trans h.tape, k.output.trans h.output, Nat.le_trans h.size k.size, fun i hi h1 => (k.block i (Nat.lt_of_lt_of_le hi h.size) h1).trans (h.block i hi h1)⟩
theorem At1.below {w w1 w2 : World} {g : Nat} (h : At1 w w1 g) (k : Below w1.heap.size w1 w2) : At1 w w2 g := h.trans (.ofBelow g k)
theorem At1.under {w w1 : World} {g n : Nat} (h : At1 w w1 g) (hg : n ≤ g) (hn : n ≤ w.heap.size) : Below n w w1 := ⟨h.os, h.tape, h.output, h.size, fun k hk => h.block k (by omega) (by omega)⟩
theorem At1.cell {w w' : World} {g : Nat} (h : At1 w w' g) {p : Addr} (hp : p.block < w.heap.size) (hne : p.block ≠ g) : w'.cell? p = w.cell? p := World.cell?_of_block (h.block _ hp hne)
theorem At1.drew {w w' : World} {g : Nat} (h : At1 w w' g) : At1 w w'.drew g := ⟨h.os, h.tape, h.output, h.size, h.block⟩
theorem At1.drewN {w w' : World} {g : Nat} (h : At1 w w' g) (q : Nat) : At1 w (w'.drewN q) g := ⟨h.os, h.tape, h.output, h.size, h.block⟩
theorem At1.setCell {w w' : World} {g : Nat} (h : At1 w w' g) (o : Nat) (v : Value) : At1 w (w'.setCell ⟨g, o, none⟩ v) g :=
  ⟨h.os, h.tape, h.output, by simpa [World.setCell] using h.size, fun k hk hne => (Below.heap_setCell _ _ _ _ (by exact hne)).trans (h.block k hk hne)⟩
theorem At1.setCells {w : World} {g : Nat} : ∀ (vs : List Value) (o : Nat) {w' : World}, At1 w w' g → At1 w (w'.setCells g o vs) g := by
  intro vs
  induction vs with
  | nil => intro o w' h; exact h
  | cons v vs ih => intro o w' h; exact ih (o + 1) (h.setCell o v)
section
variable {α : Type} {cells : α → List Value} {E : Nat} {T : TypeId} {w w' : World} {g c n : Nat} {f : Nat → α}
theorem RowF.lt (h : RowF cells E T w g c n f) : g < w.heap.size := by obtain ⟨_, h, _⟩ := h; exact h.lt
theorem RowF.cap (h : RowF cells E T w g c n f) : n ≤ c ∧ c ≤ maxLen := by obtain ⟨_, _, _, h1, h2, _⟩ := h; exact ⟨h1, h2⟩
theorem RowF.get (h : RowF cells E T w g c n f) {k j : Nat} {v : Value} (hk : k < n) (hv : (cells (f k))[j]? = some v) : w.cell? ⟨g, k * E + j, none⟩ = some v := by
  obtain ⟨cur, h1, _, _, _, h5⟩ := h
  rw [h1.cell]; exact h5 k hk j v hv
theorem RowF.frozen (h : RowF cells E T w g c n f) (i : Nat) : w.frozen? ⟨g, i, none⟩ = false := by obtain ⟨cur, h1, _⟩ := h; exact h1.frozen i
theorem RowF.there (h : RowF cells E T w g c n f) {k : Nat} (hk : k < n) : w.there g (k * E) E := by
  obtain ⟨cur, h1, h2, h3, _⟩ := h
  refine h1.there _ _ ?_
  have : (k + 1) * E ≤ c * E := Nat.mul_le_mul_right _ (by omega)
  rw [Nat.add_mul, Nat.one_mul] at this
  omega
theorem RowF.below (h : RowF cells E T w g c n f) (hb : Below w.heap.size w w') : RowF cells E T w' g c n f := by
  obtain ⟨cur, h1, h2⟩ := h
  exact ⟨cur, h1.below hb h1.lt, h2⟩
theorem RowF.drew (h : RowF cells E T w g c n f) : RowF cells E T w.drew g c n f := h
theorem blk_setCells {g : Nat} {t : TypeId} : ∀ (vs : List Value) (o : Nat) {w : World} {cs : Array Value}, Blk w g t cs → ∃ cs', Blk (w.setCells g o vs) g t cs' ∧ cs'.size = cs.size := by
  intro vs
  induction vs with
  | nil => intro o w cs h; exact ⟨cs, h, rfl⟩
  | cons v vs ih =>
    intro o w cs h
    obtain ⟨cs', h1, h2⟩ := ih (o + 1) (h.set_ o v)
    exact ⟨cs', h1, by rw [h2]; simp⟩
theorem RowF.put (hE : ∀ a, (cells a).length = E) (h : RowF cells E T w g c n f) {i : Nat} (hi : i < n) (x : α) : RowF cells E T (w.setCells g (i * E) (cells x)) g c n (fun k => if k = i then x else f k) := by
  have ht := h.there hi
  obtain ⟨cur, h1, h2, h3, h4, h5⟩ := h
  obtain ⟨cs', k1, k2⟩ := blk_setCells (cells x) (i * E) h1
  refine ⟨cs', k1, by rw [k2, h2], h3, h4, fun k hk j v hv => ?_⟩
  rw [← k1.cell]
  have hj : j < E := by
    have := (List.getElem?_eq_some_iff.1 hv).1
    rwa [hE] at this
  have hv' : (cells (if k = i then x else f k))[j]? = some v := hv
  clear hv
  by_cases e : k = i
  · subst e
    rw [if_pos rfl] at hv'
    obtain ⟨hj2, e2⟩ := List.getElem?_eq_some_iff.1 hv'
    rw [World.cell?_setCells_in g (cells x) (k * E) w (fun j hj => (ht j (by rwa [hE] at hj)).1) j hj2, e2]
  · rw [if_neg e] at hv'
    rw [World.cell?_setCells_out, h1.cell]
    · exact h5 k hk j v hv'
    · intro _ _
      show k * E + j < i * E ∨ i * E + (cells x).length ≤ k * E + j
      rw [hE]
      rcases Nat.lt_or_gt_of_ne e with hlt | hgt
      · have : (k + 1) * E ≤ i * E := Nat.mul_le_mul_right _ hlt
        rw [Nat.add_mul, Nat.one_mul] at this; omega
      · have : (i + 1) * E ≤ k * E := Nat.mul_le_mul_right _ hgt
        rw [Nat.add_mul, Nat.one_mul] at this; omega
/-- two elements change places -/
theorem RowF.swap (hE : ∀ a, (cells a).length = E) (h : RowF cells E T w g c n f) {i j : Nat} (hi : i < n) (hj : j < n) : RowF cells E T ((w.setCells g (i * E) (cells (f j))).setCells g (j * E) (cells (f i))) g c n (sw f i j) := by
  have h2 := (h.put hE hi (f j)).put hE hj (f i)
  have e : (fun k => if k = j then f i else (fun k => if k = i then f j else f k) k) = sw f i j := by
    funext k
    unfold sw
    by_cases e1 : k = i
    · subst e1
      by_cases e2 : k = j
      · subst e2; simp
      · simp [e2]
    · by_cases e2 : k = j
      · subst e2; simp [e1]
      · simp [e1, e2]
  rw [e] at h2
  exact h2
end
section
variable {α : Type} {cells : α → List Value} {E : Nat} {T : TypeId} {w : World}
/-- a row of its own, by its places -/
theorem OwnL.rowF {base : Nat} {v : Value} {l : List α} (hk : 0 < E) (hE : ∀ a, (cells a).length = E) (h : OwnL cells T E base w v l) (d : α) (hl : 0 < l.length) : ∃ g c, v = .slice (some ⟨g, 0, none⟩) l.length c ∧ base ≤ g ∧ RowF cells E T w g c l.length (fun k => l.getD k d) := by
  obtain ⟨h1, h | ⟨g, c, cur, h2, h3, h4, h5, h6, h7, h8⟩⟩ := h
  · exact absurd h.2 (by omega)
  · refine ⟨g, c, h2, h3, cur, h4, h7, h5, h6, fun k hk2 j v hv => ?_⟩
    have hj : j < E := by
      have := (List.getElem?_eq_some_iff.1 hv).1
      rwa [hE] at this
    have h9 := flat_get cells E hk hE l k j hj
    rw [List.getElem?_eq_getElem hk2, Option.bind_some] at h9
    have e : l.getD k d = l[k] := by rw [List.getD_eq_getElem?_getD, List.getElem?_eq_getElem hk2]; rfl
    have hv' : (cells (l.getD k d))[j]? = some v := hv
    rw [e] at hv'
    rw [hv', ← h8, List.getElem?_take_of_lt (by
      have : (k + 1) * E ≤ l.length * E := Nat.mul_le_mul_right _ hk2
      rw [Nat.add_mul, Nat.one_mul] at this; omega), Array.getElem?_toList] at h9
    exact h9
theorem RowF.own {g c n : Nat} {f : Nat → α} (hk : 0 < E) (hE : ∀ a, (cells a).length = E) (h : RowF cells E T w g c n f) {base : Nat} (hb : base ≤ g) : OwnL cells T E base w (.slice (some ⟨g, 0, none⟩) n c) ((List.range n).map f) := by
  obtain ⟨cur, h1, h2, h3, h4, h5⟩ := h
  have hl : ((List.range n).map f).length = n := by simp
  refine ⟨by rw [flat_len cells E hE], .inr ⟨g, c, cur, by rw [hl], hb, h1, by rw [hl]; exact h3, h4, h2, ?_⟩⟩
  rw [hl]
  apply List.ext_getElem?
  intro x
  by_cases hx : x < n * E
  · have e : x / E * E + x % E = x := by rw [Nat.mul_comm]; exact Nat.div_add_mod x E
    have hj := Nat.mod_lt x hk
    have hkn : x / E < n := Nat.div_lt_of_lt_mul (by rw [Nat.mul_comm]; exact hx)
    rw [List.getElem?_take_of_lt hx, Array.getElem?_toList, ← e, flat_get cells E hk hE _ _ _ hj, List.getElem?_map, List.getElem?_range hkn, Option.map_some, Option.bind_some]
    have hj2 : x % E < (cells (f (x / E))).length := by rw [hE]; exact hj
    rw [h5 (x / E) hkn (x % E) _ (List.getElem?_eq_getElem hj2), List.getElem?_eq_getElem hj2]
  · rw [List.getElem?_eq_none (by rw [List.length_take]; omega), List.getElem?_eq_none (by rw [flat_len cells E hE, hl]; omega)]
end
end Go.Proofs.YtipacjbegfingaaGreat
