/- Plain facts: reading back; no program in sight. -/
import Derived.Test.YtglddefjmnjgdaaEnc
import Derived.Test.YtglddefjmnjgdaaFlc
namespace Go.Proofs.Ytglddefjmnjgdaa
open Fl

/-- where a reader stands: the place, the fault, the fault's place -/
structure RS where
  at_ : Nat
  e : Int
  p : Nat
  deriving DecidableEq

/-- what groups of seven bits say -/
def val : List UInt8 → Nat
  | [] => 0
  | c :: t => c.toNat % 128 + 128 * val t
/-- the bytes up to the first that is below 128 -/
def grp : List UInt8 → Option (List UInt8)
  | [] => none
  | c :: t => if c.toNat < 128 then some [c] else (grp t).map (c :: ·)
def over (bs : List UInt8) : Bool := decide (10 < bs.length) || decide (18446744073709551616 ≤ val bs)
def good (bs : List UInt8) : Bool := !over bs && (decide (bs.length ≤ 1) || decide (bs.getLast? ≠ some 0))
def unzig (u : Nat) : Int := if u % 2 = 0 then ((u / 2 : Nat) : Int) else -((u / 2 : Nat) : Int) - 1
inductive Dec where
  | short
  | form
  | ok (n : Int) (next : Nat)
  deriving DecidableEq
def dec (l : List UInt8) (a : Nat) : Dec :=
  match grp (l.drop a) with
  | none => .short
  | some bs => if good bs then .ok (unzig (val bs)) (a + bs.length) else .form
def leV : List UInt8 → Nat
  | [] => 0
  | c :: t => c.toNat + 256 * leV t

def rFail (s : RS) (e : Int) (q : Nat) : RS := if s.e = 0 ∧ e ≠ 0 then ⟨s.at_, e, q⟩ else s
def rInt (l : List UInt8) (s : RS) : Int × RS :=
  if s.e ≠ 0 then (0, s) else
  match dec l s.at_ with
  | .short => (0, rFail s 5 l.length)
  | .form => (0, rFail s 4 s.at_)
  | .ok n next => (n, ⟨next, s.e, s.p⟩)
def rFlag (l : List UInt8) (s : RS) : Bool × RS :=
  if s.e ≠ 0 then (false, s) else
  match l[s.at_]? with
  | none => (false, rFail s 5 l.length)
  | some c => if 1 < c.toNat then (false, rFail s 4 s.at_) else (c.toNat == 1, ⟨s.at_ + 1, s.e, s.p⟩)
def rFloat (l : List UInt8) (s : RS) : Nat × RS :=
  if s.e ≠ 0 then (0, s) else
  if l.length - s.at_ < 8 then (0, rFail s 5 l.length) else
  let u := leV ((l.drop s.at_).take 8)
  if canonB u ≠ u then (0, rFail s 4 s.at_) else (u, ⟨s.at_ + 8, s.e, s.p⟩)
def rCount (l : List UInt8) (s : RS) (most e : Int) : Int × RS :=
  if s.e ≠ 0 then (0, s) else
  match dec l s.at_ with
  | .short => (0, rFail s 5 l.length)
  | .form => (0, rFail s 4 s.at_)
  | .ok n next => if n < 0 then (0, rFail s 4 s.at_) else if most < n then (0, rFail s e s.at_) else (n, ⟨next, s.e, s.p⟩)
def rText (l : List UInt8) (s : RS) (most : Int) : List UInt8 × RS :=
  if s.e ≠ 0 then ([], s) else
  match dec l s.at_ with
  | .short => ([], rFail s 5 l.length)
  | .form => ([], rFail s 4 s.at_)
  | .ok n next => if n < 0 then ([], rFail s 4 s.at_) else if most < n then ([], rFail s 2 s.at_) else
    if (l.length : Int) - next < n then ([], rFail s 5 l.length) else ((l.drop next).take n.toNat, ⟨next + n.toNat, s.e, s.p⟩)
def rLeft (l : List UInt8) (s : RS) : Nat := if s.e ≠ 0 then 0 else l.length - s.at_
def rEnd (l : List UInt8) (s : RS) : Int × Nat := if s.e = 0 ∧ s.at_ < l.length then (6, s.at_) else (s.e, s.p)

theorem grp_val_lt : ∀ bs : List UInt8, val bs < 128 ^ bs.length := by
  intro bs
  induction bs with
  | nil => simp [val]
  | cons c t ih =>
    have : c.toNat % 128 < 128 := Nat.mod_lt _ (by omega)
    simp only [val, List.length_cons, Nat.pow_succ]
    omega
theorem val_snoc (pre : List UInt8) (c : UInt8) : val (pre ++ [c]) = val pre + 128 ^ pre.length * (c.toNat % 128) := by
  induction pre with
  | nil => simp [val]
  | cons d t ih =>
    simp only [List.cons_append, val, ih, List.length_cons, Nat.pow_succ]
    rw [Nat.mul_add, Nat.add_assoc, ← Nat.mul_assoc, Nat.mul_comm 128 (128 ^ t.length)]
theorem grp_enc : ∀ (k u : Nat) (r : List UInt8), u ≤ k → grp (encU u ++ r) = some (encU u) ∧ val (encU u) = u ∧ ((encU u).length ≤ 1 ∨ (encU u).getLast? ≠ some 0) := by
  intro k
  induction k with
  | zero =>
    intro u r h
    obtain rfl : u = 0 := by omega
    exact ⟨rfl, rfl, .inl (Nat.le_refl _)⟩
  | succ k ih =>
    intro u r h
    by_cases hs : u < 128
    · rw [encU_small hs]
      have e : u.toUInt8.toNat = u := by show u % 256 = u; omega
      refine ⟨?_, ?_, .inl (Nat.le_refl _)⟩
      · show (if _ then _ else _) = _
        rw [if_pos (by rw [e]; exact hs)]
      · simp only [val, e]; omega
    · obtain ⟨h1, h2, h3⟩ := ih (u / 128) r (by omega)
      rw [encU_big hs]
      have e : (u % 128 + 128).toUInt8.toNat = u % 128 + 128 := by show (u % 128 + 128) % 256 = _; omega
      refine ⟨?_, ?_, ?_⟩
      · show (if _ then _ else _) = _
        rw [if_neg (by rw [e]; omega)]
        show Option.map _ (grp (encU (u / 128) ++ r)) = _
        rw [h1]; rfl
      · simp only [val, h2, e]; omega
      · right
        cases hl : encU (u / 128) with
        | nil =>
          exfalso
          by_cases h5 : u / 128 < 128
          · rw [encU_small h5] at hl; cases hl
          · rw [encU_big h5] at hl; cases hl
        | cons d t =>
          rw [List.getLast?_cons_cons, ← hl]
          rcases h3 with h3 | h3
          · by_cases h5 : u / 128 < 128
            · rw [encU_small h5]
              intro h6
              have h7 : (u / 128).toUInt8 = 0 := by simpa using h6
              have h8 : (u / 128).toUInt8.toNat = 0 := by rw [h7]; rfl
              have h9 : (u / 128).toUInt8.toNat = u / 128 := by show u / 128 % 256 = _; omega
              omega
            · exfalso
              rw [encU_big h5] at h3
              cases h10 : encU (u / 128 / 128) with
              | nil => 
                by_cases h11 : u / 128 / 128 < 128
                · rw [encU_small h11] at h10; cases h10
                · rw [encU_big h11] at h10; cases h10
              | cons _ _ => rw [h10] at h3; simp at h3
          · exact h3

theorem grp_some : ∀ {r bs : List UInt8}, grp r = some bs → ∃ pre c, bs = pre ++ [c] ∧ c.toNat < 128 ∧ (∀ d ∈ pre, 128 ≤ d.toNat) ∧ r = bs ++ r.drop bs.length ∧ grp bs = some bs := by
  intro r
  induction r with
  | nil => intro bs h; cases h
  | cons c t ih =>
    intro bs h
    by_cases hc : c.toNat < 128
    · have e : grp (c :: t) = some [c] := by show (if _ then _ else _) = _; rw [if_pos hc]
      rw [e] at h
      obtain rfl := Option.some.inj h
      refine ⟨[], c, rfl, hc, by simp, rfl, ?_⟩
      show (if _ then _ else _) = _
      rw [if_pos hc]
    · have e : grp (c :: t) = (grp t).map (c :: ·) := by show (if _ then _ else _) = _; rw [if_neg hc]
      rw [e] at h
      cases ht : grp t with
      | none => rw [ht] at h; cases h
      | some b =>
        rw [ht] at h
        obtain rfl := Option.some.inj h
        obtain ⟨pre, d, rfl, hd, hp, hr, hg⟩ := ih ht
        refine ⟨c :: pre, d, rfl, hd, ?_, ?_, ?_⟩
        · intro x hx
          rcases List.mem_cons.1 hx with rfl | hx
          · omega
          · exact hp x hx
        · show c :: t = (c :: (pre ++ [d])) ++ List.drop ((pre ++ [d]).length + 1) (c :: t)
          rw [List.drop_succ_cons]
          show c :: t = c :: ((pre ++ [d]) ++ _)
          rw [← hr]
        · show (if _ then _ else _) = _
          rw [if_neg hc]
          show Option.map _ (grp (pre ++ [d])) = _
          rw [hg]; rfl
theorem grp_none_iff : ∀ (r : List UInt8), grp r = none ↔ ∀ c ∈ r, 128 ≤ c.toNat := by
  intro r
  induction r with
  | nil => simp [grp]
  | cons c t ih =>
    by_cases hc : c.toNat < 128
    · have e : grp (c :: t) = some [c] := by show (if _ then _ else _) = _; rw [if_pos hc]
      rw [e]
      constructor
      · intro h; cases h
      · intro h; have := h c (by simp); omega
    · have e : grp (c :: t) = (grp t).map (c :: ·) := by show (if _ then _ else _) = _; rw [if_neg hc]
      rw [e, Option.map_eq_none_iff, ih]
      constructor
      · intro h x hx
        rcases List.mem_cons.1 hx with rfl | hx
        · omega
        · exact h x hx
      · intro h x hx; exact h x (by simp [hx])
theorem enc_val : ∀ bs : List UInt8, grp bs = some bs → (bs.length ≤ 1 ∨ bs.getLast? ≠ some 0) → encU (val bs) = bs := by
  intro bs
  induction bs with
  | nil => intro h; cases h
  | cons c t ih =>
    intro h hl
    have hcl : c.toNat < 256 := c.toNat_lt
    by_cases hc : c.toNat < 128
    · have e : grp (c :: t) = some [c] := by show (if _ then _ else _) = _; rw [if_pos hc]
      rw [e] at h
      obtain rfl : t = [] := by have := Option.some.inj h; simp at this; exact this
      have e2 : val [c] = c.toNat := by simp only [val]; omega
      rw [e2, encU_small hc]
      congr 1
      apply UInt8.toNat_inj.1
      show c.toNat % 256 = _
      omega
    · have e : grp (c :: t) = (grp t).map (c :: ·) := by show (if _ then _ else _) = _; rw [if_neg hc]
      rw [e] at h
      cases ht : grp t with
      | none => rw [ht] at h; cases h
      | some b =>
        rw [ht] at h
        have hb : b = t := by have := Option.some.inj h; simpa using this
        subst hb
        have hne : b ≠ [] := by intro e; subst e; cases ht
        obtain ⟨d, b', rfl⟩ : ∃ d b', b = d :: b' := by cases b with | nil => exact absurd rfl hne | cons d b' => exact ⟨d, b', rfl⟩
        have hl2 : (d :: b').getLast? ≠ some 0 := by
          rcases hl with hl | hl
          · simp at hl
          · rwa [List.getLast?_cons_cons] at hl
        have hi := ih ht (.inr hl2)
        have hpos : 0 < val (d :: b') := by
          obtain ⟨pre, x, e3, _, _, _, _⟩ := grp_some ht
          rw [e3, val_snoc]
          have hx : x ≠ 0 := by
            intro e4; rw [e3, e4] at hl2; simp at hl2
          have hx2 : 0 < x.toNat := by
            rcases Nat.eq_zero_or_pos x.toNat with h0 | h0
            · exact absurd (UInt8.toNat_inj.1 (by rw [h0]; rfl)) hx
            · exact h0
          have hxm : 0 < x.toNat % 128 := by omega
          have := Nat.mul_pos (Nat.pow_pos (n := pre.length) (show 0 < 128 by omega)) hxm
          omega
        have ev : val (c :: d :: b') = c.toNat % 128 + 128 * val (d :: b') := rfl
        rw [encU_big (by rw [ev]; omega)]
        have e5 : val (c :: d :: b') / 128 = val (d :: b') := by rw [ev]; omega
        have e6 : (val (c :: d :: b') % 128 + 128).toUInt8 = c := by
          apply UInt8.toNat_inj.1
          show (val (c :: d :: b') % 128 + 128) % 256 = c.toNat
          rw [ev]; omega
        rw [e5, e6, hi]
theorem unzig_zig {n : Int} (h1 : -9223372036854775808 ≤ n) (h2 : n ≤ 9223372036854775807) : unzig (zig n) = n := by
  unfold unzig zig
  split <;> split <;> omega
theorem zig_unzig (u : Nat) : zig (unzig u) = u := by
  unfold unzig zig
  split <;> split <;> omega
theorem unzig_ok {u : Nat} (h : u < 18446744073709551616) : -9223372036854775808 ≤ unzig u ∧ unzig u ≤ 9223372036854775807 := by
  unfold unzig
  split <;> omega
theorem good_enc {u : Nat} (h : u < 18446744073709551616) : good (encU u) = true := by
  obtain ⟨_, h2, h3⟩ := grp_enc u u [] (Nat.le_refl _)
  have hl : (encU u).length ≤ 10 := encU_len u (by omega) (by omega)
  unfold good over
  rw [h2]
  simp only [Bool.and_eq_true, Bool.not_eq_true', Bool.or_eq_false_iff, decide_eq_false_iff_not, Bool.or_eq_true, decide_eq_true_eq]
  exact ⟨⟨by omega, by omega⟩, h3⟩
theorem enc_good {bs : List UInt8} (h : grp bs = some bs) (hg : good bs = true) : encU (val bs) = bs ∧ val bs < 18446744073709551616 := by
  unfold good over at hg
  simp only [Bool.and_eq_true, Bool.not_eq_true', Bool.or_eq_false_iff, decide_eq_false_iff_not, Bool.or_eq_true, decide_eq_true_eq] at hg
  exact ⟨enc_val bs h hg.2, by omega⟩
theorem dec_enc (pre r : List UInt8) {n : Int} (h1 : -9223372036854775808 ≤ n) (h2 : n ≤ 9223372036854775807) : dec (pre ++ encI n ++ r) pre.length = .ok n (pre.length + (encI n).length) := by
  unfold dec encI
  rw [List.append_assoc, List.drop_left' rfl]
  obtain ⟨h3, h4, _⟩ := grp_enc (zig n) (zig n) r (Nat.le_refl _)
  rw [h3]
  simp only
  rw [if_pos (good_enc (zig_lt h1 h2)), h4, unzig_zig h1 h2]
theorem dec_ok {l : List UInt8} {a next : Nat} {n : Int} (h : dec l a = .ok n next) :
    l.drop a = encI n ++ l.drop next ∧ next = a + (encI n).length ∧ a < next ∧ next ≤ l.length ∧ -9223372036854775808 ≤ n ∧ n ≤ 9223372036854775807 := by
  unfold dec at h
  cases hg : grp (l.drop a) with
  | none => rw [hg] at h; cases h
  | some bs =>
    rw [hg] at h
    simp only at h
    by_cases hgd : good bs = true
    · rw [if_pos hgd] at h
      injection h with e1 e2
      obtain ⟨pre, c, e3, _, _, hr, hgb⟩ := grp_some hg
      obtain ⟨h4, h5⟩ := enc_good hgb hgd
      have e6 : encI n = bs := by unfold encI; rw [← e1, zig_unzig, h4]
      have hu := unzig_ok h5
      rw [e1] at hu
      have hlen : bs.length = pre.length + 1 := by rw [e3]; simp
      have hle : bs.length ≤ (l.drop a).length := by rw [hr, List.length_append]; omega
      rw [List.length_drop] at hle
      rw [e6]
      refine ⟨?_, e2.symm, by omega, by omega, hu.1, hu.2⟩
      rw [← e2, ← List.drop_drop]
      exact hr
    · rw [if_neg hgd] at h; cases h
end Go.Proofs.Ytglddefjmnjgdaa
