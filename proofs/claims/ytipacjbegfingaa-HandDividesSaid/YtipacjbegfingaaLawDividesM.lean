/- HandDivides: for any state, any float, any number and any two stamps the law returns true: Divide is what the document says, and its input stays. No condition. -/
import Derived.Test.YtipacjbegfingaaHw
import Derived.Test.YtipacjbegfingaaDj
import Derived.Test.YtipacjbegfingaaFj
import Derived.Test.YtipacjbegfingaaSo
import Derived.Test.YtipacjbegfingaaEs
import Derived.Test.YtipacjbegfingaaFrame
import Derived.Test.YtipacjbegfingaaDat
import Derived.SizedLaws
import Derived.WalkLawsBesides

/- What lists and states weigh: the document's WeighTexts, WeighHistories, WeighPendings, WeighState. -/
namespace Go.Proofs.Ytipacjbegfingaa
set_option linter.unusedVariables false
open Go.RowKit Fl

/-- a weighing in general: f adds an element, up to most -/
def weighG {α : Type} (f : α → Int → Int) (most : Int) : Int → List α → Int
  | n, [] => n
  | n, a :: l => if n ≤ most then weighG f most (f a n) l else n
section
variable {α : Type} {f : α → Int → Int} {most n : Int} {l : List α}
theorem weighG_drop {k : Nat} {a : α} (h : l[k]? = some a) (hn : n ≤ most) : weighG f most n (l.drop k) = weighG f most (f a n) (l.drop (k + 1)) := by
  have h1 := List.getElem?_eq_some_iff.1 h
  rw [List.drop_eq_getElem_cons h1.1, h1.2]
  show (if _ then _ else _) = _
  rw [if_pos hn]
theorem weighG_stop (l : List α) (hn : most < n) : weighG f most n l = n := by
  cases l with
  | nil => rfl
  | cons a l => show (if _ then _ else _) = _; rw [if_neg (by omega)]
theorem weighG_range (hf : ∀ a ∈ l, ∀ n, 0 ≤ n → n ≤ most → 0 ≤ f a n ∧ f a n ≤ 2 * most + 1) (h0 : 0 ≤ n) (h1 : n ≤ 2 * most + 1) : 0 ≤ weighG f most n l ∧ weighG f most n l ≤ 2 * most + 1 := by
  induction l generalizing n with
  | nil => exact ⟨h0, h1⟩
  | cons a l ih =>
    by_cases hn : n ≤ most
    · have e : weighG f most n (a :: l) = weighG f most (f a n) l := by show (if _ then _ else _) = _; rw [if_pos hn]
      rw [e]
      have := hf a (List.mem_cons_self ..) n h0 hn
      exact ih (fun b hb => hf b (List.mem_cons_of_mem _ hb)) this.1 this.2
    · rw [weighG_stop _ (by omega)]; exact ⟨h0, h1⟩
theorem weighG_le (P : α → Prop) (hf : ∀ a n, 0 ≤ n → n ≤ most → 0 ≤ f a n ∧ (f a n ≤ most → n + 1 ≤ f a n ∧ P a)) (h0 : 0 ≤ n) (h : weighG f most n l ≤ most) : n + (l.length : Int) ≤ most ∧ ∀ a ∈ l, P a := by
  induction l generalizing n with
  | nil => exact ⟨by simpa [weighG] using h, by simp⟩
  | cons a l ih =>
    by_cases hn : n ≤ most
    · have e : weighG f most n (a :: l) = weighG f most (f a n) l := by show (if _ then _ else _) = _; rw [if_pos hn]
      rw [e] at h
      obtain ⟨h1, h2⟩ := hf a n h0 hn
      obtain ⟨h3, h4⟩ := ih h1 h
      obtain ⟨h5, h6⟩ := h2 (by omega)
      refine ⟨by rw [List.length_cons]; omega, fun b hb => ?_⟩
      rcases List.mem_cons.1 hb with rfl | hb
      · exact h6
      · exact h4 b hb
    · rw [weighG_stop _ (by omega)] at h; omega
end
def stepT (most : Int) (a : ByteArray) (n : Int) : Int := fewI n (1 + (a.size : Int)) most
def weighT (most : Int) (l : List ByteArray) : Int := weighG (stepT most) most 0 l
def stepV (most : Int) (a : Vn) (n : Int) : Int := fewI n (1 + (a.v.t.size : Int)) most
def stepH (most : Int) (h : Hs) (n : Int) : Int := weighG (stepV most) most (fewI n (1 + (h.key.size : Int)) most) h.vs
def weighH (most : Int) (l : List Hs) : Int := weighG (stepH most) most 0 l
def stepP (most : Int) (p : Pn) (n : Int) : Int := fewI (fewI n (1 + weighT most p.r) most) (weighW most 0 p.w) most
def weighP (most : Int) (l : List Pn) : Int := weighG (stepP most) most 0 l
def weighS (most : Int) (s : Stt) : Int := fewI (weighH most s.h) (weighP most s.p) most
section
variable {most n : Int}
theorem stepT_range (a : ByteArray) (hm : 0 ≤ most) (h0 : 0 ≤ n) : 0 ≤ stepT most a n ∧ stepT most a n ≤ 2 * most + 1 ∧ (stepT most a n ≤ most → n + 1 ≤ stepT most a n) := by
  have := fewI_range (n := n) (more := 1 + (a.size : Int)) (most := most) h0 (by omega) hm
  unfold stepT
  exact ⟨this.1, this.2.1, fun h => by rw [this.2.2 h]; omega⟩
theorem stepV_range (a : Vn) (hm : 0 ≤ most) (h0 : 0 ≤ n) : 0 ≤ stepV most a n ∧ stepV most a n ≤ 2 * most + 1 ∧ (stepV most a n ≤ most → n + 1 ≤ stepV most a n) := by
  have := fewI_range (n := n) (more := 1 + (a.v.t.size : Int)) (most := most) h0 (by omega) hm
  unfold stepV
  exact ⟨this.1, this.2.1, fun h => by rw [this.2.2 h]; omega⟩
theorem weighT_range (l : List ByteArray) (hm : 0 ≤ most) : 0 ≤ weighT most l ∧ weighT most l ≤ 2 * most + 1 := weighG_range (fun a _ n h0 _ => ⟨(stepT_range a hm h0).1, (stepT_range a hm h0).2.1⟩) (by omega) (by omega)
theorem weighT_le {l : List ByteArray} (hm : 0 ≤ most) (h : weighT most l ≤ most) : (l.length : Int) ≤ most := by
  have := (weighG_le (f := stepT most) (fun _ => True) (fun a n h0 _ => ⟨(stepT_range a hm h0).1, fun h => ⟨(stepT_range a hm h0).2.2 h, trivial⟩⟩) (by omega) h).1
  omega
theorem stepH_range (a : Hs) (hm : 0 ≤ most) (h0 : 0 ≤ n) : 0 ≤ stepH most a n ∧ stepH most a n ≤ 2 * most + 1 ∧ (stepH most a n ≤ most → n + 1 ≤ stepH most a n ∧ (a.vs.length : Int) ≤ most) := by
  have h2 := fewI_range (n := n) (more := 1 + (a.key.size : Int)) (most := most) h0 (by omega) hm
  have h3 := weighG_range (f := stepV most) (most := most) (n := fewI n (1 + (a.key.size : Int)) most) (l := a.vs) (fun a _ n h0 _ => ⟨(stepV_range a hm h0).1, (stepV_range a hm h0).2.1⟩) h2.1 h2.2.1
  unfold stepH
  refine ⟨h3.1, h3.2, fun h => ?_⟩
  have h4 := (weighG_le (f := stepV most) (fun _ => True) (fun a n h0 _ => ⟨(stepV_range a hm h0).1, fun h => ⟨(stepV_range a hm h0).2.2 h, trivial⟩⟩) h2.1 h).1
  have h5 := h2.2.2 (by omega)
  have h6 : fewI n (1 + (a.key.size : Int)) most ≤ weighG (stepV most) most (fewI n (1 + (a.key.size : Int)) most) a.vs := by
    have up : ∀ (l : List Vn) (n : Int), 0 ≤ n → weighG (stepV most) most n l ≤ most → n ≤ weighG (stepV most) most n l := by
      intro l
      induction l with
      | nil => intro n _ _; exact Int.le_refl _
      | cons b l ih =>
        intro n hn hl
        by_cases hle : n ≤ most
        · have e : weighG (stepV most) most n (b :: l) = weighG (stepV most) most (stepV most b n) l := by show (if _ then _ else _) = _; rw [if_pos hle]
          rw [e] at hl ⊢
          have h7 := stepV_range b hm hn
          have h8 := ih _ h7.1 hl
          have h9 := h7.2.2 (by omega)
          omega
        · rw [weighG_stop _ (by omega)]; exact Int.le_refl _
    exact up _ _ h2.1 h
  omega
theorem weighH_range (l : List Hs) (hm : 0 ≤ most) : 0 ≤ weighH most l ∧ weighH most l ≤ 2 * most + 1 := weighG_range (fun a _ n h0 _ => ⟨(stepH_range a hm h0).1, (stepH_range a hm h0).2.1⟩) (by omega) (by omega)
theorem weighW_len {l : List Wt} (hm : 0 ≤ most) (h : weighW most 0 l ≤ most) : (l.length : Int) ≤ most := by
  have h1 := weighW_le l most 0 (by omega) hm h
  have h2 : (l.length : Int) ≤ (l.map fun a => 1 + (a.key.size : Int) + (a.v.t.size : Int)).sum := by
    clear h1 h
    induction l with
    | nil => simp
    | cons a l ih => simp only [List.map_cons, List.sum_cons, List.length_cons]; omega
  omega
theorem weighW_range : ∀ (l : List Wt) (n : Int), 0 ≤ most → 0 ≤ n → n ≤ 2 * most + 1 → 0 ≤ weighW most n l ∧ weighW most n l ≤ 2 * most + 1 := by
  intro l
  induction l with
  | nil => intro n _ h0 h1; exact ⟨h0, h1⟩
  | cons a l ih =>
    intro n hm h0 h1
    by_cases hle : n ≤ most
    · have e : weighW most n (a :: l) = weighW most (stepW most n a) l := by show (if _ then _ else _) = _; rw [if_pos hle]
      rw [e]
      have h2 := fewI_range (n := n) (more := 1 + (a.key.size : Int)) (most := most) h0 (by omega) hm
      have h3 := fewI_range (n := fewI n (1 + (a.key.size : Int)) most) (more := (a.v.t.size : Int)) (most := most) h2.1 (by omega) hm
      exact ih _ hm h3.1 h3.2.1
    · rw [weighW_stop _ (by omega)]; exact ⟨h0, h1⟩
theorem stepP_range (p : Pn) (hm : 0 ≤ most) (h0 : 0 ≤ n) : 0 ≤ stepP most p n ∧ stepP most p n ≤ 2 * most + 1 ∧ (stepP most p n ≤ most → n + 1 ≤ stepP most p n ∧ (p.r.length : Int) ≤ most ∧ (p.w.length : Int) ≤ most) := by
  have h1 := weighT_range p.r hm
  have h2 := weighW_range p.w 0 hm (by omega) (by omega)
  have h3 := fewI_range (n := n) (more := 1 + weighT most p.r) (most := most) h0 (by omega) hm
  have h4 := fewI_range (n := fewI n (1 + weighT most p.r) most) (more := weighW most 0 p.w) (most := most) h3.1 h2.1 hm
  unfold stepP
  refine ⟨h4.1, h4.2.1, fun h => ?_⟩
  have h5 := h4.2.2 h
  have h6 := h3.2.2 (by omega)
  exact ⟨by omega, weighT_le hm (by omega), weighW_len hm (by omega)⟩
theorem weighP_range (l : List Pn) (hm : 0 ≤ most) : 0 ≤ weighP most l ∧ weighP most l ≤ 2 * most + 1 := weighG_range (fun a _ n h0 _ => ⟨(stepP_range a hm h0).1, (stepP_range a hm h0).2.1⟩) (by omega) (by omega)
/-- a state that weighs no more than most is short -/
theorem weighS_small {s : Stt} (hm : 0 ≤ most) (hm1 : most ≤ 1000000) (h : weighS most s ≤ most) : SmallH s.h ∧ SmallP s.p := by
  unfold weighS at h
  have h1 := weighH_range s.h hm
  have h2 := weighP_range s.p hm
  have h3 := (fewI_range (n := weighH most s.h) (more := weighP most s.p) (most := most) h1.1 h2.1 hm).2.2 h
  have h4 : weighH most s.h ≤ most := by omega
  have h5 : weighP most s.p ≤ most := by omega
  obtain ⟨a1, a2⟩ := weighG_le (f := stepH most) (fun a => (a.vs.length : Int) ≤ most) (fun a n h0 _ => ⟨(stepH_range a hm h0).1, (stepH_range a hm h0).2.2⟩) (n := 0) (by omega) h4
  obtain ⟨b1, b2⟩ := weighG_le (f := stepP most) (fun p => (p.r.length : Int) ≤ most ∧ (p.w.length : Int) ≤ most) (fun a n h0 _ => ⟨(stepP_range a hm h0).1, (stepP_range a hm h0).2.2⟩) (n := 0) (by omega) h5
  exact ⟨⟨by omega, fun x hx => by have := a2 x hx; omega⟩, ⟨by omega, fun p hp => by have := b2 p hp; omega⟩⟩
end

def WeighGRel0 {α : Type} (f : α → Int → Int) (most : Int) (l : List α) (n0 : Int) (w : World) (s i : Value) (wr : World) : Prop :=
  ∃ (k : Nat) (n : Int), k ≤ l.length ∧ i = .int .i64 (k : Int) ∧ s = .int .i64 n ∧ 0 ≤ n ∧ n ≤ 2 * most + 1 ∧ weighG f most n (l.drop k) = weighG f most n0 l ∧ w = wr
def WeighGRel {α : Type} (f : α → Int → Int) (most : Int) (l : List α) (n0 : Int) (w : World) (s i : Value) (wr : World) : Prop :=
  ∃ (k q : Nat) (n : Int), k ≤ l.length ∧ i = .int .i64 (k : Int) ∧ s = .int .i64 n ∧ 0 ≤ n ∧ n ≤ 2 * most + 1 ∧ weighG f most n (l.drop k) = weighG f most n0 l ∧ w.drewN q = wr

set_option maxRecDepth 100000 in
set_option maxHeartbeats 4000000 in
theorem weighT_any (A : Option Addr) (n c : Nat) (l : List ByteArray) (most : Int) (w : World) (h : Sl KyRel 1 w w.heap.size A n l) (hn : n ≤ maxLen) (hm0 : 0 ≤ most) (hm1 : most ≤ 1000000) :
    Calls Try.prog 79 #[.slice A n c, .int .i64 most] w fun e w' => e = .returned (.int .i64 (weighT most l)) ∧ w = w' := by
  unfold maxLen at hn
  have hl := h.1
  have hle : l.length ≤ n := by omega
  have hge : n ≤ l.length := by omega
  clear hl
  go_enter Try.func79, Try.ntmps79
  go_wp2
  go_loopw [5, 6] (fun s i wr => WeighGRel0 (stepT most) most l 0 w s i wr) (fun _ i _ => n - (intOf i).toNat)
  case atStart => exact ⟨0, 0, by omega, rfl, rfl, by omega, by omega, rfl, rfl⟩
  case round =>
    obtain ⟨k, s, hk, rfl, rfl, hs0, hs1, hs, rfl⟩ := hrel
    by_cases hlt : k < n
    · have hd1 : decide ((k : Int) < (n : Int)) = true := by simp; omega
      by_cases hst : s ≤ most
      · obtain ⟨ad, a, rfl, ha, hbk, hok, c0⟩ := h.ky hlt
        have hd2 : decide (s ≤ most) = true := by simp [hst]
        have hk0 : (0 : Int) ≤ (k : Int) := by omega
        have hk1 : (k : Int) < (n : Int) := by omega
        rw [weighG_drop ha hst] at hs
        have HS := Lib.hid hs
        have hr1 := stepT_range (n := s) (most := most) a hm0 hs0
        have hr2 := hr1.1
        have hr3 := hr1.2.1
        have hwr : IntKind.i64.wrap (1 + (a.size : Int)) = 1 + (a.size : Int) := by rw [IntKind.wrap_i64]; omega
        clear hr1 ha hs
        go_wp2_with ((with_reducible refine (wfew _ _ _ _ (by omega) (by omega) (by omega) (by omega) hm0 (by omega)).mono ?_); rintro e w1 ⟨rfl, rfl⟩)
        go_roundw
        case rel => exact ⟨k + 1, stepT most a s, by omega, by go_num, rfl, hr2, hr3, HS.out, rfl⟩
        case measure => simp [intOf]; omega
      · have hd2 : decide (s ≤ most) = false := by simp; omega
        rw [weighG_stop _ (by omega)] at hs
        have HS := Lib.hid (show s = weighT most l from hs)
        clear hs
        go_wp2
        go_ret
        rw [← HS.out]
        exact ⟨rfl, rfl⟩
    · have hd1 : decide ((k : Int) < (n : Int)) = false := by simp; omega
      rw [List.drop_of_length_le (by omega)] at hs
      have HS : RowKit.Hid (s = weighT most l) := Lib.hid hs
      clear hs
      go_wp2
      go_ret
      rw [← HS.out]
      exact ⟨rfl, rfl⟩

def WeighV (most : Int) (l : List Vn) (m0 : Int) (w : World) (s i : Value) (wr : World) : Prop := WeighGRel0 (stepV most) most l m0 w s i wr
set_option maxRecDepth 100000 in
set_option maxHeartbeats 4000000 in
theorem weighH_any (A : Option Addr) (n c : Nat) (l : List Hs) (most : Int) (w : World) (h : Sl HsRel 2 w w.heap.size A n l) (hn : n ≤ maxLen) (hm0 : 0 ≤ most) (hm1 : most ≤ 1000000) :
    Calls Try.prog 56 #[.slice A n c, .int .i64 most] w fun e w' => e = .returned (.int .i64 (weighH most l)) ∧ w = w' := by
  unfold maxLen at hn
  have hl := h.1
  have hle : l.length ≤ n := by omega
  have hge : n ≤ l.length := by omega
  clear hl
  go_enter Try.func56, Try.ntmps56
  go_wp2
  go_loopw [5, 6] (fun s i wr => WeighGRel0 (stepH most) most l 0 w s i wr) (fun _ i _ => n - (intOf i).toNat)
  case atStart => exact ⟨0, 0, by omega, rfl, rfl, by omega, by omega, rfl, rfl⟩
  case round =>
    obtain ⟨k, s, hk, rfl, rfl, hs0, hs1, hs, rfl⟩ := hrel
    by_cases hlt : k < n
    · have hd1 : decide ((k : Int) < (n : Int)) = true := by simp; omega
      by_cases hst : s ≤ most
      · obtain ⟨ad, a, A', n', c', rfl, ha, hbk, hok, c0, c1, hn', hc', hsv⟩ := h.hs hlt
        have hd2 : decide (s ≤ most) = true := by simp [hst]
        have hk0 : (0 : Int) ≤ (k : Int) := by omega
        have hk1 : (k : Int) < (n : Int) := by omega
        unfold maxLen at hc'
        have hl' := hsv.1
        have hle' : a.vs.length ≤ n' := by omega
        have hge' : n' ≤ a.vs.length := by omega
        clear hl'
        rw [weighG_drop ha hst] at hs
        have HS := Lib.hid hs
        have hr1 := fewI_range (n := s) (more := 1 + (a.key.size : Int)) (most := most) hs0 (by omega) hm0
        have hr2 := hr1.1
        have hr3 := hr1.2.1
        have hst1 := stepH_range (n := s) a hm0 hs0
        have hst2 := hst1.1
        have hst3 := hst1.2.1
        have hwr : IntKind.i64.wrap (1 + (a.key.size : Int)) = 1 + (a.key.size : Int) := by rw [IntKind.wrap_i64]; omega
        have HE := Lib.hid (show stepH most a s = weighG (stepV most) most (fewI s (1 + (a.key.size : Int)) most) a.vs from rfl)
        clear hr1 ha hs hst1
        go_wp2_with ((with_reducible refine (wfew _ _ _ _ (by omega) (by omega) (by omega) (by omega) hm0 (by omega)).mono ?_); rintro e w1 ⟨rfl, rfl⟩)
        generalize fewI s (1 + (a.key.size : Int)) most = m0 at *
        generalize stepH most a s = m1 at *
        go_loopw [5, 7] (fun s i wr => WeighV most a.vs m0 w s i wr) (fun _ i _ => n' - (intOf i).toNat)
        case atStart => exact ⟨0, m0, by omega, rfl, rfl, hr2, hr3, rfl, rfl⟩
        case round =>
          obtain ⟨k2, s2, hk2, rfl, rfl, hs02, hs12, hs2, rfl⟩ := hrel
          by_cases hlt2 : k2 < n'
          · have hd3 : decide ((k2 : Int) < (n' : Int)) = true := by simp; omega
            by_cases hst2 : s2 ≤ most
            · obtain ⟨ad2, v, rfl, hv, hbk2, hok2, e0, e1, e2, e3, e4, e5⟩ := hsv.vn hlt2
              have hd4 : decide (s2 ≤ most) = true := by simp [hst2]
              have hk02 : (0 : Int) ≤ (k2 : Int) := by omega
              have hk12 : (k2 : Int) < (n' : Int) := by omega
              rw [weighG_drop hv hst2] at hs2
              have HS2 := Lib.hid hs2
              have hsz := hok2.2.2.2
              have hr1 := stepV_range (n := s2) (most := most) v hm0 hs02
              have hr4 := hr1.1
              have hr5 := hr1.2.1
              have hwr2 : IntKind.i64.wrap (1 + (v.v.t.size : Int)) = 1 + (v.v.t.size : Int) := by rw [IntKind.wrap_i64]; omega
              clear hr1 hv hs2 hwr
              go_wp2_with ((with_reducible refine (wfew _ _ _ _ (by omega) (by omega) (by omega) (by omega) hm0 (by omega)).mono ?_); rintro e w1 ⟨rfl, rfl⟩)
              go_roundw
              case rel => exact ⟨k2 + 1, stepV most v s2, by omega, by go_num, rfl, hr4, hr5, HS2.out, rfl⟩
              case measure => simp [intOf]; omega
            · have hd4 : decide (s2 ≤ most) = false := by simp; omega
              rw [weighG_stop _ (by omega)] at hs2
              have HS2 := Lib.hid (show m1 = s2 by rw [HE.out, hs2])
              clear hs2 hwr
              go_wp2
              go_roundw
              case rel => exact ⟨k + 1, s2, by omega, by go_num, rfl, hs02, hs12, by rw [← HS2.out]; exact HS.out, rfl⟩
              case measure => simp [intOf]; omega
          · have hd3 : decide ((k2 : Int) < (n' : Int)) = false := by simp; omega
            rw [List.drop_of_length_le (by omega)] at hs2
            have HS2 := Lib.hid (show m1 = s2 by rw [HE.out, ← hs2]; rfl)
            clear hs2 hwr
            go_wp2
            go_roundw
            case rel => exact ⟨k + 1, s2, by omega, by go_num, rfl, hs02, hs12, by rw [← HS2.out]; exact HS.out, rfl⟩
            case measure => simp [intOf]; omega
      · have hd2 : decide (s ≤ most) = false := by simp; omega
        rw [weighG_stop _ (by omega)] at hs
        have HS := Lib.hid (show s = weighH most l from hs)
        clear hs
        go_wp2
        go_ret
        rw [← HS.out]
        exact ⟨rfl, rfl⟩
    · have hd1 : decide ((k : Int) < (n : Int)) = false := by simp; omega
      rw [List.drop_of_length_le (by omega)] at hs
      have HS : RowKit.Hid (s = weighH most l) := Lib.hid hs
      clear hs
      go_wp2
      go_ret
      rw [← HS.out]
      exact ⟨rfl, rfl⟩

/-- a callee that only draws, in a quiet walk -/
theorem quiet_more {P : Program} {f : FuncId} {args : Array Value} {v : Value} {w : World} {Q q : Nat} (h : Calls P f args (w.drewN (Q + q)) fun e w' => e = .returned v ∧ ∃ m, (w.drewN (Q + q)).drewN m = w') :
    Calls P f args (w.drewN (Q + q)) fun e w' => e = .returned v ∧ ∃ m, w' = w.drewN (Q + m) := h.mono fun _ _ ⟨he, m, hw⟩ => ⟨he, q + m, by rw [← hw, World.drewN_drewN, Nat.add_assoc]⟩
theorem quietMore {P : Program} {f : FuncId} {args : Array Value} {v : Value} {w : World} {q : Nat} (h : Calls P f args (w.drewN q) fun e w' => e = .returned v ∧ ∃ m, (w.drewN q).drewN m = w') :
    Calls P f args (w.drewN q) fun e w' => e = .returned v ∧ ∃ m, w' = w.drewN m := h.mono fun _ _ ⟨he, m, hw⟩ => ⟨he, q + m, by rw [← hw, World.drewN_drewN]⟩

set_option maxRecDepth 100000 in
set_option maxHeartbeats 4000000 in
theorem weighP_any (A : Option Addr) (n c : Nat) (l : List Pn) (most : Int) (w : World) (h : Sl PnRel 8 w w.heap.size A n l) (hn : n ≤ maxLen) (hm0 : 0 ≤ most) (hm1 : most ≤ 1000000) :
    Calls Try.prog 57 #[.slice A n c, .int .i64 most] w fun e w' => e = .returned (.int .i64 (weighP most l)) ∧ ∃ q, w.drewN q = w' := by
  unfold maxLen at hn
  have hl := h.1
  have hle : l.length ≤ n := by omega
  have hge : n ≤ l.length := by omega
  clear hl
  go_enter Try.func57, Try.ntmps57
  go_wp2
  go_loopw [5, 6] (fun s i wr => WeighGRel (stepP most) most l 0 w s i wr) (fun _ i _ => n - (intOf i).toNat)
  case atStart => exact ⟨0, 0, 0, by omega, rfl, rfl, by omega, by omega, rfl, rfl⟩
  case round =>
    obtain ⟨k, q, s, hk, rfl, rfl, hs0, hs1, hs, rfl⟩ := hrel
    by_cases hlt : k < n
    · have hd1 : decide ((k : Int) < (n : Int)) = true := by simp; omega
      by_cases hst : s ≤ most
      · obtain ⟨ad, p, A1, n1, c1, A2, n2, c2, rfl, ha, hbk, hpt, hps, d0, d1, d2, d3, d4, d5, d6, d7, hn1, hc1, hs1', hn2, hc2, hs2'⟩ := h.pn hlt
        have hd2 : decide (s ≤ most) = true := by simp [hst]
        have hk0 : (0 : Int) ≤ (k : Int) := by omega
        have hk1 : (k : Int) < (n : Int) := by omega
        rw [weighG_drop ha hst] at hs
        have HS := Lib.hid hs
        have hT := weighT_range p.r hm0
        have hT1 := hT.1
        have hT2 := hT.2
        have hW := weighW_range p.w 0 hm0 (by omega) (by omega)
        have hW1 := hW.1
        have hW2 := hW.2
        have hF := fewI_range (n := s) (more := 1 + weighT most p.r) (most := most) hs0 (by omega) hm0
        have hF1 := hF.1
        have hF2 := hF.2.1
        have hr1 := stepP_range (n := s) p hm0 hs0
        have hr2 := hr1.1
        have hr3 := hr1.2.1
        have hwr : IntKind.i64.wrap (1 + weighT most p.r) = 1 + weighT most p.r := by rw [IntKind.wrap_i64]; omega
        clear hr1 ha hs hT hW hF
        go_wp2
        go_quiet (first
          | (go_at_call 79; exact quiet_same (weighT_any A1 n1 c1 p.r most _ hs1' (by omega) hm0 hm1))
          | (go_at_call 21; exact quiet_more (weigh_any A2 n2 c2 p.w most _ hs2' (by omega) hm0 hm1))
          | (go_at_call 55; exact quiet_same (wfew _ _ _ _ (by omega) (by omega) (by omega) (by omega) hm0 (by omega))))
        go_wp2
        go_roundw
        case rel => exact ⟨k + 1, q + nq, stepP most p s, by omega, by go_num, rfl, hr2, hr3, HS.out, rfl⟩
        case measure => simp [intOf]; omega
      · have hd2 : decide (s ≤ most) = false := by simp; omega
        rw [weighG_stop _ (by omega)] at hs
        have HS := Lib.hid (show s = weighP most l from hs)
        clear hs
        go_wp2
        go_ret
        rw [← HS.out]
        exact ⟨rfl, q, rfl⟩
    · have hd1 : decide ((k : Int) < (n : Int)) = false := by simp; omega
      rw [List.drop_of_length_le (by omega)] at hs
      have HS : RowKit.Hid (s = weighP most l) := Lib.hid hs
      clear hs
      go_wp2
      go_ret
      rw [← HS.out]
      exact ⟨rfl, q, rfl⟩

set_option maxRecDepth 100000 in
set_option maxHeartbeats 4000000 in
theorem weighS_any (s : Stt) (A1 A2 : Option Addr) (n1 n2 c1 c2 : Nat) (most : Int) (w : World) (h1 : Sl HsRel 2 w w.heap.size A1 n1 s.h) (h2 : Sl PnRel 8 w w.heap.size A2 n2 s.p) (hn1 : n1 ≤ maxLen) (hn2 : n2 ≤ maxLen) (hm0 : 0 ≤ most) (hm1 : most ≤ 1000000) :
    Calls Try.prog 26 #[.agg (s.arr (.slice A1 n1 c1) (.slice A2 n2 c2)), .int .i64 most] w fun e w' => e = .returned (.int .i64 (weighS most s)) ∧ Below w.heap.size w w' := by
  have hX : Below w.heap.size w (w.alloc (.cells (s.arr (.slice A1 n1 c1) (.slice A2 n2 c2)) 30)) := by go_grown
  have k1 := (h1.below HsRel.kept hX).more HsRel.kept hX.size
  have k2 := (h2.below PnRel.kept hX).more PnRel.kept hX.size
  have hH := weighH_range s.h hm0
  have hH1 := hH.1
  have hH2 := hH.2
  have hP := weighP_range s.p hm0
  have hP1 := hP.1
  have hP2 := hP.2
  clear hH hP
  go_enter Try.func26, Try.ntmps26
  go_wp2
  go_quiet (first
    | (go_at_call 56; exact quietSame (weighH_any A1 n1 c1 s.h most _ k1 hn1 hm0 hm1))
    | (go_at_call 57; exact quietMore (weighP_any A2 n2 c2 s.p most _ k2 hn2 hm0 hm1))
    | (go_at_call 55; exact quietSame (wfew _ _ _ _ (by omega) (by omega) (by omega) (by omega) hm0 (by omega))))
  go_wp2
  go_ret
  exact ⟨rfl, hX.trans ((belowN _).mono hX.size)⟩
end Go.Proofs.Ytipacjbegfingaa

/- The walk of first: the chapter's examples. -/
namespace Go.Proofs.Ytipacjbegfingaa
open Go.RowKit Fl
attribute [local go_sem] run_store_float

theorem setRow_alloc2 (w : World) (t : TypeId) (c c' : Array Value) (o : Obj) : ((w.alloc (.cells c t)).alloc o).setRow w.heap.size c' = (w.alloc (.cells c' t)).alloc o := by
  unfold World.setRow World.alloc
  congr 1
  apply Array.ext_getElem?
  intro i
  simp only [Array.getElem?_modify, Array.getElem?_push, Array.size_push]
  by_cases h : i = w.heap.size
  · subst h; simp
  · have h' : w.heap.size ≠ i := fun e => h e.symm
    by_cases h2 : i = w.heap.size + 1
    · subst h2; simp
    · simp [h, h', h2]
/-- a store of a whole struct into the box that is new but one -/
theorem wpList_store_new2 {P : Program} {ops : Array Oper} {rest : List Oper} {o : Oper} {a : Act} {w : World} {Q : Exit → Act → World → Prop} (hgd : o.guard = none) (ty : TypeId) (x y : Operand) (ho : o.op = .store ty x y)
    (cells : Array Value) (hx : a.eval x = .pointer (some ⟨w.heap.size, 0, none⟩)) (hy : a.eval y = .agg cells)
    (t : TypeId) (old : Array Value) (ob : Obj) (hi : (P.info? ty).map (·.size) = some cells.size)
    (hold : old.size = cells.size) (h1 : cells.all (·.oneCell') = true)
    (h : wpList P ops Q rest (a.put o.dst undef) ((w.alloc (.cells cells t)).alloc ob)) : wpList P ops Q (o :: rest) a ((w.alloc (.cells old t)).alloc ob) :=
  wpList_store_row hgd ty x y ho _ cells hx hy t old ((Blk.new w t old).alloc ob) hi hold h1 (by rw [setRow_alloc2]; exact h)

theorem firstE : splitE ⟨1, 0, 0, 4607182418800017408⟩ 4602678819172646912 2 = 0 := by kernel_rfl
theorem firstL : splitL ⟨1, 0, 0, 4607182418800017408⟩ 4602678819172646912 2 = ⟨1, 1, 0, 4602678819172646912⟩ := by kernel_rfl
theorem firstU : splitU ⟨1, 0, 0, 4607182418800017408⟩ 4602678819172646912 2 = ⟨2, 0, 4602678819172646912, 4607182418800017408⟩ := by kernel_rfl
theorem firstM : mayR ⟨1, 0, 0, 4607182418800017408⟩ = true := by kernel_rfl
theorem firstE2 : splitE ⟨1, 0, 0, 4607182418800017408⟩ 0 2 = 24 := by kernel_rfl
theorem firstOk : Rg.ok ⟨1, 0, 0, 4607182418800017408⟩ := by unfold Rg.ok i64ok; simp

theorem div1 (w : World) : Calls Try.prog 10 #[nilVal ⟨1, 0, 0, 4607182418800017408⟩ ⟨0, 0, 0⟩ ⟨0, 0, 0⟩, .float .f64 4602678819172646912, .int .i64 2, .agg #[.int .i64 5, .int .i64 0, .int .i64 1], .agg #[.int .i64 9, .int .i64 0, .int .i64 0]] w
    (DivPost w (nilVal ⟨1, 1, 0, 4602678819172646912⟩ ⟨0, 0, 0⟩ ⟨0, 0, 0⟩) (nilVal ⟨2, 0, 4602678819172646912, 4607182418800017408⟩ ⟨9, 0, 0⟩ ⟨5, 0, 1⟩) 0) := by
  have h := divide_ok ⟨1, 0, 0, 4607182418800017408⟩ ⟨0, 0, 0⟩ ⟨0, 0, 0⟩ ⟨5, 0, 1⟩ ⟨9, 0, 0⟩ 4602678819172646912 2 w firstOk (by omega) firstM (by kernel_rfl) (by kernel_rfl) (by kernel_rfl) (by kernel_rfl) firstE
  rw [firstL, firstU] at h
  exact h
theorem div2 (w : World) : Calls Try.prog 10 #[nilVal ⟨1, 0, 0, 4607182418800017408⟩ ⟨0, 0, 0⟩ ⟨0, 0, 0⟩, .float .f64 0, .int .i64 2, .agg #[.int .i64 0, .int .i64 0, .int .i64 0], .agg #[.int .i64 0, .int .i64 0, .int .i64 0]] w
    (DivPost w zeroState zeroState 24) := by
  have h := divide_no ⟨1, 0, 0, 4607182418800017408⟩ ⟨0, 0, 0⟩ ⟨0, 0, 0⟩ ⟨0, 0, 0⟩ ⟨0, 0, 0⟩ 0 2 w firstOk (by omega) firstM (by kernel_rfl) (by kernel_rfl) (by kernel_rfl) (by kernel_rfl) (by rw [firstE2]; omega)
  rw [firstE2] at h
  exact h
theorem rng1 (w : World) : Calls Try.prog 25 #[.agg #[.int .i64 1, .int .i64 1, .float .f64 0, .float .f64 4602678819172646912], .agg #[.int .i64 1, .int .i64 1, .float .f64 0, .float .f64 4602678819172646912]] w fun e w' => e = .returned (.bool true) ∧ Below w.heap.size w w' :=
  range_any ⟨1, 1, 0, 4602678819172646912⟩ ⟨1, 1, 0, 4602678819172646912⟩ w
theorem rng2 (w : World) : Calls Try.prog 25 #[.agg #[.int .i64 2, .int .i64 0, .float .f64 4602678819172646912, .float .f64 4607182418800017408], .agg #[.int .i64 2, .int .i64 0, .float .f64 4602678819172646912, .float .f64 4607182418800017408]] w fun e w' => e = .returned (.bool true) ∧ Below w.heap.size w w' :=
  range_any ⟨2, 0, 4602678819172646912, 4607182418800017408⟩ ⟨2, 0, 4602678819172646912, 4607182418800017408⟩ w

set_option maxRecDepth 100000 in
set_option maxHeartbeats 4000000 in
theorem first_any (w : World) : Calls Try.prog 7 #[] w fun e w' => e = .returned (.bool true) ∧ Below w.heap.size w w' := by
  go_enter Try.func7, Try.ntmps7
  go_wp2_with (first
    | (refine wpList_store_new rfl 30 _ _ rfl _ rfl rfl _ _ (by kernel_rfl) (by kernel_rfl) (by kernel_rfl) ?_)
    | (refine wpList_store_new2 rfl 30 _ _ rfl _ rfl rfl _ _ _ (by kernel_rfl) (by kernel_rfl) (by kernel_rfl) ?_)
    | (go_at_call 10; fail))
  refine (div1 _).mono ?_
  rintro e w1 ⟨rfl, hb1⟩
  have c1 := (Blk.new w 30 (nilCells ⟨1, 0, 0, 4607182418800017408⟩ ⟨0, 0, 0⟩ ⟨0, 0, 0⟩)).below hb1 (by simp)
  have hw1 : Below w.heap.size w w1 := ((Below.refl _ _).alloc (Nat.le_refl _) _).trans (hb1.mono (by simp))
  obtain ⟨g0, z0, z1, z2, z3, z4, z5, z6, z7, z8, z9, z10, z11⟩ := c1.dozen
  have g1 : w.heap.size < w1.heap.size + 1 := by omega
  go_wp2_with (first
    | (refine wpList_store_new rfl 30 _ _ rfl _ rfl rfl _ _ (by kernel_rfl) (by kernel_rfl) (by kernel_rfl) ?_)
    | (refine wpList_store_new2 rfl 30 _ _ rfl _ rfl rfl _ _ _ (by kernel_rfl) (by kernel_rfl) (by kernel_rfl) ?_)
    | (go_at_call 10; fail))
  refine (div2 _).mono ?_
  rintro e w2 ⟨rfl, hb2⟩
  have c2 := ((Blk.new w1 30 (nilCells ⟨1, 1, 0, 4602678819172646912⟩ ⟨0, 0, 0⟩ ⟨0, 0, 0⟩)).alloc (.cells (nilCells ⟨2, 0, 4602678819172646912, 4607182418800017408⟩ ⟨9, 0, 0⟩ ⟨5, 0, 1⟩) 30)).below hb2 (by simp <;> omega)
  have c3 := (Blk.new' (w := w1.alloc (.cells (nilCells ⟨1, 1, 0, 4602678819172646912⟩ ⟨0, 0, 0⟩ ⟨0, 0, 0⟩) 30)) (g := w1.heap.size + 1) 30 (nilCells ⟨2, 0, 4602678819172646912, 4607182418800017408⟩ ⟨9, 0, 0⟩ ⟨5, 0, 1⟩) (by simp)).below hb2 (by simp <;> omega)
  have hw2 : Below w.heap.size w w2 := ((hw1.alloc (by omega) _).alloc (by simp; omega) _).trans (hb2.mono (by simp; omega))
  clear z0 z1 z2 z3 z4 z5 z6 z7 z8 z9 z10 z11 hb2 hb1 c1 g1 hw1
  generalize w1.heap.size = g at *
  obtain ⟨g2, x0, x1, x2, x3, x4, x5, x6, x7, x8, x9, x10, x11⟩ := c2.dozen
  obtain ⟨g3, y0, y1, y2, y3, y4, y5, y6, y7, y8, y9, y10, y11⟩ := c3.dozen
  have k2 : g < w2.heap.size + 1 := by omega
  have k3 : g + 1 < w2.heap.size + 1 := by omega
  go_wp2_with (first
    | (refine wpList_store_new rfl 30 _ _ rfl _ rfl rfl _ _ (by kernel_rfl) (by kernel_rfl) (by kernel_rfl) ?_)
    | (refine wpList_store_new2 rfl 30 _ _ rfl _ rfl rfl _ _ _ (by kernel_rfl) (by kernel_rfl) (by kernel_rfl) ?_)
    | ((with_reducible refine (rng1 _).mono ?_); rintro e w3 ⟨rfl, hb3⟩
       have c3' := ((c3.alloc _).alloc _).below hb3 (by simp; omega)
       obtain ⟨g3', y0', y1', y2', y3', y4', y5', y6', y7', y8', y9', y10', y11'⟩ := c3'.dozen
       have hw3 : Below w.heap.size w w3 := ((hw2.alloc (by omega) _).alloc (by simp; omega) _).trans (hb3.mono (by simp; omega)))
    | ((with_reducible refine (rng2 _).mono ?_); rintro e w4 ⟨rfl, hb4⟩
       have c3'' := c3'.below hb4 (by omega)
       obtain ⟨g3'', y0'', y1'', y2'', y3'', y4'', y5'', y6'', y7'', y8'', y9'', y10'', y11''⟩ := c3''.dozen
       have hw4 : Below w.heap.size w w4 := hw3.trans (hb4.mono (by omega))))
  go_ret
  exact ⟨rfl, hw4⟩
end Go.Proofs.Ytipacjbegfingaa

/- The walk of HandTwice. -/
namespace Go.Proofs.Ytipacjbegfingaa
set_option linter.unusedVariables false
open Go.RowKit Fl
attribute [local go_sem] run_store_float

set_option maxRecDepth 100000 in
set_option maxHeartbeats 4000000 in
theorem few_any (s : Stt) (A1 A2 : Option Addr) (n1 n2 c1 c2 : Nat) (w : World) (h1 : Sl HsRel 2 w w.heap.size A1 n1 s.h) (h2 : Sl PnRel 8 w w.heap.size A2 n2 s.p) (hn1 : n1 ≤ maxLen) (hn2 : n2 ≤ maxLen) :
    Calls Try.prog 8 #[.agg (s.arr (.slice A1 n1 c1) (.slice A2 n2 c2))] w fun e w' => e = .returned (.bool (decide (weighS 20000 s ≤ 20000))) ∧ Below w.heap.size w w' := by
  have hX : Below w.heap.size w (w.alloc (.cells (s.arr (.slice A1 n1 c1) (.slice A2 n2 c2)) 30)) := by go_grown
  have hW := weighS_any s A1 A2 n1 n2 c1 c2 20000 _ ((h1.below HsRel.kept hX).more HsRel.kept hX.size) ((h2.below PnRel.kept hX).more PnRel.kept hX.size) hn1 hn2 (by omega) (by omega)
  generalize weighS 20000 s = z at *
  go_enter Try.func8, Try.ntmps8
  go_wp2_with ((with_reducible refine hW.mono ?_); rintro e w1 ⟨rfl, hb⟩)
  go_ret
  exact ⟨rfl, hX.trans (hb.mono hX.size)⟩

set_option maxRecDepth 100000 in
set_option maxHeartbeats 4000000 in
theorem twice_out (s : Stt) (A1 A2 : Option Addr) (n1 n2 c1 c2 : Nat) (p q : Nat) (st fl : Sp) (w : World) (h1 : Sl HsRel 2 w w.heap.size A1 n1 s.h) (h2 : Sl PnRel 8 w w.heap.size A2 n2 s.p) (hn1 : n1 ≤ maxLen) (hn2 : n2 ≤ maxLen)
    (hout : decide (weighS 20000 s ≤ 20000) = false ∨ decide (weighS 20000 s ≤ 20000) = true ∧ (flt p q = false ∨ flt p q = true ∧ (4611686018427387904 : Int) < s.r.ep)) :
    Calls Try.prog 5 #[.agg (s.arr (.slice A1 n1 c1) (.slice A2 n2 c2)), .float .f64 p, .float .f64 q, st.val, fl.val] w fun e w' => e = .returned (.bool true) ∧ Below w.heap.size w w' := by
  have hF := fun w' (hb : Below w.heap.size w w') => few_any s A1 A2 n1 n2 c1 c2 w' ((h1.below HsRel.kept hb).more HsRel.kept hb.size) ((h2.below PnRel.kept hb).more PnRel.kept hb.size) hn1 hn2
  have hB0 := (((Blk.new w 30 (s.arr (.slice A1 n1 c1) (.slice A2 n2 c2))).alloc (.cells st.arr 26)).alloc (.cells fl.arr 26))
  have hX : Below w.heap.size w (((w.alloc (.cells (s.arr (.slice A1 n1 c1) (.slice A2 n2 c2)) 30)).alloc (.cells st.arr 26)).alloc (.cells fl.arr 26)) := by go_grown
  unfold flt at hout
  rcases hout with e1 | ⟨e1, e2 | ⟨e2, e3⟩⟩
  all_goals
    rw [e1] at hF
    clear e1
    go_enter Try.func5, Try.ntmps5
    go_wp2_with (go_at_call 7; fail)
    refine (first_any _).mono ?_
    rintro e w1 ⟨rfl, hb1⟩
    have b0 := hB0.below hb1 hB0.lt
    have hY := hX.trans (hb1.mono hX.size)
    obtain ⟨g0, z0, z1, z2, z3, z4, z5, z6, z7, z8, z9, z10, z11⟩ := b0.dozen
    go_wp2_with (first
      | ((with_reducible refine (hF _ hY).mono ?_); rintro e w2 ⟨rfl, hb2⟩
         have b02 := b0.below hb2 b0.lt
         have hZ := hY.trans (hb2.mono hY.size)
         obtain ⟨g02, u0, u1, u2, u3, u4, u5, u6, u7, u8, u9, u10, u11⟩ := b02.dozen)
      | ((with_reducible refine (first_any _).mono ?_); rintro e w3 ⟨rfl, hb3⟩))
    go_ret
    exact ⟨rfl, hZ.trans (hb3.mono hZ.size)⟩

theorem divide_named (s : Stt) (A1 A2 : Option Addr) (n1 n2 c1 c2 : Nat) (x : Nat) (k : Int) (st fl : Sp) (w : World) (hok : s.r.ok) (hx : x < 18446744073709551616) (h1 : Sl HsRel 2 w w.heap.size A1 n1 s.h) (h2 : Sl PnRel 8 w w.heap.size A2 n2 s.p) (hH : SmallH s.h) (hQ : SmallP s.p)
    (L R : Stt) (e : Int) (hL : divL s x k st fl = L) (hR : divR s x k st fl = R) (hE : divE s x k st fl = e) :
    Calls Try.prog 10 #[.agg (s.arr (.slice A1 n1 c1) (.slice A2 n2 c2)), .float .f64 x, .int .i64 k, st.val, fl.val] w fun en w' => ∃ B1 m1 d1 B2 m2 d2 B3 m3 d3 B4 m4 d4, en = .returned (.tuple #[.agg (L.arr (.slice B1 m1 d1) (.slice B2 m2 d2)), .agg (R.arr (.slice B3 m3 d3) (.slice B4 m4 d4)), .int .i64 e]) ∧
      Sl HsRel 2 w' w'.heap.size B1 m1 L.h ∧ Sl PnRel 8 w' w'.heap.size B2 m2 L.p ∧ Sl HsRel 2 w' w'.heap.size B3 m3 R.h ∧ Sl PnRel 8 w' w'.heap.size B4 m4 R.p ∧ Below w.heap.size w w' := by
  subst hL hR hE
  refine (divide_any s A1 A2 n1 n2 c1 c2 x k st fl w hok hx h1 h2 hH hQ).mono ?_
  rintro en w' ⟨v1, v2, v3, v4, rfl, ⟨B1, m1, d1, rfl, -, -, r1⟩, ⟨B2, m2, d2, rfl, -, -, r2⟩, ⟨B3, m3, d3, rfl, -, -, r3⟩, ⟨B4, m4, d4, rfl, -, -, r4⟩, hb⟩
  exact ⟨B1, m1, d1, B2, m2, d2, B3, m3, d3, B4, m4, d4, rfl, r1, r2, r3, r4, hb⟩
theorem split_ok_r {r : Rg} {x : Nat} {k : Int} (hok : r.ok) (hx : x < 18446744073709551616) (hk : i64ok k) : (splitL r x k).ok ∧ (splitU r x k).ok := by
  unfold splitL splitU
  have z : Rg.ok ⟨0, 0, 0, 0⟩ := by unfold Rg.ok i64ok; simp
  by_cases h : splitE r x k = 0
  · rw [if_pos h, if_pos h]
    have h1 := (split_zero h).1
    unfold Rg.ok i64ok at *
    obtain ⟨a, b, c, d⟩ := hok
    refine ⟨⟨a, ?_, c, hx⟩, ⟨hk, ?_, hx, d⟩⟩
    · simp only; omega
    · simp only; omega
  · rw [if_neg h, if_neg h]; exact ⟨z, z⟩
theorem smallH_F (f : ByteArray → Bool) {H : List Hs} (h : SmallH H) : SmallH (hsF f H) := ⟨Nat.le_trans (List.length_filter_le _ _) h.1, fun x hx => h.2 x (List.mem_filter.1 hx).1⟩
theorem smallP_F (f : ByteArray → Bool) (g : Pn → Bool) {Q : List Pn} (h : SmallP Q) : SmallP ((Q.map (pnF f)).filter g) := by
  refine ⟨Nat.le_trans (List.length_filter_le _ _) (by rw [List.length_map]; exact h.1), fun p hp => ?_⟩
  obtain ⟨q, hq, rfl⟩ := List.mem_map.1 (List.mem_filter.1 hp).1
  have := h.2 q hq
  exact ⟨Nat.le_trans (List.length_filter_le _ _) this.1, Nat.le_trans (List.length_filter_le _ _) this.2⟩
theorem left_small {s : Stt} {x : Nat} {k : Int} (h : SmallH s.h ∧ SmallP s.p) : SmallH (leftS s x k).h ∧ SmallP (leftS s x k).p := by
  rw [leftS_part]
  exact ⟨smallH_F (fun k => belowB k x) h.1, smallP_F (fun k => belowB k x) yesP h.2⟩
theorem right_small {s : Stt} {x : Nat} {k : Int} {st fl : Sp} (h : SmallH s.h ∧ SmallP s.p) : SmallH (rightS s x k st fl).h ∧ SmallP (rightS s x k st fl).p := by
  rw [rightS_part]
  exact ⟨smallH_F (fun k => !belowB k x) h.1, smallP_F (fun k => !belowB k x) fullP h.2⟩

set_option maxRecDepth 100000 in
set_option maxHeartbeats 8000000 in
theorem twice_in (s : Stt) (A1 A2 : Option Addr) (n1 n2 c1 c2 : Nat) (p q : Nat) (st fl : Sp) (w : World) (hok : s.r.ok) (hp : p < 18446744073709551616) (hq : q < 18446744073709551616) (h1 : Sl HsRel 2 w w.heap.size A1 n1 s.h) (h2 : Sl PnRel 8 w w.heap.size A2 n2 s.p) (hn1 : n1 ≤ maxLen) (hn2 : n2 ≤ maxLen)
    (hin : weighS 20000 s ≤ 20000) (hpq : flt p q = true) (hep : s.r.ep ≤ 4611686018427387904) :
    Calls Try.prog 5 #[.agg (s.arr (.slice A1 n1 c1) (.slice A2 n2 c2)), .float .f64 p, .float .f64 q, st.val, fl.val] w fun e w' => e = .returned (.bool true) ∧ Below w.heap.size w w' := by
  have hsm := weighS_small (by omega) (by omega) hin
  have hF := fun w' (hb : Below w.heap.size w w') => few_any s A1 A2 n1 n2 c1 c2 w' ((h1.below HsRel.kept hb).more HsRel.kept hb.size) ((h2.below PnRel.kept hb).more PnRel.kept hb.size) hn1 hn2
  rw [decide_eq_true hin] at hF
  have hB0 := (((Blk.new w 30 (s.arr (.slice A1 n1 c1) (.slice A2 n2 c2))).alloc (.cells st.arr 26)).alloc (.cells fl.arr 26))
  have hB1 := (Blk.new' (w := w.alloc (.cells (s.arr (.slice A1 n1 c1) (.slice A2 n2 c2)) 30)) (g := w.heap.size + 1) 26 st.arr (by simp)).alloc (.cells fl.arr 26)
  have hB2 := Blk.new' (w := (w.alloc (.cells (s.arr (.slice A1 n1 c1) (.slice A2 n2 c2)) 30)).alloc (.cells st.arr 26)) (g := w.heap.size + 1 + 1) 26 fl.arr (by simp)
  have hX : Below w.heap.size w (((w.alloc (.cells (s.arr (.slice A1 n1 c1) (.slice A2 n2 c2)) 30)).alloc (.cells st.arr 26)).alloc (.cells fl.arr 26)) := by go_grown
  have hlt : (FloatKind.f64.format.order p q == some Ordering.lt) = true := hpq
  have hTW := fun a b => twice (s := s) (p := p) (q := q) (st := st) (fl := fl) hpq hep a b
  have HT := Lib.hid hTW
  have HLa := Lib.hid (show divE s p 11 st fl = 0 → divR s p 11 st fl = rightS s p 11 st fl from fun h => by unfold divR; rw [if_pos h])
  have HLc := Lib.hid (show divE s q 12 st fl = 0 → divL s q 12 st fl = leftS s q 12 from fun h => by unfold divL; rw [if_pos h])
  have hep2 : ¬ (4611686018427387904 : Int) < s.r.ep := by omega
  have hep3 : decide ((4611686018427387904 : Int) < s.r.ep) = false := by simp; omega
  clear hTW hpq hin hep
  obtain ⟨La, hLa⟩ : ∃ L, divL s p 11 st fl = L := ⟨_, rfl⟩
  obtain ⟨Ra, hRa⟩ : ∃ L, divR s p 11 st fl = L := ⟨_, rfl⟩
  obtain ⟨Ea, hEa⟩ : ∃ L, divE s p 11 st fl = L := ⟨_, rfl⟩
  obtain ⟨Lc, hLc⟩ : ∃ L, divL s q 12 st fl = L := ⟨_, rfl⟩
  obtain ⟨Rc, hRc⟩ : ∃ L, divR s q 12 st fl = L := ⟨_, rfl⟩
  obtain ⟨Ec, hEc⟩ : ∃ L, divE s q 12 st fl = L := ⟨_, rfl⟩
  have HD1 := Lib.hid (fun A1 A2 n1 n2 c1 c2 w h1 h2 => divide_named s A1 A2 n1 n2 c1 c2 p 11 st fl w hok hp h1 h2 hsm.1 hsm.2 La Ra Ea hLa hRa hEa)
  have HD2 := Lib.hid (fun A1 A2 n1 n2 c1 c2 w h1 h2 => divide_named s A1 A2 n1 n2 c1 c2 q 12 st fl w hok hq h1 h2 hsm.1 hsm.2 Lc Rc Ec hLc hRc hEc)
  have HE := Lib.hid (⟨hLa, hRa, hEa, hLc, hRc, hEc⟩ : divL s p 11 st fl = La ∧ divR s p 11 st fl = Ra ∧ divE s p 11 st fl = Ea ∧ divL s q 12 st fl = Lc ∧ divR s q 12 st fl = Rc ∧ divE s q 12 st fl = Ec)
  clear hLa hRa hEa hLc hRc hEc
  go_enter Try.func5, Try.ntmps5
  go_wp2_with (go_at_call 7; fail)
  refine (first_any _).mono ?_
  rintro e w1 ⟨rfl, hb1⟩
  have b0 := hB0.below hb1 hB0.lt
  have hY := hX.trans (hb1.mono hX.size)
  obtain ⟨g0, z0, z1, z2, z3, z4, z5, z6, z7, z8, z9, z10, z11⟩ := b0.dozen
  go_wp2_with (first
    | ((with_reducible refine (hF _ hY).mono ?_); rintro e w2 ⟨rfl, hb2⟩
       have hb12 := hb1.trans (hb2.mono hb1.size)
       have b0 := hB0.below hb12 hB0.lt
       have b1 := hB1.below hb12 hB1.lt
       have b2 := hB2.below hb12 hB2.lt
       have hZ := hX.trans (hb12.mono hX.size)
       obtain ⟨g02, u0, u1, u2, u3, u4, u5, u6, u7, u8, u9, u10, u11⟩ := b0.dozen
       obtain ⟨g1, s0, s1, s2⟩ := b1.three
       obtain ⟨g2, q0, q1, q2⟩ := b2.three)
    | (go_at_call 10; fail))
  refine (HD1.out A1 A2 n1 n2 c1 c2 w2 ((h1.below HsRel.kept hZ).more HsRel.kept hZ.size) ((h2.below PnRel.kept hZ).more PnRel.kept hZ.size)).mono ?_
  rintro e w3 ⟨B1, m1, d1, B2, m2, d2, B3, m3, d3, B4, m4, d4, rfl, r1, r2, r3, r4, hb3⟩
  have W3 : Below w.heap.size w w3 := hZ.trans (hb3.mono hZ.size)
  replace b0 := b0.below hb3 b0.lt
  replace b1 := b1.below hb3 b1.lt
  replace b2 := b2.below hb3 b2.lt
  clear hb1 hb2 hb12 hY hZ g0 z0 z1 z2 z3 z4 z5 z6 z7 z8 z9 z10 z11 g02 u0 u1 u2 u3 u4 u5 u6 u7 u8 u9 u10 u11 g1 s0 s1 s2 g2 q0 q1 q2 hb3 hF
  obtain ⟨g0, z0, z1, z2, z3, z4, z5, z6, z7, z8, z9, z10, z11⟩ := b0.dozen
  obtain ⟨g1, s0, s1, s2⟩ := b1.three
  obtain ⟨g2, q0, q1, q2⟩ := b2.three
  have g01 : w.heap.size < w3.heap.size + 1 := by omega
  have g11 : w.heap.size + 1 < w3.heap.size + 1 := by omega
  have g21 : w.heap.size + 1 + 1 < w3.heap.size + 1 := by omega
  go_wp2_with (first
    | (refine wpList_store_new rfl 30 _ _ rfl _ rfl rfl _ _ (by kernel_rfl) (by kernel_rfl) (by kernel_rfl) ?_)
    | (refine wpList_store_new2 rfl 30 _ _ rfl _ rfl rfl _ _ _ (by kernel_rfl) (by kernel_rfl) (by kernel_rfl) ?_)
    | (go_at_call 10; fail))
  have c11 : Blk ((w3.alloc (.cells (La.arr (.slice B1 m1 d1) (.slice B2 m2 d2)) 30)).alloc (.cells (Ra.arr (.slice B3 m3 d3) (.slice B4 m4 d4)) 30)) w3.heap.size 30 (La.arr (.slice B1 m1 d1) (.slice B2 m2 d2)) := (Blk.new _ _ _).alloc _
  have c12 : Blk ((w3.alloc (.cells (La.arr (.slice B1 m1 d1) (.slice B2 m2 d2)) 30)).alloc (.cells (Ra.arr (.slice B3 m3 d3) (.slice B4 m4 d4)) 30)) (w3.heap.size + 1) 30 (Ra.arr (.slice B3 m3 d3) (.slice B4 m4 d4)) := Blk.new' _ _ (by simp)
  have hb34 : Below w3.heap.size w3 ((w3.alloc (.cells (La.arr (.slice B1 m1 d1) (.slice B2 m2 d2)) 30)).alloc (.cells (Ra.arr (.slice B3 m3 d3) (.slice B4 m4 d4)) 30)) := by go_grown
  generalize ((w3.alloc (.cells (La.arr (.slice B1 m1 d1) (.slice B2 m2 d2)) 30)).alloc (.cells (Ra.arr (.slice B3 m3 d3) (.slice B4 m4 d4)) 30)) = w4 at *
  replace b0 := b0.below hb34 b0.lt
  replace b1 := b1.below hb34 b1.lt
  replace b2 := b2.below hb34 b2.lt
  have W4 : Below w.heap.size w w4 := W3.trans (hb34.mono W3.size)
  replace r3 := (r3.below HsRel.kept hb34).more HsRel.kept hb34.size
  replace r4 := (r4.below PnRel.kept hb34).more PnRel.kept hb34.size
  clear g0 z0 z1 z2 z3 z4 z5 z6 z7 z8 z9 z10 z11 g1 s0 s1 s2 g2 q0 q1 q2 g01 g11 g21 r1 r2 hb34
  refine (HD2.out A1 A2 n1 n2 c1 c2 w4 ((h1.below HsRel.kept W4).more HsRel.kept W4.size) ((h2.below PnRel.kept W4).more PnRel.kept W4.size)).mono ?_
  rintro e w5 ⟨B5, m5, d5, B6, m6, d6, B7, m7, d7, B8, m8, d8, rfl, r5, r6, r7, r8, hb5⟩
  have W5 : Below w.heap.size w w5 := W4.trans (hb5.mono W4.size)
  replace b0 := b0.below hb5 b0.lt
  replace b1 := b1.below hb5 b1.lt
  replace b2 := b2.below hb5 b2.lt
  replace c12 := c12.below hb5 c12.lt
  replace r3 := (r3.below HsRel.kept hb5).more HsRel.kept hb5.size
  replace r4 := (r4.below PnRel.kept hb5).more PnRel.kept hb5.size
  clear c11 r7 r8 hb5
  generalize w3.heap.size = g11 at *
  go_upto_region 7 with (first
    | (refine wpList_store_new rfl 30 _ _ rfl _ rfl rfl _ _ (by kernel_rfl) (by kernel_rfl) (by kernel_rfl) ?_)
    | (refine wpList_store_new2 rfl 30 _ _ rfl _ rfl rfl _ _ _ (by kernel_rfl) (by kernel_rfl) (by kernel_rfl) ?_))
  have c14 : Blk ((w5.alloc (.cells (Lc.arr (.slice B5 m5 d5) (.slice B6 m6 d6)) 30)).alloc (.cells (Rc.arr (.slice B7 m7 d7) (.slice B8 m8 d8)) 30)) w5.heap.size 30 (Lc.arr (.slice B5 m5 d5) (.slice B6 m6 d6)) := (Blk.new _ _ _).alloc _
  have hb56 : Below w5.heap.size w5 ((w5.alloc (.cells (Lc.arr (.slice B5 m5 d5) (.slice B6 m6 d6)) 30)).alloc (.cells (Rc.arr (.slice B7 m7 d7) (.slice B8 m8 d8)) 30)) := by go_grown
  generalize ((w5.alloc (.cells (Lc.arr (.slice B5 m5 d5) (.slice B6 m6 d6)) 30)).alloc (.cells (Rc.arr (.slice B7 m7 d7) (.slice B8 m8 d8)) 30)) = w6 at *
  replace b0 := b0.below hb56 b0.lt
  replace b1 := b1.below hb56 b1.lt
  replace b2 := b2.below hb56 b2.lt
  replace c12 := c12.below hb56 c12.lt
  have W6 : Below w.heap.size w w6 := W5.trans (hb56.mono W5.size)
  replace r3 := (r3.below HsRel.kept hb56).more HsRel.kept hb56.size
  replace r4 := (r4.below PnRel.kept hb56).more PnRel.kept hb56.size
  replace r5 := (r5.below HsRel.kept hb56).more HsRel.kept hb56.size
  replace r6 := (r6.below PnRel.kept hb56).more PnRel.kept hb56.size
  clear hb56
  generalize w5.heap.size = g14 at *
  by_cases hgood : Ea = 0 ∧ Ec = 0
  · obtain ⟨rfl, rfl⟩ := hgood
    obtain ⟨hLa, hRa, hEa, hLc, hRc, hEc⟩ := HE.out
    have ra : rightS s p 11 st fl = Ra := (HLa.out hEa).symm.trans hRa
    have lc : leftS s q 12 = Lc := (HLc.out hEc).symm.trans hLc
    obtain ⟨t1, t2, t3, t4, t5, t6⟩ := HT.out hEa hEc
    have rasm : SmallH Ra.h ∧ SmallP Ra.p := by rw [← ra]; exact right_small hsm
    have lcsm : SmallH Lc.h ∧ SmallP Lc.p := by rw [← lc]; exact left_small hsm
    have raok : Ra.r.ok := by rw [← ra]; exact (split_ok_r hok hp (by unfold i64ok; omega)).2
    have lcok : Lc.r.ok := by rw [← lc]; exact (split_ok_r hok hq (by unfold i64ok; omega)).1
    rw [ra] at t1 t3 t4 t5 t6
    rw [lc] at t2 t3 t4 t5 t6
    have xe : divL Ra q 12 st fl = leftS Ra q 12 := by unfold divL; rw [if_pos t1]
    have ye : divR Lc p 11 st fl = rightS Lc p 11 st fl := by unfold divR; rw [if_pos t2]
    have xsm := left_small (x := q) (k := 12) rasm
    have ysm := right_small (x := p) (k := 11) (st := st) (fl := fl) lcsm
    rw [← xe] at t3 t4 t5 t6 xsm
    rw [← ye] at t3 t4 t5 t6 ysm
    have HD3 := Lib.hid (fun A1 A2 n1 n2 c1 c2 w h1 h2 => divide_named Ra A1 A2 n1 n2 c1 c2 q 12 st fl w raok hq h1 h2 rasm.1 rasm.2 (divL Ra q 12 st fl) (divR Ra q 12 st fl) 0 rfl rfl t1)
    have HD4 := Lib.hid (fun A1 A2 n1 n2 c1 c2 w h1 h2 => divide_named Lc A1 A2 n1 n2 c1 c2 p 11 st fl w lcok hp h1 h2 lcsm.1 lcsm.2 (divL Lc p 11 st fl) (divR Lc p 11 st fl) 0 rfl rfl t2)
    clear hLa hRa hEa hLc hRc hEc ra lc xe ye t1 t2
    generalize divL Ra q 12 st fl = X at *
    generalize divR Ra q 12 st fl = X2 at *
    generalize divL Lc p 11 st fl = Y2 at *
    generalize divR Lc p 11 st fl = Y at *
    have T3 := Lib.hid t3
    have T4 := Lib.hid t4
    have hb1 := fun w => rbits X.r.lo Y.r.lo w
    have hb2 := fun w => rbits X.r.hi Y.r.hi w
    rw [show (((X.r.lo : Int) == Y.r.lo)) = true from by rw [t5]; simp] at hb1
    rw [show (((X.r.hi : Int) == Y.r.hi)) = true from by rw [t6]; simp] at hb2
    clear t3 t4 t5 t6
    obtain ⟨g0, -, -, -, -, -, -, -, -, -, -, -, -⟩ := b0.dozen
    obtain ⟨g1, s0, s1, s2⟩ := b1.three
    obtain ⟨g2, q0, q1, q2⟩ := b2.three
    obtain ⟨g12, z0, z1, z2, z3, z4, z5, z6, z7, z8, z9, z10, z11⟩ := c12.dozen
    go_wp2_with (go_at_call 10; fail)
    refine (HD3.out B3 B4 m3 m4 d3 d4 w6 r3 r4).mono ?_
    rintro e w7 ⟨C1, o1, f1, C2, o2, f2, C3, o3, f3, C4, o4, f4, rfl, x1, x2, x3, x4, hb7⟩
    have W7 : Below w.heap.size w w7 := W6.trans (hb7.mono W6.size)
    replace b0 := b0.below hb7 b0.lt
    replace b1 := b1.below hb7 b1.lt
    replace b2 := b2.below hb7 b2.lt
    replace c14 := c14.below hb7 c14.lt
    replace r5 := (r5.below HsRel.kept hb7).more HsRel.kept hb7.size
    replace r6 := (r6.below PnRel.kept hb7).more PnRel.kept hb7.size
    clear g0 g1 s0 s1 s2 g2 q0 q1 q2 g12 z0 z1 z2 z3 z4 z5 z6 z7 z8 z9 z10 z11 x3 x4 hb7 c12 r3 r4
    obtain ⟨g0, -, -, -, -, -, -, -, -, -, -, -, -⟩ := b0.dozen
    obtain ⟨g1, s0, s1, s2⟩ := b1.three
    obtain ⟨g2, q0, q1, q2⟩ := b2.three
    obtain ⟨g14', z0, z1, z2, z3, z4, z5, z6, z7, z8, z9, z10, z11⟩ := c14.dozen
    have g01 : w.heap.size < w7.heap.size + 1 := by omega
    have g011 : w.heap.size + 1 < w7.heap.size + 1 := by omega
    have g21 : w.heap.size + 1 + 1 < w7.heap.size + 1 := by omega
    have g141 : g14 < w7.heap.size + 1 := by omega
    go_wp2_with (first
      | (refine wpList_store_new rfl 30 _ _ rfl _ rfl rfl _ _ (by kernel_rfl) (by kernel_rfl) (by kernel_rfl) ?_)
      | (refine wpList_store_new2 rfl 30 _ _ rfl _ rfl rfl _ _ _ (by kernel_rfl) (by kernel_rfl) (by kernel_rfl) ?_)
      | (go_at_call 10; fail))
    have c17 : Blk ((w7.alloc (.cells (X.arr (.slice C1 o1 f1) (.slice C2 o2 f2)) 30)).alloc (.cells (X2.arr (.slice C3 o3 f3) (.slice C4 o4 f4)) 30)) w7.heap.size 30 (X.arr (.slice C1 o1 f1) (.slice C2 o2 f2)) := (Blk.new _ _ _).alloc _
    have hb78 : Below w7.heap.size w7 ((w7.alloc (.cells (X.arr (.slice C1 o1 f1) (.slice C2 o2 f2)) 30)).alloc (.cells (X2.arr (.slice C3 o3 f3) (.slice C4 o4 f4)) 30)) := by go_grown
    generalize ((w7.alloc (.cells (X.arr (.slice C1 o1 f1) (.slice C2 o2 f2)) 30)).alloc (.cells (X2.arr (.slice C3 o3 f3) (.slice C4 o4 f4)) 30)) = w8 at *
    have W8 : Below w.heap.size w w8 := W7.trans (hb78.mono W7.size)
    replace r5 := (r5.below HsRel.kept hb78).more HsRel.kept hb78.size
    replace r6 := (r6.below PnRel.kept hb78).more PnRel.kept hb78.size
    replace x1 := (x1.below HsRel.kept hb78).more HsRel.kept hb78.size
    replace x2 := (x2.below PnRel.kept hb78).more PnRel.kept hb78.size
    clear g0 g1 s0 s1 s2 g2 q0 q1 q2 g14' z0 z1 z2 z3 z4 z5 z6 z7 z8 z9 z10 z11 hb78 c14 b0 b1 b2 g01 g011 g21 g141
    refine (HD4.out B5 B6 m5 m6 d5 d6 w8 r5 r6).mono ?_
    rintro e w9 ⟨D1, k1, l1, D2, k2, l2, D3, k3, l3, D4, k4, l4, rfl, y1, y2, y3, y4, hb9⟩
    have W9 : Below w.heap.size w w9 := W8.trans (hb9.mono W8.size)
    replace c17 := c17.below hb9 c17.lt
    replace x1 := (x1.below HsRel.kept hb9).more HsRel.kept hb9.size
    replace x2 := (x2.below PnRel.kept hb9).more PnRel.kept hb9.size
    generalize w7.heap.size = g17 at *
    clear hb9 y1 y2 r5 r6
    go_upto_region 11 with (first
      | (refine wpList_store_new rfl 30 _ _ rfl _ rfl rfl _ _ (by kernel_rfl) (by kernel_rfl) (by kernel_rfl) ?_)
      | (refine wpList_store_new2 rfl 30 _ _ rfl _ rfl rfl _ _ _ (by kernel_rfl) (by kernel_rfl) (by kernel_rfl) ?_))
    have c21 : Blk ((w9.alloc (.cells (Y2.arr (.slice D1 k1 l1) (.slice D2 k2 l2)) 30)).alloc (.cells (Y.arr (.slice D3 k3 l3) (.slice D4 k4 l4)) 30)) (w9.heap.size + 1) 30 (Y.arr (.slice D3 k3 l3) (.slice D4 k4 l4)) := Blk.new' _ _ (by simp)
    have hb90 : Below w9.heap.size w9 ((w9.alloc (.cells (Y2.arr (.slice D1 k1 l1) (.slice D2 k2 l2)) 30)).alloc (.cells (Y.arr (.slice D3 k3 l3) (.slice D4 k4 l4)) 30)) := by go_grown
    generalize ((w9.alloc (.cells (Y2.arr (.slice D1 k1 l1) (.slice D2 k2 l2)) 30)).alloc (.cells (Y.arr (.slice D3 k3 l3) (.slice D4 k4 l4)) 30)) = wa at *
    have Wa : Below w.heap.size w wa := W9.trans (hb90.mono W9.size)
    replace c17 := c17.below hb90 c17.lt
    replace x1 := (x1.below HsRel.kept hb90).more HsRel.kept hb90.size
    replace x2 := (x2.below PnRel.kept hb90).more PnRel.kept hb90.size
    replace y3 := (y3.below HsRel.kept hb90).more HsRel.kept hb90.size
    replace y4 := (y4.below PnRel.kept hb90).more PnRel.kept hb90.size
    clear hb90
    generalize w9.heap.size = g20 at *
    have mX := xsm.1.1
    have mX2 := xsm.2.1
    have mY2 := ysm.2.1
    have lx1 := x1.1
    have lx2 := x2.1
    have ly4 := y4.1
    have HH := Lib.hid (fun w' (hb : Below wa.heap.size wa w') => hists_same C1 D3 o1 k3 f1 l3 X.h w' ((x1.below HsRel.kept hb).more HsRel.kept hb.size) (by rw [T3.out]; exact (y3.below HsRel.kept hb).more HsRel.kept hb.size) (by unfold maxLen; omega))
    have HA := Lib.hid (fun w' (hb : Below wa.heap.size wa w') => alike_any C2 D4 o2 k4 f2 l4 X.p Y.p w' ((x2.below PnRel.kept hb).more PnRel.kept hb.size) ((y4.below PnRel.kept hb).more PnRel.kept hb.size) (by omega) (by omega) xsm.2.2 ysm.2.2 T4.out)
    clear lx1 lx2 ly4 mX mX2 mY2 x1 x2 y3 y4
    go_wp2_with (first
      | ((with_reducible refine (first_any _).mono ?_); rintro e wb ⟨rfl, hbb⟩
         have c17b := c17.below hbb c17.lt
         have c21b := c21.below hbb c21.lt
         obtain ⟨i1, z0, z1, z2, z3, z4, z5, z6, z7, z8, z9, z10, z11⟩ := c17b.dozen
         obtain ⟨i2, u0, u1, u2, u3, u4, u5, u6, u7, u8, u9, u10, u11⟩ := c21b.dozen)
      | ((with_reducible refine (HH.out _ hbb).mono ?_); rintro e wc ⟨rfl, hbc⟩
         have hbbc := hbb.trans (hbc.mono hbb.size)
         have c17c := c17.below hbbc c17.lt
         have c21c := c21.below hbbc c21.lt
         obtain ⟨i1', z0', z1', z2', z3', z4', z5', z6', z7', z8', z9', z10', z11'⟩ := c17c.dozen
         obtain ⟨i2', u0', u1', u2', u3', u4', u5', u6', u7', u8', u9', u10', u11'⟩ := c21c.dozen)
      | ((with_reducible refine (HA.out _ hbbc).mono ?_); rintro e wd ⟨rfl, hbd⟩
         have hbbd := hbbc.trans (hbd.mono hbbc.size)
         have c17d := c17.below hbbd c17.lt
         have c21d := c21.below hbbd c21.lt
         obtain ⟨j1, v0, v1, v2, v3, -, -, -, -, -, -, -, -⟩ := c17d.dozen
         obtain ⟨j2, t0, t1, t2, t3, -, -, -, -, -, -, -, -⟩ := c21d.dozen)
      | ((with_reducible refine (hb1 _).mono ?_); rintro e we ⟨rfl, rfl⟩)
      | ((with_reducible refine (hb2 _).mono ?_); rintro e we ⟨rfl, rfl⟩))
    go_ret
    exact ⟨rfl, Wa.trans (hbbd.mono Wa.size)⟩
  · have hq1 : (Ea != 0) = true ∨ ((Ea != 0) = false ∧ (Ec != 0) = true) := by
      by_cases he : Ea = 0
      · exact .inr ⟨by simp [he], by simp; exact fun e => hgood ⟨he, e⟩⟩
      · exact .inl (by simp [he])
    clear hgood
    rcases hq1 with hq1 | ⟨hq1, hq2⟩
    all_goals
      go_wp2_with ((with_reducible refine (first_any _).mono ?_); rintro e wb ⟨rfl, hbb⟩)
      go_ret
      exact ⟨rfl, W6.trans (hbb.mono W6.size)⟩

theorem twice_any (s : Stt) (A1 A2 : Option Addr) (n1 n2 c1 c2 : Nat) (p q : Nat) (st fl : Sp) (w : World) (hok : s.r.ok) (hp : p < 18446744073709551616) (hq : q < 18446744073709551616) (h1 : Sl HsRel 2 w w.heap.size A1 n1 s.h) (h2 : Sl PnRel 8 w w.heap.size A2 n2 s.p) (hn1 : n1 ≤ maxLen) (hn2 : n2 ≤ maxLen) :
    Calls Try.prog 5 #[.agg (s.arr (.slice A1 n1 c1) (.slice A2 n2 c2)), .float .f64 p, .float .f64 q, st.val, fl.val] w fun e w' => e = .returned (.bool true) ∧ Below w.heap.size w w' := by
  by_cases hin : weighS 20000 s ≤ 20000
  · cases hpq : flt p q
    · exact twice_out s A1 A2 n1 n2 c1 c2 p q st fl w h1 h2 hn1 hn2 (.inr ⟨decide_eq_true hin, .inl hpq⟩)
    · by_cases hep : s.r.ep ≤ 4611686018427387904
      · exact twice_in s A1 A2 n1 n2 c1 c2 p q st fl w hok hp hq h1 h2 hn1 hn2 hin hpq hep
      · exact twice_out s A1 A2 n1 n2 c1 c2 p q st fl w h1 h2 hn1 hn2 (.inr ⟨decide_eq_true hin, .inr ⟨hpq, by omega⟩⟩)
  · exact twice_out s A1 A2 n1 n2 c1 c2 p q st fl w h1 h2 hn1 hn2 (.inl (decide_eq_false hin))
end Go.Proofs.Ytipacjbegfingaa

/- The document's Divide, whatever the state; the walk of HandDivides. -/
namespace Go.Proofs.Ytipacjbegfingaa
set_option linter.unusedVariables false
open Go.RowKit Fl
attribute [local go_sem] run_store_float

/-- the document's Divide, whatever the state -/
theorem rdivide_any (s : Stt) (A1 A2 : Option Addr) (n1 n2 c1 c2 : Nat) (x : Nat) (k : Int) (st fl : Sp) (w : World) (hok : s.r.ok) (hx : x < 18446744073709551616) (h1 : Sl HsRel 2 w w.heap.size A1 n1 s.h) (h2 : Sl PnRel 8 w w.heap.size A2 n2 s.p) (hH : SmallH s.h) (hQ : SmallP s.p) :
    Calls Try.prog 11 #[.agg (s.arr (.slice A1 n1 c1) (.slice A2 n2 c2)), .float .f64 x, .int .i64 k, st.val, fl.val] w (DivPostS w (divL s x k st fl) (divR s x k st fl) (divE s x k st fl)) := by
  by_cases hm : mayS s = true
  · by_cases hsf : (!st.may || !fl.may) = true
    · have e : divE s x k st fl = 17 := by unfold divE; rw [hm, hsf]; rfl
      unfold divL divR
      rw [e]
      exact rdivide_b s A1 A2 n1 n2 c1 c2 x k st fl w hok h1 h2 hH hQ hm hsf
    · have h4 : st.may = true := by cases h : st.may <;> simp_all
      have h5 : fl.may = true := by cases h : fl.may <;> simp_all
      have e : divE s x k st fl = splitE s.r x k := by unfold divE; rw [hm, h4, h5]; rfl
      unfold divL divR
      rw [e]
      by_cases hE : splitE s.r x k = 0
      · rw [if_pos hE, if_pos hE, hE]
        exact rdivide_d s A1 A2 n1 n2 c1 c2 x k st fl w hok hx h1 h2 hH hQ hm h4 h5 hE
      · rw [if_neg hE, if_neg hE]
        exact rdivide_c s A1 A2 n1 n2 c1 c2 x k st fl w hok hx h1 h2 hH hQ hm h4 h5 hE
  · have hm' : mayS s = false := by simpa using hm
    have e : divE s x k st fl = 4 := by unfold divE; rw [hm']; rfl
    unfold divL divR
    rw [e]
    exact rdivide_a s A1 A2 n1 n2 c1 c2 x k st fl w hok h1 h2 hH hQ hm'

theorem rdivide_named (s : Stt) (A1 A2 : Option Addr) (n1 n2 c1 c2 : Nat) (x : Nat) (k : Int) (st fl : Sp) (w : World) (hok : s.r.ok) (hx : x < 18446744073709551616) (h1 : Sl HsRel 2 w w.heap.size A1 n1 s.h) (h2 : Sl PnRel 8 w w.heap.size A2 n2 s.p) (hH : SmallH s.h) (hQ : SmallP s.p)
    (L R : Stt) (e : Int) (hL : divL s x k st fl = L) (hR : divR s x k st fl = R) (hE : divE s x k st fl = e) :
    Calls Try.prog 11 #[.agg (s.arr (.slice A1 n1 c1) (.slice A2 n2 c2)), .float .f64 x, .int .i64 k, st.val, fl.val] w fun en w' => ∃ B1 m1 d1 B2 m2 d2 B3 m3 d3 B4 m4 d4, en = .returned (.tuple #[.agg (L.arr (.slice B1 m1 d1) (.slice B2 m2 d2)), .agg (R.arr (.slice B3 m3 d3) (.slice B4 m4 d4)), .int .i64 e]) ∧
      Sl HsRel 2 w' w'.heap.size B1 m1 L.h ∧ Sl PnRel 8 w' w'.heap.size B2 m2 L.p ∧ Sl HsRel 2 w' w'.heap.size B3 m3 R.h ∧ Sl PnRel 8 w' w'.heap.size B4 m4 R.p ∧ Below w.heap.size w w' := by
  subst hL hR hE
  refine (rdivide_any s A1 A2 n1 n2 c1 c2 x k st fl w hok hx h1 h2 hH hQ).mono ?_
  rintro en w' ⟨v1, v2, v3, v4, rfl, ⟨B1, m1, d1, rfl, -, -, r1⟩, ⟨B2, m2, d2, rfl, -, -, r2⟩, ⟨B3, m3, d3, rfl, -, -, r3⟩, ⟨B4, m4, d4, rfl, -, -, r4⟩, hb⟩
  exact ⟨B1, m1, d1, B2, m2, d2, B3, m3, d3, B4, m4, d4, rfl, r1, r2, r3, r4, hb⟩

set_option maxRecDepth 100000 in
set_option maxHeartbeats 4000000 in
theorem divides_out (s : Stt) (A1 A2 : Option Addr) (n1 n2 c1 c2 : Nat) (x : Nat) (k : Int) (st fl : Sp) (w : World) (h1 : Sl HsRel 2 w w.heap.size A1 n1 s.h) (h2 : Sl PnRel 8 w w.heap.size A2 n2 s.p) (hn1 : n1 ≤ maxLen) (hn2 : n2 ≤ maxLen)
    (hout : decide (weighS 20000 s ≤ 20000) = false) :
    Calls Try.prog 3 #[.agg (s.arr (.slice A1 n1 c1) (.slice A2 n2 c2)), .float .f64 x, .int .i64 k, st.val, fl.val] w fun e w' => e = .returned (.bool true) ∧ Below w.heap.size w w' := by
  have hF := fun w' (hb : Below w.heap.size w w') => few_any s A1 A2 n1 n2 c1 c2 w' ((h1.below HsRel.kept hb).more HsRel.kept hb.size) ((h2.below PnRel.kept hb).more PnRel.kept hb.size) hn1 hn2
  have hB0 := (((Blk.new w 30 (s.arr (.slice A1 n1 c1) (.slice A2 n2 c2))).alloc (.cells st.arr 26)).alloc (.cells fl.arr 26))
  have hX : Below w.heap.size w (((w.alloc (.cells (s.arr (.slice A1 n1 c1) (.slice A2 n2 c2)) 30)).alloc (.cells st.arr 26)).alloc (.cells fl.arr 26)) := by go_grown
  rw [hout] at hF
  clear hout
  go_enter Try.func3, Try.ntmps3
  go_wp2_with (go_at_call 7; fail)
  refine (first_any _).mono ?_
  rintro e w1 ⟨rfl, hb1⟩
  have b0 := hB0.below hb1 hB0.lt
  have hY := hX.trans (hb1.mono hX.size)
  obtain ⟨g0, z0, z1, z2, z3, z4, z5, z6, z7, z8, z9, z10, z11⟩ := b0.dozen
  go_wp2_with (first
    | ((with_reducible refine (hF _ hY).mono ?_); rintro e w2 ⟨rfl, hb2⟩
       have b02 := b0.below hb2 b0.lt
       have hZ := hY.trans (hb2.mono hY.size)
       obtain ⟨g02, u0, u1, u2, u3, u4, u5, u6, u7, u8, u9, u10, u11⟩ := b02.dozen)
    | ((with_reducible refine (first_any _).mono ?_); rintro e w3 ⟨rfl, hb3⟩))
  go_ret
  exact ⟨rfl, hZ.trans (hb3.mono hZ.size)⟩

set_option maxRecDepth 100000 in
set_option maxHeartbeats 8000000 in
theorem divides_in (s : Stt) (A1 A2 : Option Addr) (n1 n2 c1 c2 : Nat) (x : Nat) (k : Int) (st fl : Sp) (w : World) (hok : s.r.ok) (hx : x < 18446744073709551616) (h1 : Sl HsRel 2 w w.heap.size A1 n1 s.h) (h2 : Sl PnRel 8 w w.heap.size A2 n2 s.p) (hn1 : n1 ≤ maxLen) (hn2 : n2 ≤ maxLen)
    (hin : weighS 20000 s ≤ 20000) :
    Calls Try.prog 3 #[.agg (s.arr (.slice A1 n1 c1) (.slice A2 n2 c2)), .float .f64 x, .int .i64 k, st.val, fl.val] w fun e w' => e = .returned (.bool true) ∧ Below w.heap.size w w' := by
  have hsm := weighS_small (by omega) (by omega) hin
  have hF := fun w' (hb : Below w.heap.size w w') => few_any s A1 A2 n1 n2 c1 c2 w' ((h1.below HsRel.kept hb).more HsRel.kept hb.size) ((h2.below PnRel.kept hb).more PnRel.kept hb.size) hn1 hn2
  rw [decide_eq_true hin] at hF
  have hB0 := (((Blk.new w 30 (s.arr (.slice A1 n1 c1) (.slice A2 n2 c2))).alloc (.cells st.arr 26)).alloc (.cells fl.arr 26))
  have hB1 := (Blk.new' (w := w.alloc (.cells (s.arr (.slice A1 n1 c1) (.slice A2 n2 c2)) 30)) (g := w.heap.size + 1) 26 st.arr (by simp)).alloc (.cells fl.arr 26)
  have hB2 := Blk.new' (w := (w.alloc (.cells (s.arr (.slice A1 n1 c1) (.slice A2 n2 c2)) 30)).alloc (.cells st.arr 26)) (g := w.heap.size + 1 + 1) 26 fl.arr (by simp)
  have hX : Below w.heap.size w (((w.alloc (.cells (s.arr (.slice A1 n1 c1) (.slice A2 n2 c2)) 30)).alloc (.cells st.arr 26)).alloc (.cells fl.arr 26)) := by go_grown
  clear hin
  have hLsm : SmallH (divL s x k st fl).h ∧ SmallP (divL s x k st fl).p := by
    unfold divL
    by_cases h : divE s x k st fl = 0
    · rw [if_pos h]; exact left_small hsm
    · rw [if_neg h]; exact ⟨⟨Nat.zero_le _, fun _ h => absurd h List.not_mem_nil⟩, ⟨Nat.zero_le _, fun _ h => absurd h List.not_mem_nil⟩⟩
  have hRsm : SmallH (divR s x k st fl).h ∧ SmallP (divR s x k st fl).p := by
    unfold divR
    by_cases h : divE s x k st fl = 0
    · rw [if_pos h]; exact right_small hsm
    · rw [if_neg h]; exact ⟨⟨Nat.zero_le _, fun _ h => absurd h List.not_mem_nil⟩, ⟨Nat.zero_le _, fun _ h => absurd h List.not_mem_nil⟩⟩
  obtain ⟨L, hL⟩ : ∃ L, divL s x k st fl = L := ⟨_, rfl⟩
  obtain ⟨R, hR⟩ : ∃ L, divR s x k st fl = L := ⟨_, rfl⟩
  obtain ⟨E, hE⟩ : ∃ L, divE s x k st fl = L := ⟨_, rfl⟩
  rw [hL] at hLsm
  rw [hR] at hRsm
  have HD := Lib.hid (fun A1 A2 n1 n2 c1 c2 w h1 h2 => divide_named s A1 A2 n1 n2 c1 c2 x k st fl w hok hx h1 h2 hsm.1 hsm.2 L R E hL hR hE)
  have HR := Lib.hid (fun A1 A2 n1 n2 c1 c2 w h1 h2 => rdivide_named s A1 A2 n1 n2 c1 c2 x k st fl w hok hx h1 h2 hsm.1 hsm.2 L R E hL hR hE)
  clear hL hR hE
  have hEE : (E == E) = true := by simp
  go_enter Try.func3, Try.ntmps3
  go_wp2_with (go_at_call 7; fail)
  refine (first_any _).mono ?_
  rintro e w1 ⟨rfl, hb1⟩
  have b0 := hB0.below hb1 hB0.lt
  have hY := hX.trans (hb1.mono hX.size)
  obtain ⟨g0, z0, z1, z2, z3, z4, z5, z6, z7, z8, z9, z10, z11⟩ := b0.dozen
  go_wp2_with (first
    | ((with_reducible refine (hF _ hY).mono ?_); rintro e w2 ⟨rfl, hb2⟩
       have hb12 := hb1.trans (hb2.mono hb1.size)
       have b0 := hB0.below hb12 hB0.lt
       have b1 := hB1.below hb12 hB1.lt
       have b2 := hB2.below hb12 hB2.lt
       have hZ := hX.trans (hb12.mono hX.size)
       obtain ⟨g02, u0, u1, u2, u3, u4, u5, u6, u7, u8, u9, u10, u11⟩ := b0.dozen)
    | (go_at_call 9; fail))
  refine (copyS_any s A1 A2 n1 n2 c1 c2 w2 ((h1.below HsRel.kept hZ).more HsRel.kept hZ.size) ((h2.below PnRel.kept hZ).more PnRel.kept hZ.size) hsm.1 hsm.2).mono ?_
  rintro e w3 ⟨B1, m1, d1, B2, m2, d2, rfl, r1, r2, hb3⟩
  have W3 : Below w.heap.size w w3 := hZ.trans (hb3.mono hZ.size)
  replace b0 := b0.below hb3 b0.lt
  replace b1 := b1.below hb3 b1.lt
  replace b2 := b2.below hb3 b2.lt
  clear hb1 hb2 hb12 hY hZ g0 z0 z1 z2 z3 z4 z5 z6 z7 z8 z9 z10 z11 g02 u0 u1 u2 u3 u4 u5 u6 u7 u8 u9 u10 u11 hb3 hF hB0 hB1 hB2 hX
  obtain ⟨g0, -, -, -, -, -, -, -, -, -, -, -, -⟩ := b0.dozen
  obtain ⟨g1, s0, s1, s2⟩ := b1.three
  obtain ⟨g2, q0, q1, q2⟩ := b2.three
  have g01 : w.heap.size < w3.heap.size + 1 := by omega
  have g11 : w.heap.size + 1 < w3.heap.size + 1 := by omega
  have g21 : w.heap.size + 1 + 1 < w3.heap.size + 1 := by omega
  go_wp2_with (first
    | (refine wpList_store_new rfl 30 _ _ rfl _ rfl rfl _ _ (by kernel_rfl) (by kernel_rfl) (by kernel_rfl) ?_)
    | (go_at_call 10; fail))
  have c3 := Blk.new w3 30 (s.arr (.slice B1 m1 d1) (.slice B2 m2 d2))
  have hb34 : Below w3.heap.size w3 (w3.alloc (.cells (s.arr (.slice B1 m1 d1) (.slice B2 m2 d2)) 30)) := by go_grown
  generalize (w3.alloc (.cells (s.arr (.slice B1 m1 d1) (.slice B2 m2 d2)) 30)) = w4 at *
  replace b0 := b0.below hb34 b0.lt
  replace b1 := b1.below hb34 b1.lt
  replace b2 := b2.below hb34 b2.lt
  have W4 : Below w.heap.size w w4 := W3.trans (hb34.mono W3.size)
  replace r1 := (r1.below HsRel.kept hb34).more HsRel.kept hb34.size
  replace r2 := (r2.below PnRel.kept hb34).more PnRel.kept hb34.size
  clear g0 g1 s0 s1 s2 g2 q0 q1 q2 g01 g11 g21 hb34
  generalize w3.heap.size = g3 at *
  refine (HD.out B1 B2 m1 m2 d1 d2 w4 r1 r2).mono ?_
  rintro e w5 ⟨B3, m3, d3, B4, m4, d4, B5, m5, d5, B6, m6, d6, rfl, r3, r4, r5, r6, hb5⟩
  have W5 : Below w.heap.size w w5 := W4.trans (hb5.mono W4.size)
  replace b0 := b0.below hb5 b0.lt
  replace b1 := b1.below hb5 b1.lt
  replace b2 := b2.below hb5 b2.lt
  replace c3 := c3.below hb5 c3.lt
  replace r1 := (r1.below HsRel.kept hb5).more HsRel.kept hb5.size
  replace r2 := (r2.below PnRel.kept hb5).more PnRel.kept hb5.size
  clear hb5
  obtain ⟨g0, z0, z1, z2, z3, z4, z5, z6, z7, z8, z9, z10, z11⟩ := b0.dozen
  obtain ⟨g1, s0, s1, s2⟩ := b1.three
  obtain ⟨g2, q0, q1, q2⟩ := b2.three
  have g01 : w.heap.size < w5.heap.size + 1 := by omega
  have g11 : w.heap.size + 1 < w5.heap.size + 1 := by omega
  have g21 : w.heap.size + 1 + 1 < w5.heap.size + 1 := by omega
  go_wp2_with (first
    | (refine wpList_store_new rfl 30 _ _ rfl _ rfl rfl _ _ (by kernel_rfl) (by kernel_rfl) (by kernel_rfl) ?_)
    | (refine wpList_store_new2 rfl 30 _ _ rfl _ rfl rfl _ _ _ (by kernel_rfl) (by kernel_rfl) (by kernel_rfl) ?_)
    | (go_at_call 11; fail))
  have c11 : Blk ((w5.alloc (.cells (L.arr (.slice B3 m3 d3) (.slice B4 m4 d4)) 30)).alloc (.cells (R.arr (.slice B5 m5 d5) (.slice B6 m6 d6)) 30)) w5.heap.size 30 (L.arr (.slice B3 m3 d3) (.slice B4 m4 d4)) := (Blk.new _ _ _).alloc _
  have c12 : Blk ((w5.alloc (.cells (L.arr (.slice B3 m3 d3) (.slice B4 m4 d4)) 30)).alloc (.cells (R.arr (.slice B5 m5 d5) (.slice B6 m6 d6)) 30)) (w5.heap.size + 1) 30 (R.arr (.slice B5 m5 d5) (.slice B6 m6 d6)) := Blk.new' _ _ (by simp)
  have hb56 : Below w5.heap.size w5 ((w5.alloc (.cells (L.arr (.slice B3 m3 d3) (.slice B4 m4 d4)) 30)).alloc (.cells (R.arr (.slice B5 m5 d5) (.slice B6 m6 d6)) 30)) := by go_grown
  generalize ((w5.alloc (.cells (L.arr (.slice B3 m3 d3) (.slice B4 m4 d4)) 30)).alloc (.cells (R.arr (.slice B5 m5 d5) (.slice B6 m6 d6)) 30)) = w6 at *
  replace b0 := b0.below hb56 b0.lt
  replace c3 := c3.below hb56 c3.lt
  have W6 : Below w.heap.size w w6 := W5.trans (hb56.mono W5.size)
  replace r1 := (r1.below HsRel.kept hb56).more HsRel.kept hb56.size
  replace r2 := (r2.below PnRel.kept hb56).more PnRel.kept hb56.size
  replace r3 := (r3.below HsRel.kept hb56).more HsRel.kept hb56.size
  replace r4 := (r4.below PnRel.kept hb56).more PnRel.kept hb56.size
  replace r5 := (r5.below HsRel.kept hb56).more HsRel.kept hb56.size
  replace r6 := (r6.below PnRel.kept hb56).more PnRel.kept hb56.size
  clear g0 z0 z1 z2 z3 z4 z5 z6 z7 z8 z9 z10 z11 g1 s0 s1 s2 g2 q0 q1 q2 g01 g11 g21 hb56 b1 b2
  generalize w5.heap.size = g5 at *
  refine (HR.out A1 A2 n1 n2 c1 c2 w6 ((h1.below HsRel.kept W6).more HsRel.kept W6.size) ((h2.below PnRel.kept W6).more PnRel.kept W6.size)).mono ?_
  rintro e w7 ⟨C3, k3, l3, C4, k4, l4, C5, k5, l5, C6, k6, l6, rfl, t3, t4, t5, t6, hb7⟩
  have W7 : Below w.heap.size w w7 := W6.trans (hb7.mono W6.size)
  replace b0 := b0.below hb7 b0.lt
  replace c3 := c3.below hb7 c3.lt
  replace c11 := c11.below hb7 c11.lt
  replace c12 := c12.below hb7 c12.lt
  replace r1 := (r1.below HsRel.kept hb7).more HsRel.kept hb7.size
  replace r2 := (r2.below PnRel.kept hb7).more PnRel.kept hb7.size
  replace r3 := (r3.below HsRel.kept hb7).more HsRel.kept hb7.size
  replace r4 := (r4.below PnRel.kept hb7).more PnRel.kept hb7.size
  replace r5 := (r5.below HsRel.kept hb7).more HsRel.kept hb7.size
  replace r6 := (r6.below PnRel.kept hb7).more PnRel.kept hb7.size
  clear hb7
  go_wp2_with (first
    | (refine wpList_store_new rfl 30 _ _ rfl _ rfl rfl _ _ (by kernel_rfl) (by kernel_rfl) (by kernel_rfl) ?_)
    | (refine wpList_store_new2 rfl 30 _ _ rfl _ rfl rfl _ _ _ (by kernel_rfl) (by kernel_rfl) (by kernel_rfl) ?_)
    | (go_at_call 7; fail))
  have c21 : Blk ((w7.alloc (.cells (L.arr (.slice C3 k3 l3) (.slice C4 k4 l4)) 30)).alloc (.cells (R.arr (.slice C5 k5 l5) (.slice C6 k6 l6)) 30)) w7.heap.size 30 (L.arr (.slice C3 k3 l3) (.slice C4 k4 l4)) := (Blk.new _ _ _).alloc _
  have c22 : Blk ((w7.alloc (.cells (L.arr (.slice C3 k3 l3) (.slice C4 k4 l4)) 30)).alloc (.cells (R.arr (.slice C5 k5 l5) (.slice C6 k6 l6)) 30)) (w7.heap.size + 1) 30 (R.arr (.slice C5 k5 l5) (.slice C6 k6 l6)) := Blk.new' _ _ (by simp)
  have hb78 : Below w7.heap.size w7 ((w7.alloc (.cells (L.arr (.slice C3 k3 l3) (.slice C4 k4 l4)) 30)).alloc (.cells (R.arr (.slice C5 k5 l5) (.slice C6 k6 l6)) 30)) := by go_grown
  generalize ((w7.alloc (.cells (L.arr (.slice C3 k3 l3) (.slice C4 k4 l4)) 30)).alloc (.cells (R.arr (.slice C5 k5 l5) (.slice C6 k6 l6)) 30)) = w8 at *
  have W8 : Below w.heap.size w w8 := W7.trans (hb78.mono W7.size)
  replace b0 := b0.below hb78 b0.lt
  replace c3 := c3.below hb78 c3.lt
  replace c11 := c11.below hb78 c11.lt
  replace c12 := c12.below hb78 c12.lt
  replace r1 := (r1.below HsRel.kept hb78).more HsRel.kept hb78.size
  replace r2 := (r2.below PnRel.kept hb78).more PnRel.kept hb78.size
  replace r3 := (r3.below HsRel.kept hb78).more HsRel.kept hb78.size
  replace r4 := (r4.below PnRel.kept hb78).more PnRel.kept hb78.size
  replace r5 := (r5.below HsRel.kept hb78).more HsRel.kept hb78.size
  replace r6 := (r6.below PnRel.kept hb78).more PnRel.kept hb78.size
  replace t3 := (t3.below HsRel.kept hb78).more HsRel.kept hb78.size
  replace t4 := (t4.below PnRel.kept hb78).more PnRel.kept hb78.size
  replace t5 := (t5.below HsRel.kept hb78).more HsRel.kept hb78.size
  replace t6 := (t6.below PnRel.kept hb78).more PnRel.kept hb78.size
  clear hb78
  generalize w7.heap.size = g7 at *
  have e1 := r1.1
  have e2 := r2.1
  have e3 := r3.1
  have e4 := r4.1
  have e5 := r5.1
  have e6 := r6.1
  have f1 := hsm.1.1
  have f2 := hsm.2.1
  have f3 := hLsm.1.1
  have f4 := hLsm.2.1
  have f5 := hRsm.1.1
  have f6 := hRsm.2.1
  have HS1 := Lib.hid (fun w' (hb : Below w8.heap.size w8 w') => state_same L B3 B4 C3 C4 m3 m4 k3 k4 d3 d4 l3 l4 w' ((r3.below HsRel.kept hb).more HsRel.kept hb.size) ((r4.below PnRel.kept hb).more PnRel.kept hb.size) ((t3.below HsRel.kept hb).more HsRel.kept hb.size) ((t4.below PnRel.kept hb).more PnRel.kept hb.size) (by unfold maxLen; omega) (by unfold maxLen; omega))
  have HS2 := Lib.hid (fun w' (hb : Below w8.heap.size w8 w') => state_same R B5 B6 C5 C6 m5 m6 k5 k6 d5 d6 l5 l6 w' ((r5.below HsRel.kept hb).more HsRel.kept hb.size) ((r6.below PnRel.kept hb).more PnRel.kept hb.size) ((t5.below HsRel.kept hb).more HsRel.kept hb.size) ((t6.below PnRel.kept hb).more PnRel.kept hb.size) (by unfold maxLen; omega) (by unfold maxLen; omega))
  have HS3 := Lib.hid (fun w' (hb : Below w8.heap.size w8 w') => state_same s B1 B2 A1 A2 m1 m2 n1 n2 d1 d2 c1 c2 w' ((r1.below HsRel.kept hb).more HsRel.kept hb.size) ((r2.below PnRel.kept hb).more PnRel.kept hb.size) ((h1.below HsRel.kept (W8.trans (hb.mono W8.size))).more HsRel.kept (W8.trans (hb.mono W8.size)).size) ((h2.below PnRel.kept (W8.trans (hb.mono W8.size))).more PnRel.kept (W8.trans (hb.mono W8.size)).size) (by unfold maxLen; omega) (by unfold maxLen; omega))
  clear e1 e2 e3 e4 e5 e6 f1 f2 f3 f4 f5 f6 r1 r2 r3 r4 r5 r6 t3 t4 t5 t6 h1 h2 hLsm hRsm hsm hn1 hn2
  go_wp2_with (first
    | ((with_reducible refine (first_any _).mono ?_); rintro e wb ⟨rfl, hbb⟩
       have c11b := c11.below hbb c11.lt
       have c21b := c21.below hbb c21.lt
       obtain ⟨i1, z0, z1, z2, z3, z4, z5, z6, z7, z8, z9, z10, z11⟩ := c11b.dozen
       obtain ⟨i2, u0, u1, u2, u3, u4, u5, u6, u7, u8, u9, u10, u11⟩ := c21b.dozen)
    | ((with_reducible refine (HS1.out _ hbb).mono ?_); rintro e wc ⟨rfl, hbc⟩
       have hbbc := hbb.trans (hbc.mono hbb.size)
       have c12c := c12.below hbbc c12.lt
       have c22c := c22.below hbbc c22.lt
       obtain ⟨i1', z0', z1', z2', z3', z4', z5', z6', z7', z8', z9', z10', z11'⟩ := c12c.dozen
       obtain ⟨i2', u0', u1', u2', u3', u4', u5', u6', u7', u8', u9', u10', u11'⟩ := c22c.dozen)
    | ((with_reducible refine (HS2.out _ hbbc).mono ?_); rintro e wd ⟨rfl, hbd⟩
       have hbbd := hbbc.trans (hbd.mono hbbc.size)
       have c3d := c3.below hbbd c3.lt
       have b0d := b0.below hbbd b0.lt
       obtain ⟨j1, v0, v1, v2, v3, v4, v5, v6, v7, v8, v9, v10, v11⟩ := c3d.dozen
       obtain ⟨j2, t0, t1, t2, t3, t4, t5, t6, t7, t8, t9, t10, t11⟩ := b0d.dozen)
    | ((with_reducible refine (HS3.out _ hbbd).mono ?_); rintro e we ⟨rfl, hbe⟩))
  go_ret
  exact ⟨rfl, W8.trans ((hbbd.trans (hbe.mono hbbd.size)).mono W8.size)⟩

theorem divides_any (s : Stt) (A1 A2 : Option Addr) (n1 n2 c1 c2 : Nat) (x : Nat) (k : Int) (st fl : Sp) (w : World) (hok : s.r.ok) (hx : x < 18446744073709551616) (h1 : Sl HsRel 2 w w.heap.size A1 n1 s.h) (h2 : Sl PnRel 8 w w.heap.size A2 n2 s.p) (hn1 : n1 ≤ maxLen) (hn2 : n2 ≤ maxLen) :
    Calls Try.prog 3 #[.agg (s.arr (.slice A1 n1 c1) (.slice A2 n2 c2)), .float .f64 x, .int .i64 k, st.val, fl.val] w fun e w' => e = .returned (.bool true) ∧ Below w.heap.size w w' := by
  by_cases hin : weighS 20000 s ≤ 20000
  · exact divides_in s A1 A2 n1 n2 c1 c2 x k st fl w hok hx h1 h2 hn1 hn2 hin
  · exact divides_out s A1 A2 n1 n2 c1 c2 x k st fl w h1 h2 hn1 hn2 (decide_eq_false hin)
end Go.Proofs.Ytipacjbegfingaa

/- Data that came in, opened with its weights: numbers, texts, structs, slices; the store's data. -/
namespace Go.Proofs.Ytipacjbegfingaa
open Go.ChangeShapes Go.WideShapes Go.RowKit

/-- no part of the datum weighs more than the form's own reach -/
def Szd {H : Type} (P : Program) (t : TypeId) (d : DataW H) : Prop := ∀ n ∈ d.weights P t, n ≤ reachBytes
section
variable {H : Type} {enc : TypeId × Value → H} {P : Program} {w : World}
theorem weightsAll_mem {e : TypeId} : ∀ {l : List (DataW H)} {d : DataW H}, d ∈ l → ∀ n ∈ d.weights P e, n ∈ DataW.weightsAll P e l
  | d' :: r, d, hd, n, hn => by
    simp only [DataW.weightsAll, List.mem_append]
    rcases List.mem_cons.1 hd with rfl | h
    · exact Or.inl hn
    · exact Or.inr (weightsAll_mem h n hn)
theorem Szd.top {ts : List TypeId} {ds : List (DataW H)} (h : (DataW.weightsEach P ts ds).all (· ≤ reachBytes) = true) {j : Nat} {t : TypeId} {d : DataW H} (ht : ts[j]? = some t) (hd : ds[j]? = some d) : Szd P t d :=
  fun n hn => by simpa using List.all_eq_true.1 h _ (DataW.weights_mem_each ht hd n hn)
theorem Szd.field {t : TypeId} {fs : Array Field} {parts : List (DataW H)} (hu : P.underlying t = some (.struct fs)) (h : Szd P t (.agg parts)) {i : Nat} {f : Field} {d : DataW H} (hf : fs[i]? = some f) (hd : parts[i]? = some d) : Szd P f.type d := by
  intro n hn
  refine h n ?_
  simp only [DataW.weights, hu]
  refine DataW.weights_mem_each (j := i) (t := f.type) ?_ hd n hn
  rw [List.getElem?_map, Array.getElem?_toList, hf]; rfl
theorem Szd.elem {t e : TypeId} {elems spare : List (DataW H)} (hu : P.underlying t = some (.slice e)) (h : Szd P t (.slice elems spare)) {d : DataW H} (hd : d ∈ elems) : Szd P e d := by
  intro n hn
  refine h n ?_
  simp only [DataW.weights, hu, List.mem_cons, List.mem_append]
  exact .inr (.inl (weightsAll_mem hd n hn))

/-- the cells of type t that came in -/
def Opn (enc : TypeId × Value → H) (P : Program) (w : World) (t : TypeId) (cs : List Value) : Prop := ∃ fuel x, DataW.trod enc P w 0 (fun _ => true) true fuel t cs = some x ∧ Szd P t x.1
def fieldAt (P : Program) (t : TypeId) (i : Nat) : Option (TypeId × Nat) := match P.underlying t with | some (.struct fs) => (fs[i]?).map fun f => (f.type, f.offset) | _ => none
theorem Opn.fld {t : TypeId} {cs : List Value} (h : Opn enc P w t cs) (i : Nat) {ty off : Nat} (k : Nat) (hi : fieldAt P t i = some (ty, off)) (hk : P.cellsOf ty = k) : Opn enc P w ty ((cs.drop off).take k) := by
  unfold fieldAt at hi
  cases hu : P.underlying t with
  | none => rw [hu] at hi; cases hi
  | some u =>
    rw [hu] at hi
    cases u <;> try (cases hi; done)
    rename_i fs
    obtain ⟨fuel, x, hx, hs⟩ := h
    obtain ⟨xs, n, _, hx1, _, hxl, hf⟩ := DataW.trod_struct hu hx
    cases hfi : fs[i]? with
    | none => simp only [hfi] at hi; cases hi
    | some f =>
      simp only [hfi, Option.map_some, Option.some.injEq, Prod.mk.injEq] at hi
      obtain ⟨rfl, rfl⟩ := hi
      have hlt := (Array.getElem?_eq_some_iff.1 hfi).1
      have h1 := hf i f hfi
      rw [hk] at h1
      have h2 : xs[i]? = some xs[i] := List.getElem?_eq_getElem (by omega)
      rw [h2] at h1
      refine ⟨n, xs[i], h1, ?_⟩
      rw [hx1] at hs
      exact hs.field hu hfi (by rw [List.getElem?_map, h2]; rfl)
theorem Opn.len {t : TypeId} {cs : List Value} {fs : Array Field} (hu : P.underlying t = some (.struct fs)) (h : Opn enc P w t cs) : cs.length = P.cellsOf t := by
  obtain ⟨fuel, x, hx, _⟩ := h
  obtain ⟨xs, n, _, _, hl, _⟩ := DataW.trod_struct hu hx
  exact hl
theorem Opn.int {t : TypeId} {v : Value} (ht : P.underlying t = some (.int .i64)) (h : Opn enc P w t [v]) : ∃ z, v = .int .i64 z ∧ i64ok z := by
  obtain ⟨fuel, x, hx, _⟩ := h
  obtain ⟨z, e, _, hw⟩ := DataW.trod_int ht hx
  injection e with e
  exact ⟨z, e, by simpa [Lit.wf, i64ok, IntKind.min, IntKind.max, IntKind.signed, IntKind.bits] using hw⟩
theorem Opn.bool {t : TypeId} {v : Value} (ht : P.underlying t = some .bool) (h : Opn enc P w t [v]) : ∃ z, v = .bool z := by
  obtain ⟨fuel, x, hx, _⟩ := h
  obtain ⟨z, e, _⟩ := DataW.trod_bool ht hx
  injection e with e
  exact ⟨z, e⟩
theorem Opn.float {t : TypeId} {v : Value} (ht : P.underlying t = some (.float .f64)) (h : Opn enc P w t [v]) : ∃ b, v = .float .f64 b ∧ b < 18446744073709551616 := by
  obtain ⟨fuel, x, hx, _⟩ := h
  cases fuel with
  | zero => simp [DataW.trod] at hx
  | succ n =>
    unfold DataW.trod at hx
    rw [ht] at hx
    split at hx <;> simp_all
    rename_i heq
    obtain ⟨⟨_, hw⟩, _⟩ := hx
    rw [← heq] at hw
    simpa [Lit.wf] using hw
theorem Opn.str {t : TypeId} {v : Value} (ht : P.underlying t = some .string) (h : Opn enc P w t [v]) : ∃ s, v = .string s ∧ s.size ≤ 140737488351232 := by
  obtain ⟨fuel, x, hx, hs⟩ := h
  cases fuel with
  | zero => simp [DataW.trod] at hx
  | succ n =>
    unfold DataW.trod at hx
    rw [ht] at hx
    split at hx <;> simp_all
    obtain ⟨_, rfl⟩ := hx
    have := hs _ (by simp only [DataW.weights, List.mem_cons, List.not_mem_nil, or_false]; rfl)
    show _ ≤ reachBytes
    simpa using this
/-- a slice that came in -/
theorem Opn.slice {α : Type} (R : Rel α) (size : Nat) (hsz : 0 < size) {t e : TypeId} {v : Value} (ht : P.underlying t = some (.slice e)) (hc : P.cellsOf e = size)
    (hel : ∀ cs : List Value, cs.length = size → Opn enc P w e cs → ∃ a, R w w.heap.size cs a) (h : Opn enc P w t [v]) : ∃ l, HdRel R size w w.heap.size v l := by
  obtain ⟨fuel, x, hf, hs⟩ := h
  rcases Go.Deep.open_slice ht hf with ⟨hcs, _⟩ | ⟨a, n, c, m, k, D, Pl, hcs, _, hl, hm, hmm, hx, hi⟩
  · injection hcs with hcs
    subst hcs
    exact ⟨[], HdRel.nil⟩
  · injection hcs with hcs
    subst hcs
    have hmm' : m = c := by rw [hmm]; rfl
    have hall : ∀ i, i < n → ∃ (x : List Value × α), x.1.length = size ∧ (∀ j u, x.1[j]? = some u → w.cell? (a.add (i * size + j)) = some u) ∧ R w w.heap.size x.1 x.2 := by
      intro i hin
      obtain ⟨cs', hcell, ht'⟩ := hi i (by omega)
      rw [hc] at hcell
      obtain ⟨_, hlen, hat⟩ := World.cells?_some hcell
      obtain ⟨x, hx⟩ := hel cs' hlen ⟨k, _, ht', by
        rw [hx] at hs
        exact hs.elem ht (List.mem_map.2 ⟨i, List.mem_range.2 hin, rfl⟩)⟩
      refine ⟨(cs', x), hlen, fun j u hu => ?_, hx⟩
      have hj : j < size := by
        rw [← hlen]
        exact (List.getElem?_eq_some_iff.1 hu).1
      rw [← add_of_add, hat j hj]
      exact hu
    by_cases hn : n = 0
    · subst hn
      exact ⟨[], _, _, _, rfl, hl, hm, Sl.nil⟩
    · obtain ⟨x0, _⟩ := hall 0 (by omega)
      have : Inhabited (List Value × α) := ⟨x0⟩
      obtain ⟨f, hf⟩ := Go.Deep.choose_lt hall
      refine ⟨(List.range n).map fun i => (f i).2, _, _, _, rfl, hl, hm, by simp, fun i b hb => ?_⟩
      have hin : i < n := by
        have := (List.getElem?_eq_some_iff.1 hb).1
        simpa using this
      obtain ⟨h1, h2, h3⟩ := hf i hin
      have hb' : b = (f i).2 := by
        rw [List.getElem?_map, List.getElem?_range hin] at hb
        exact (Option.some.inj hb).symm
      subst hb'
      refine ⟨a, (f i).1, rfl, ?_, h1, h2, h3⟩
      have h0 := h2 0 _ (List.getElem?_eq_getElem (by omega))
      have := World.block_lt_of_cell? w _ h0
      rw [block_of_add] at this
      exact this
/-- an argument of one cell, a struct -/
theorem Opn.of {t : TypeId} {v : Value} {d : DataW H} {ps : List MemPlace} (h : DataW.Trod enc P w 0 (fun _ => true) true t v d ps) (hs : Szd P t d) : Opn enc P w t v.cells.toList := by
  obtain ⟨fuel, hf⟩ := h
  exact ⟨fuel, _, hf, hs⟩
end

section
variable {H : Type} {enc : TypeId × Value → H} {w : World}
theorem opn_vl {cs : List Value} (h : Opn enc Try.prog w 53 cs) : ∃ v : Vl, cs = v.cells ∧ v.ok := by
  have hl := h.len Try.underlying53
  rw [show Try.prog.cellsOf 53 = 3 from by kernel_rfl] at hl
  match cs, hl with
  | [c0, c1, c2], _ =>
    obtain ⟨x0, rfl, h0⟩ := (h.fld 0 1 (ty := 3) (off := 0) (by kernel_rfl) (by kernel_rfl)).int Try.underlying3
    obtain ⟨x1, rfl, h1⟩ := (h.fld 1 1 (ty := 22) (off := 1) (by kernel_rfl) (by kernel_rfl)).float Try.underlying22
    obtain ⟨x2, rfl, h2⟩ := (h.fld 2 1 (ty := 9) (off := 2) (by kernel_rfl) (by kernel_rfl)).str Try.underlying9
    exact ⟨⟨x0, x1, x2⟩, rfl, h0, h1, h2⟩
theorem opn_wt {cs : List Value} (h : Opn enc Try.prog w 96 cs) : ∃ v : Wt, cs = v.cells ∧ v.ok := by
  have hl := h.len Try.underlying96
  rw [show Try.prog.cellsOf 96 = 4 from by kernel_rfl] at hl
  match cs, hl with
  | [c0, c1, c2, c3], _ =>
    obtain ⟨x0, rfl, h0⟩ := (h.fld 0 1 (ty := 9) (off := 0) (by kernel_rfl) (by kernel_rfl)).str Try.underlying9
    obtain ⟨x1, e1, h1⟩ := opn_vl (h.fld 1 3 (ty := 53) (off := 1) (by kernel_rfl) (by kernel_rfl))
    refine ⟨⟨x0, x1⟩, ?_, h0, h1⟩
    change [c1, c2, c3] = _ at e1
    rw [e1]; rfl
theorem opn_wts {v : Value} (h : Opn enc Try.prog w 45 [v]) : ∃ l, HdRel WtRel 4 w w.heap.size v l :=
  h.slice WtRel 4 (by omega) Try.underlying45 (by kernel_rfl) fun _ _ ho => opn_wt ho
set_option maxRecDepth 100000 in
theorem open_wts {r : Reach} {b0 : Nat} {v : Value} {d : DataW H} {ps : List MemPlace} (hv : Value.okWide Try.prog w r b0 45 v) (h : DataW.Trod enc Try.prog w 0 (fun _ => true) true 45 v d ps) (hs : Szd Try.prog 45 d) :
    ∃ A n c l, v = .slice A n c ∧ n ≤ c ∧ c ≤ maxLen ∧ Sl WtRel 4 w w.heap.size A n l := by
  obtain ⟨A, n, c, rfl⟩ := okWide_slice Try.underlying45 hv
  obtain ⟨l, A', n', c', e, h1, h2, h3⟩ := opn_wts (Opn.of h hs)
  injection e with e1 e2 e3
  subst e1 e2 e3
  exact ⟨_, _, _, l, rfl, h1, h2, h3⟩
end
end Go.Proofs.Ytipacjbegfingaa

/- Data that came in: stamps, versions, histories, pending ones, states. -/
namespace Go.Proofs.Ytipacjbegfingaa
set_option linter.unusedVariables false
open Go.ChangeShapes Go.WideShapes Go.RowKit
section
variable {H : Type} {enc : TypeId × Value → H} {w : World}
theorem opn_sp {cs : List Value} (h : Opn enc Try.prog w 26 cs) : ∃ v : Sp, cs = [.int .i64 v.w, .int .i64 v.l, .int .i64 v.n] ∧ v.ok := by
  have hl := h.len Try.underlying26
  rw [show Try.prog.cellsOf 26 = 3 from by kernel_rfl] at hl
  match cs, hl with
  | [c0, c1, c2], _ =>
    obtain ⟨x0, rfl, h0⟩ := (h.fld 0 1 (ty := 3) (off := 0) (by kernel_rfl) (by kernel_rfl)).int Try.underlying3
    obtain ⟨x1, rfl, h1⟩ := (h.fld 1 1 (ty := 3) (off := 1) (by kernel_rfl) (by kernel_rfl)).int Try.underlying3
    obtain ⟨x2, rfl, h2⟩ := (h.fld 2 1 (ty := 3) (off := 2) (by kernel_rfl) (by kernel_rfl)).int Try.underlying3
    exact ⟨⟨x0, x1, x2⟩, rfl, h0, h1, h2⟩
theorem opn_tx {cs : List Value} (h : Opn enc Try.prog w 43 cs) : ∃ v : Tx, cs = [.int .i64 v.c, .int .i64 v.l, .int .i64 v.s] ∧ v.ok := by
  have hl := h.len Try.underlying43
  rw [show Try.prog.cellsOf 43 = 3 from by kernel_rfl] at hl
  match cs, hl with
  | [c0, c1, c2], _ =>
    obtain ⟨x0, rfl, h0⟩ := (h.fld 0 1 (ty := 3) (off := 0) (by kernel_rfl) (by kernel_rfl)).int Try.underlying3
    obtain ⟨x1, rfl, h1⟩ := (h.fld 1 1 (ty := 3) (off := 1) (by kernel_rfl) (by kernel_rfl)).int Try.underlying3
    obtain ⟨x2, rfl, h2⟩ := (h.fld 2 1 (ty := 3) (off := 2) (by kernel_rfl) (by kernel_rfl)).int Try.underlying3
    exact ⟨⟨x0, x1, x2⟩, rfl, h0, h1, h2⟩
theorem opn_rg {cs : List Value} (h : Opn enc Try.prog w 24 cs) : ∃ v : Rg, cs = v.cells ∧ v.ok := by
  have hl := h.len Try.underlying24
  rw [show Try.prog.cellsOf 24 = 4 from by kernel_rfl] at hl
  match cs, hl with
  | [c0, c1, c2, c3], _ =>
    obtain ⟨x0, rfl, h0⟩ := (h.fld 0 1 (ty := 3) (off := 0) (by kernel_rfl) (by kernel_rfl)).int Try.underlying3
    obtain ⟨x1, rfl, h1⟩ := (h.fld 1 1 (ty := 3) (off := 1) (by kernel_rfl) (by kernel_rfl)).int Try.underlying3
    obtain ⟨x2, rfl, h2⟩ := (h.fld 2 1 (ty := 22) (off := 2) (by kernel_rfl) (by kernel_rfl)).float Try.underlying22
    obtain ⟨x3, rfl, h3⟩ := (h.fld 3 1 (ty := 22) (off := 3) (by kernel_rfl) (by kernel_rfl)).float Try.underlying22
    exact ⟨⟨x0, x1, x2, x3⟩, rfl, h0, h1, h2, h3⟩
theorem opn_vn {cs : List Value} (h : Opn enc Try.prog w 79 cs) : ∃ v : Vn, cs = v.cells ∧ v.ok := by
  have hl := h.len Try.underlying79
  rw [show Try.prog.cellsOf 79 = 6 from by kernel_rfl] at hl
  match cs, hl with
  | [c0, c1, c2, c3, c4, c5], _ =>
    obtain ⟨x0, e0, h0⟩ := opn_sp (h.fld 0 3 (ty := 26) (off := 0) (by kernel_rfl) (by kernel_rfl))
    obtain ⟨x1, e1, h1⟩ := opn_vl (h.fld 1 3 (ty := 53) (off := 3) (by kernel_rfl) (by kernel_rfl))
    refine ⟨⟨x0, x1⟩, ?_, h0, h1⟩
    change [c0, c1, c2] = _ at e0
    change [c3, c4, c5] = _ at e1
    show [c0, c1, c2] ++ [c3, c4, c5] = _
    rw [e0, e1]; rfl
theorem opn_kys {v : Value} (h : Opn enc Try.prog w 44 [v]) : ∃ l, HdRel KyRel 1 w w.heap.size v l :=
  h.slice KyRel 1 (by omega) Try.underlying44 (by kernel_rfl) fun cs hl ho => by
    match cs, hl with
    | [c0], _ =>
      obtain ⟨s, rfl, hs⟩ := ho.str Try.underlying9
      exact ⟨s, rfl, hs⟩
theorem opn_vns {v : Value} (h : Opn enc Try.prog w 74 [v]) : ∃ l, HdRel VnRel 6 w w.heap.size v l :=
  h.slice VnRel 6 (by omega) Try.underlying74 (by kernel_rfl) fun _ _ ho => opn_vn ho
theorem opn_hs {cs : List Value} (h : Opn enc Try.prog w 76 cs) : ∃ x : Hs, HsRel w w.heap.size cs x := by
  have hl := h.len Try.underlying76
  rw [show Try.prog.cellsOf 76 = 2 from by kernel_rfl] at hl
  match cs, hl with
  | [c0, c1], _ =>
    obtain ⟨x0, rfl, h0⟩ := (h.fld 0 1 (ty := 9) (off := 0) (by kernel_rfl) (by kernel_rfl)).str Try.underlying9
    obtain ⟨l, hd⟩ := opn_vns (h.fld 1 1 (ty := 74) (off := 1) (by kernel_rfl) (by kernel_rfl))
    exact ⟨⟨x0, l⟩, _, rfl, h0, hd⟩
theorem opn_hss {v : Value} (h : Opn enc Try.prog w 27 [v]) : ∃ l, HdRel HsRel 2 w w.heap.size v l :=
  h.slice HsRel 2 (by omega) Try.underlying27 (by kernel_rfl) fun _ _ ho => opn_hs ho
theorem opn_pn {cs : List Value} (h : Opn enc Try.prog w 47 cs) : ∃ x : Pn, PnRel w w.heap.size cs x := by
  have hl := h.len Try.underlying47
  rw [show Try.prog.cellsOf 47 = 8 from by kernel_rfl] at hl
  match cs, hl with
  | [c0, c1, c2, c3, c4, c5, c6, c7], _ =>
    obtain ⟨x0, e0, h0⟩ := opn_tx (h.fld 0 3 (ty := 43) (off := 0) (by kernel_rfl) (by kernel_rfl))
    obtain ⟨x1, e1, h1⟩ := opn_sp (h.fld 1 3 (ty := 26) (off := 3) (by kernel_rfl) (by kernel_rfl))
    obtain ⟨l, hr⟩ := opn_kys (h.fld 2 1 (ty := 44) (off := 6) (by kernel_rfl) (by kernel_rfl))
    obtain ⟨m, hq⟩ := opn_wts (h.fld 3 1 (ty := 45) (off := 7) (by kernel_rfl) (by kernel_rfl))
    refine ⟨⟨x0, x1, l, m⟩, c6, c7, ?_, h0, h1, hr, hq⟩
    change [c0, c1, c2] = _ at e0
    change [c3, c4, c5] = _ at e1
    show [c0, c1, c2] ++ ([c3, c4, c5] ++ [c6, c7]) = _
    rw [e0, e1]; rfl
theorem opn_pns {v : Value} (h : Opn enc Try.prog w 28 [v]) : ∃ l, HdRel PnRel 8 w w.heap.size v l :=
  h.slice PnRel 8 (by omega) Try.underlying28 (by kernel_rfl) fun _ _ ho => opn_pn ho
theorem opn_st {cs : List Value} (h : Opn enc Try.prog w 30 cs) : ∃ (s : Stt) (a b : Value), cs = (s.arr a b).toList ∧ s.r.ok ∧ s.f.ok ∧ s.c.ok ∧ HdRel HsRel 2 w w.heap.size a s.h ∧ HdRel PnRel 8 w w.heap.size b s.p := by
  have hl := h.len Try.underlying30
  rw [show Try.prog.cellsOf 30 = 12 from by kernel_rfl] at hl
  match cs, hl with
  | [c0, c1, c2, c3, c4, c5, c6, c7, c8, c9, c10, c11], _ =>
    obtain ⟨x0, e0, h0⟩ := opn_rg (h.fld 0 4 (ty := 24) (off := 0) (by kernel_rfl) (by kernel_rfl))
    obtain ⟨x1, e1, h1⟩ := opn_sp (h.fld 1 3 (ty := 26) (off := 4) (by kernel_rfl) (by kernel_rfl))
    obtain ⟨x2, e2, h2⟩ := opn_sp (h.fld 2 3 (ty := 26) (off := 7) (by kernel_rfl) (by kernel_rfl))
    obtain ⟨l, hr⟩ := opn_hss (h.fld 3 1 (ty := 27) (off := 10) (by kernel_rfl) (by kernel_rfl))
    obtain ⟨m, hq⟩ := opn_pns (h.fld 4 1 (ty := 28) (off := 11) (by kernel_rfl) (by kernel_rfl))
    refine ⟨⟨x0, x1, x2, l, m⟩, c10, c11, ?_, h0, h1, h2, hr, hq⟩
    change [c0, c1, c2, c3] = _ at e0
    change [c4, c5, c6] = _ at e1
    change [c7, c8, c9] = _ at e2
    show [c0, c1, c2, c3] ++ ([c4, c5, c6] ++ ([c7, c8, c9] ++ [c10, c11])) = _
    rw [e0, e1, e2]; rfl
set_option maxRecDepth 100000 in
theorem open_sp {r : Reach} {b0 : Nat} {v : Value} {d : DataW H} {ps : List MemPlace} (hv : Value.okWide Try.prog w r b0 26 v) (h : DataW.Trod enc Try.prog w 0 (fun _ => true) true 26 v d ps) (hs : Szd Try.prog 26 d) :
    ∃ x : Sp, v = x.val ∧ x.ok := by
  obtain ⟨cs, rfl, hsz⟩ := okWide_struct Try.underlying26 hv
  obtain ⟨x, e, hok⟩ := opn_sp (Opn.of h hs)
  refine ⟨x, ?_, hok⟩
  have e2 : cs.toList = _ := e
  have : cs = #[.int .i64 x.w, .int .i64 x.l, .int .i64 x.n] := by rw [← Array.toArray_toList (xs := cs), e2]
  rw [this]
set_option maxRecDepth 100000 in
theorem open_st {r : Reach} {b0 : Nat} {v : Value} {d : DataW H} {ps : List MemPlace} (hv : Value.okWide Try.prog w r b0 30 v) (h : DataW.Trod enc Try.prog w 0 (fun _ => true) true 30 v d ps) (hs : Szd Try.prog 30 d) :
    ∃ (s : Stt) (A1 : Option Addr) (n1 c1 : Nat) (A2 : Option Addr) (n2 c2 : Nat), v = .agg (s.arr (.slice A1 n1 c1) (.slice A2 n2 c2)) ∧ s.r.ok ∧ s.f.ok ∧ s.c.ok ∧ n1 ≤ maxLen ∧ n2 ≤ maxLen ∧ Sl HsRel 2 w w.heap.size A1 n1 s.h ∧ Sl PnRel 8 w w.heap.size A2 n2 s.p := by
  obtain ⟨cs, rfl, hsz⟩ := okWide_struct Try.underlying30 hv
  obtain ⟨s, a, b, e, k1, k2, k3, ⟨A1, n1, c1, rfl, q1, q2, q3⟩, ⟨A2, n2, c2, rfl, q4, q5, q6⟩⟩ := opn_st (Opn.of h hs)
  have e2 : cs.toList = _ := e
  have : cs = s.arr (.slice A1 n1 c1) (.slice A2 n2 c2) := by rw [← Array.toArray_toList (xs := cs), e2]
  exact ⟨s, A1, n1, c1, A2, n2, c2, by rw [this], k1, k2, k3, by omega, by omega, q3, q6⟩
end
end Go.Proofs.Ytipacjbegfingaa

namespace Go.Proofs.Ytipacjbegfingaa.handDivides
open Go.ChangeShapes Go.WideShapes Go.ChangeAt Go.RowKit Go.Proofs.Ytipacjbegfingaa
set_option linter.unusedVariables false

set_option maxRecDepth 100000 in
theorem lifted (os : Os) (started : os.Started) (H : Type) (enc : TypeId × Value → H) :
    ReturnsInHanded {} Try.checked os 3 .any (Rows.handDividesSpec.pre6 enc Try.prog Try.f3 Rows.handDividesRow.domain false) (Rows.handDividesSpec.post enc Try.prog Try.f3 false true false false) := by
  refine returnsInHanded_of_change_sized (C := Try.checked) Try.own started (by kernel_rfl) Try.func3
    (ChangeSpec.witness6 (enc := enc) (C := Try.checked) false ⟨#[], #[.agg #[.int .i64 0, .int .i64 0, .float .f64 0, .float .f64 0, .int .i64 0, .int .i64 0, .int .i64 0, .int .i64 0, .int .i64 0, .int .i64 0, .slice none 0 0, .slice none 0 0], .float .f64 0, .int .i64 0, .agg #[.int .i64 0, .int .i64 0, .int .i64 0], .agg #[.int .i64 0, .int .i64 0, .int .i64 0]], []⟩ 8 (by kernel_rfl) (by kernel_rfl) (by kernel_rfl) (by kernel_rfl)) ?_
  intro W base args ds gs before hval0 hW hcnd hsz _
  have hval : ∀ (j : Nat) t v, Try.f3.params[j]? = some t → args[j]? = some v → Value.okWide Try.prog W .any base t v := hval0
  have hW' : DataW.Whole enc Try.prog Try.f3.params.toList Rows.handDividesSpec.vars false W args.toList ds gs before := hW
  obtain ⟨p, q, hA0, hV, rfl, hfz, hnd⟩ := hW
  have hA : DataW.TrodAll enc Try.prog W 0 (fun _ => true) true Try.f3.params.toList args.toList ds p := hA0
  rw [Try.params3] at hA hval
  obtain ⟨v0, vs0, d0, ds0, p0, q0, hargs, rfl, rfl, h0, r0⟩ := trodAll_cons hA
  obtain ⟨v1, vs1, d1, ds1, p1, q1, rfl, rfl, rfl, h1, r1⟩ := trodAll_cons r0
  obtain ⟨v2, vs2, d2, ds2, p2, q2, rfl, rfl, rfl, h2, r2⟩ := trodAll_cons r1
  obtain ⟨v3, vs3, d3, ds3, p3, q3, rfl, rfl, rfl, h3, r3⟩ := trodAll_cons r2
  obtain ⟨v4, vs4, d4, ds4, p4, q4, rfl, rfl, rfl, h4, r4⟩ := trodAll_cons r3
  obtain ⟨rfl, rfl, rfl⟩ := trodAll_nil r4
  obtain rfl : args = #[v0, v1, v2, v3, v4] := by cases args; simp_all
  obtain ⟨s, A1, n1, c1, A2, n2, c2, rfl, hok, hof, hoc, hn1, hn2, hh1, hh2⟩ := open_st (hval 0 30 v0 rfl rfl) h0 (Szd.top hsz (j := 0) (t := 30) (d := d0) rfl rfl)
  obtain ⟨x, rfl, rfl, rfl, wx⟩ := open_float Try.underlying22 (hval 1 22 v1 rfl rfl) h1
  obtain ⟨k, rfl, rfl, rfl, wk⟩ := open_int Try.underlying3 (hval 2 3 v2 rfl rfl) h2
  obtain ⟨st, rfl, wst⟩ := open_sp (hval 3 26 v3 rfl rfl) h3 (Szd.top hsz (j := 3) (t := 26) (d := d3) rfl rfl)
  obtain ⟨q, rfl, wq⟩ := open_sp (hval 4 26 v4 rfl rfl) h4 (Szd.top hsz (j := 4) (t := 26) (d := d4) rfl rfl)
  refine (divides_any s A1 A2 n1 n2 c1 c2 x k st q W hok (by simpa [Lit.wf] using wx) hh1 hh2 hn1 hn2).mono fun e W' ⟨he, hb⟩ => ?_
  subst he
  exact ⟨_, rfl, law_post Try.laidOut rfl (by kernel_rfl) Try.underlying4 (by rw [Try.params3]; decide +kernel) rfl hW' hb⟩

theorem proved : Rows.HandDividesSaid :=
  OpenClaim.holds_of_wide 3 Try.f3 rfl rfl rfl rfl rfl rfl rfl ⟨rfl, rfl, rfl, rfl, rfl⟩ rfl rfl rfl rfl rfl (by kernel_rfl) Try.func3 (by kernel_rfl)
    (of_decide_eq_true (by kernel_rfl)) (by unfold Func.isWrapper; rw [if_neg (of_decide_eq_false (by kernel_rfl))]; exact ⟨rfl, rfl⟩)
    (fun os started H enc _ => lifted os started H enc)
end Go.Proofs.Ytipacjbegfingaa.handDivides
