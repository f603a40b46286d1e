/- The walks of racelaw15's some and alike. -/
import Derived.Test.YtipacjbegfingaaDw
import Derived.Test.YtipacjbegfingaaSa
namespace Go.Proofs.Ytipacjbegfingaa
set_option linter.unusedVariables false
open Go.RowKit Fl
attribute [local go_sem] run_store_float

section
variable {α : Type} {R : Rel α} {E size base : Nat} {K : Nat → Bool} {w w' : World} {v : Value} {l : List α}
theorem RowR.keep2 (hR : R.Kept) (h : RowR R E size base K w v l) (hs : w.heap.size ≤ w'.heap.size) (hb : ∀ k, base ≤ k → k < w.heap.size → w'.heap[k]? = w.heap[k]?) (hK : ∀ k, K k = true → w'.heap[k]? = w.heap[k]?) : RowR R E size base K w' v l := by
  obtain ⟨css, ho, hlen, hl, hc⟩ := h
  exact ⟨css, owns_same ho hb, hlen, hl, fun i cs a h1 h2 => (hc i cs a h1 h2).keep hR hK hs⟩
/-- a row whose elements read below it: its cells; what an append makes of it -/
theorem RowR.own (hR : R.Kept) (h : RowR R E size base K w v l) (hK : ∀ k, K k = true → k < base) (hbs : base ≤ w.heap.size) : ∃ xs, w.ownsRow base E size v l.length xs ∧
    ∀ (cs : List Value) (a : α) (w' : World) (v' : Value), cs.length = size → Inn R K w cs a → w'.ownsRow base E size v' (l.length + 1) (xs ++ cs) → w.grownBy w' v.ownBlock → RowR R E size base K w' v' (l ++ [a]) := by
  obtain ⟨css, ho, hlen, hl, hc⟩ := h
  refine ⟨css.flatten, ho, fun cs a w' v' hcs hin hown hg => ?_⟩
  have hB : ∀ k, K k = true → w'.heap[k]? = w.heap[k]? := fun k hk => hg.block k (by have := hK k hk; omega) (fun e => by have := (ho.lt k e.symm).1; have := hK k hk; omega)
  refine ⟨css ++ [cs], ?_, by simp [hlen], ?_, ?_⟩
  · rw [List.length_append, List.flatten_append]
    simpa using hown
  · intro c hc'
    rcases List.mem_append.1 hc' with h1 | h1
    · exact hl c h1
    · simp only [List.mem_cons, List.not_mem_nil, or_false] at h1
      rw [h1]; exact hcs
  · intro i c b h1 h2
    by_cases hi : i < l.length
    · rw [List.getElem?_append_left (by omega)] at h1 h2
      exact (hc i c b h1 h2).keep hR hB hg.size
    · have hi2 : i = l.length := by
        have := (List.getElem?_eq_some_iff.1 h2).1
        rw [List.length_append, List.length_cons, List.length_nil] at this
        omega
      subst hi2
      rw [List.getElem?_append_right (Nat.le_refl _)] at h2
      rw [← hlen, List.getElem?_append_right (Nat.le_refl _)] at h1
      simp only [Nat.sub_self, List.getElem?_cons_zero, Option.some.injEq] at h1 h2
      subst h1 h2
      exact hin.keep hR hB hg.size
end
/-- the blocks below B -/
def lowB (B : Nat) : Nat → Bool := fun k => decide (k < B)
theorem Inn.low {α : Type} {R : Rel α} {w : World} {B : Nat} {cs : List Value} {a : α} (hR : R.Kept) (hRm : R.Mono) (h : R w B cs a) (hB : B ≤ w.heap.size) : Inn R (lowB B) w cs a :=
  hR.2 _ _ _ _ _ (hRm _ _ _ _ _ h fun p u hp hc => by rw [only_cell_in (by unfold lowB; simpa using hp)]; exact hc) hB
theorem filt_snoc {l : List Pn} {k : Nat} {a : Pn} (h : l[k]? = some a) : (l.take (k + 1)).filter fullP = if fullP a then (l.take k).filter fullP ++ [a] else (l.take k).filter fullP := by
  rw [List.take_add_one, h, List.filter_append]
  cases hf : fullP a <;> simp [hf]
def SomeRel (l : List Pn) (w : World) (v i : Value) (wr : World) : Prop := ∃ k : Nat, k ≤ l.length ∧ i = .int .i64 (k : Int) ∧ RowR PnRel 47 8 w.heap.size (lowB w.heap.size) wr v ((l.take k).filter fullP) ∧ Below w.heap.size w wr
set_option maxRecDepth 100000 in
set_option maxHeartbeats 4000000 in
theorem some_any (A : Option Addr) (n c : Nat) (l : List Pn) (w : World) (h : Sl PnRel 8 w w.heap.size A n l) (hn : n ≤ 1000000) (hs : ∀ p ∈ l, p.r.length ≤ 1000000 ∧ p.w.length ≤ 1000000) :
    Calls Try.prog 53 #[.slice A n c] w fun e w' => ∃ v, e = .returned v ∧ HdRel PnRel 8 w' w'.heap.size v (l.filter fullP) ∧ Below w.heap.size w w' := by
  obtain ⟨i1, hi1, iz0, iz1, iz2⟩ := info_parts pn_info
  have hl := h.1
  have hge : n ≤ l.length := by omega
  have hle : l.length ≤ n := by omega
  clear hl
  go_enter Try.func53, Try.ntmps53
  go_wp2
  go_loopw [3, 4] (fun v i wr => SomeRel l w v i wr) (fun _ i _ => n - (intOf i).toNat)
  case atStart => exact ⟨0, by omega, rfl, RowR.nil _, Below.refl _ _⟩
  case round =>
    obtain ⟨k, hk, rfl, hr, hb⟩ := hrel
    have hzz := hb.size
    by_cases hlt : k < n
    · obtain ⟨ad, a, A1, n1, c1, A2, n2, c2, rfl, ha, hbk, hxt, hxs, d0, d1, d2, d3, d4, d5, d6, d7, hn1, hc1, hs1, hn2, hc2, hs2⟩ := ((h.below PnRel.kept hb).more PnRel.kept hb.size).pn hlt
      obtain ⟨ad', a', A1', n1', c1', A2', n2', c2', ex, ha', -, -, -, -, -, -, -, -, -, f6, f7, -, -, ks1, -, -, ks2⟩ := (h.below PnRel.kept hb).pn hlt
      injection ex with ex
      subst ex
      obtain rfl : a = a' := Option.some.inj (ha.symm.trans ha')
      rw [d6] at f6
      rw [d7] at f7
      obtain ⟨rfl, rfl, rfl⟩ : A1 = A1' ∧ n1 = n1' ∧ c1 = c1' := by simpa using f6
      obtain ⟨rfl, rfl, rfl⟩ : A2 = A2' ∧ n2 = n2' ∧ c2 = c2' := by simpa using f7
      have hd1 : decide ((k : Int) < (n : Int)) = true := by simp; omega
      have hk0 : (0 : Int) ≤ (k : Int) := by omega
      have hk1 : (k : Int) < (n : Int) := by omega
      have hsm := hs a (List.mem_of_getElem? ha)
      have hl1 := hs1.1
      have hl2 := hs2.1
      have hm1 : n1 ≤ 1000000 := by omega
      have hm2 : n2 ≤ 1000000 := by omega
      have hin : Inn PnRel (lowB w.heap.size) wr (a.cs (.slice A1 n1 c1) (.slice A2 n2 c2)) a := Inn.low PnRel.kept PnRel.mono ⟨_, _, rfl, hxt, hxs, ⟨_, _, _, rfl, hn1, hc1, ks1⟩, ⟨_, _, _, rfl, hn2, hc2, ks2⟩⟩ hzz
      have S1 := Lib.hid (filt_snoc ha)
      have hlen : ((l.take k).filter fullP).length ≤ 1000000 := Nat.le_trans (List.length_filter_le _ _) (Nat.le_trans (List.length_take_le k l) (by omega))
      obtain ⟨Av, qv, rfl, hqv, hqvm⟩ := hr.form
      by_cases hf : fullP a = true
      · have hzz0 : 0 < n1 + n2 := by unfold fullP at hf; rw [decide_eq_true_eq] at hf; omega
        have hzd : decide ((0 : Int) < (n1 : Int) + (n2 : Int)) = true := by simp; omega
        have T1 := Lib.hid (show (l.take (k + 1)).filter fullP = (l.take k).filter fullP ++ [a] by have := S1.out; rw [if_pos hf] at this; exact this)
        clear ha ha' hsm hl1 hl2 hf S1 f6 f7
        generalize (l.take k).filter fullP = L at *
        go_wp2
        go_quiet (fail)
        have hX : Below wr.heap.size wr ((wr.drewN nq).alloc (.cells (a.arr (.slice A1 n1 c1) (.slice A2 n2 c2)) 47)) := (belowN nq).alloc (Nat.le_refl _) _
        have hrX := hr.keep2 (w' := (wr.drewN nq).alloc (.cells (a.arr (.slice A1 n1 c1) (.slice A2 n2 c2)) 47)) PnRel.kept hX.size (fun k _ hk => hX.block k hk) (fun k hk => hX.block k (by unfold lowB at hk; rw [decide_eq_true_eq] at hk; omega))
        have hinX := hin.keep (w' := (wr.drewN nq).alloc (.cells (a.arr (.slice A1 n1 c1) (.slice A2 n2 c2)) 47)) PnRel.kept (fun k hk => hX.block k (by unfold lowB at hk; rw [decide_eq_true_eq] at hk; omega)) hX.size
        obtain ⟨xs, hown0, hpush⟩ := hrX.own PnRel.kept (fun k hk => by unfold lowB at hk; rw [decide_eq_true_eq] at hk; exact hk) (by have := hX.size; omega)
        have HP := Lib.hid hpush
        have HI := Lib.hid hinX
        have hrd0 := reads_new' (wr.drewN nq) 47 (a.cs (.slice A1 n1 c1) (.slice A2 n2 c2)) 8 rfl
        clear hpush hinX hin
        go_wp2_with (first
          | (at_builtin
             refine wpList_append_any _ rfl (.tmp 25) (.tmp 30) _ rfl w.heap.size 47 i1 _ 8 96 Try.underlying28 hi1 iz0 iz1 iz2 rfl (by omega) (.slice Av L.length qv) _ xs (by rfl) hown0 _ (some ⟨wr.heap.size, 0, none⟩) 1 1 (a.cs (.slice A1 n1 c1) (.slice A2 n2 c2)) (by rfl)
               hrd0 (pn_one a _ _ _ _ _ _) (by unfold maxLen; omega) (by omega) (by simp; omega) ?_
             intro v3 w3 hown3 hg3 hat3
             obtain ⟨A3, q3, rfl, hq3, hq3m⟩ := own_form hown3))
        have hrn := HP.out _ a w3 _ rfl HI.out hown3 hg3
        have hbw := (hb.trans (hX.mono hzz)).grown hg3 (by have := hX.size; omega) (fun q hq => (hown0.lt q hq).1)
        go_roundw
        case rel =>
          refine ⟨k + 1, by omega, by go_num, ?_, hbw⟩
          rw [T1.out]
          exact hrn
        case measure => simp [intOf]; omega
      · have hzz0 : ¬ 0 < n1 + n2 := by unfold fullP at hf; rw [decide_eq_true_eq] at hf; omega
        have hzd : decide ((0 : Int) < (n1 : Int) + (n2 : Int)) = false := by simp; omega
        have T1 := Lib.hid (show (l.take (k + 1)).filter fullP = (l.take k).filter fullP by have := S1.out; rw [if_neg hf] at this; exact this)
        clear ha ha' hsm hl1 hl2 hf S1 f6 f7 hin
        generalize (l.take k).filter fullP = L at *
        go_wp2
        go_quiet (fail)
        have hX : Below wr.heap.size wr (wr.drewN nq) := belowN nq
        have hrX := hr.keep2 (w' := wr.drewN nq) PnRel.kept hX.size (fun k _ hk => hX.block k hk) (fun k hk => rfl)
        go_wp2
        go_roundw
        case rel =>
          refine ⟨k + 1, by omega, by go_num, ?_, hb.trans (hX.mono hzz)⟩
          rw [T1.out]
          exact hrX
        case measure => simp [intOf]; omega
    · have hd1 : decide ((k : Int) < (n : Int)) = false := by simp; omega
      rw [List.take_of_length_le (by omega)] at hr
      obtain ⟨Av, qv, rfl, hqv, hqvm⟩ := hr.form
      have hout := hr.sl PnRel.mono (by omega)
      generalize hL : l.filter fullP = L at *
      have HE := Lib.hid hL
      clear hL
      go_wp2
      go_ret
      rw [HE.out]
      exact ⟨_, rfl, hout, hb⟩

set_option maxRecDepth 100000 in
set_option maxHeartbeats 4000000 in
theorem alike_any (A B : Option Addr) (n m c d : Nat) (l l' : List Pn) (w : World) (h : Sl PnRel 8 w w.heap.size A n l) (h' : Sl PnRel 8 w w.heap.size B m l') (hn : n ≤ 1000000) (hm : m ≤ 1000000) (hs : ∀ p ∈ l, p.r.length ≤ 1000000 ∧ p.w.length ≤ 1000000) (hs' : ∀ p ∈ l', p.r.length ≤ 1000000 ∧ p.w.length ≤ 1000000)
    (he : l.filter fullP = l'.filter fullP) :
    Calls Try.prog 19 #[.slice A n c, .slice B m d] w fun e w' => e = .returned (.bool true) ∧ Below w.heap.size w w' := by
  have hlen : (l.filter fullP).length ≤ l.length := List.length_filter_le _ _
  have hl := h.1
  go_enter Try.func19, Try.ntmps19
  go_wp2_with (go_at_call 53; fail)
  refine (some_any A n c l w h hn hs).mono ?_
  rintro e w1 ⟨v1, rfl, hv1, hb1⟩
  obtain ⟨A1, n1, c1, rfl, hn1, hc1, hs1⟩ := hv1
  go_wp2_with (go_at_call 53; fail)
  refine (some_any B m d l' w1 ((h'.below PnRel.kept hb1).more PnRel.kept hb1.size) hm hs').mono ?_
  rintro e w2 ⟨v2, rfl, hv2, hb2⟩
  obtain ⟨A2, n2, c2, rfl, hn2, hc2, hs2⟩ := hv2
  rw [← he] at hs2
  go_wp2_with (go_at_call 40; fail)
  refine (pends_same A1 A2 n1 n2 c1 c2 _ w2 ((hs1.below PnRel.kept hb2).more PnRel.kept hb2.size) hs2 (by omega)).mono ?_
  rintro e w3 ⟨rfl, hb3⟩
  go_wp2
  go_ret
  exact ⟨rfl, (hb1.trans (hb2.mono hb1.size)).trans (hb3.mono (Nat.le_trans hb1.size hb2.size))⟩
end Go.Proofs.Ytipacjbegfingaa
