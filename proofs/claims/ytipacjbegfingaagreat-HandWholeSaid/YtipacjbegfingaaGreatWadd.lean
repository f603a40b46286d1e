/- The walk of HandTwice. -/
import Derived.Test.YtipacjbegfingaaGreatWaba
import Derived.Test.YtipacjbegfingaaGreatWabd
import Derived.Test.YtipacjbegfingaaGreatWadc
namespace Go.Proofs.YtipacjbegfingaaGreat
set_option linter.unusedVariables false
open Go.RowKit Fl
attribute [local go_sem] run_store_float

set_option maxRecDepth 100000 in
set_option maxHeartbeats 4000000 in
theorem few_any (s : Stt) (A1 A2 : Option Addr) (n1 n2 c1 c2 : Nat) (w : World) (h1 : Sl HsRel 2 w w.heap.size A1 n1 s.h) (h2 : Sl PnRel 8 w w.heap.size A2 n2 s.p) (hn1 : n1 ≤ maxLen) (hn2 : n2 ≤ maxLen) :
    Calls Tryz.prog 6 #[.agg (s.arr (.slice A1 n1 c1) (.slice A2 n2 c2))] w fun e w' => e = .returned (.bool (decide (weighS 20000 s ≤ 20000))) ∧ Below w.heap.size w w' := by
  have hX : Below w.heap.size w (w.alloc (.cells (s.arr (.slice A1 n1 c1) (.slice A2 n2 c2)) 30)) := by go_grown
  have hW := weighS_any s A1 A2 n1 n2 c1 c2 20000 _ ((h1.below HsRel.kept hX).more HsRel.kept hX.size) ((h2.below PnRel.kept hX).more PnRel.kept hX.size) hn1 hn2 (by omega) (by omega)
  generalize weighS 20000 s = z at *
  go_enter Tryz.func6, Tryz.ntmps6
  go_wp2_with ((with_reducible refine hW.mono ?_); rintro e w1 ⟨rfl, hb⟩)
  go_ret
  exact ⟨rfl, hX.trans (hb.mono hX.size)⟩

theorem divide_named (s : Stt) (A1 A2 : Option Addr) (n1 n2 c1 c2 : Nat) (x : Nat) (k : Int) (st fl : Sp) (w : World) (hok : s.r.ok) (hx : x < 18446744073709551616) (h1 : Sl HsRel 2 w w.heap.size A1 n1 s.h) (h2 : Sl PnRel 8 w w.heap.size A2 n2 s.p) (hH : SmallH s.h) (hQ : SmallP s.p)
    (L R : Stt) (e : Int) (hL : divL s x k st fl = L) (hR : divR s x k st fl = R) (hE : divE s x k st fl = e) :
    Calls Tryz.prog 11 #[.agg (s.arr (.slice A1 n1 c1) (.slice A2 n2 c2)), .float .f64 x, .int .i64 k, st.val, fl.val] w fun en w' => ∃ B1 m1 d1 B2 m2 d2 B3 m3 d3 B4 m4 d4, en = .returned (.tuple #[.agg (L.arr (.slice B1 m1 d1) (.slice B2 m2 d2)), .agg (R.arr (.slice B3 m3 d3) (.slice B4 m4 d4)), .int .i64 e]) ∧
      Sl HsRel 2 w' w'.heap.size B1 m1 L.h ∧ Sl PnRel 8 w' w'.heap.size B2 m2 L.p ∧ Sl HsRel 2 w' w'.heap.size B3 m3 R.h ∧ Sl PnRel 8 w' w'.heap.size B4 m4 R.p ∧ Below w.heap.size w w' := by
  subst hL hR hE
  refine (divide_any s A1 A2 n1 n2 c1 c2 x k st fl w hok hx h1 h2 hH hQ).mono ?_
  rintro en w' ⟨v1, v2, v3, v4, rfl, ⟨B1, m1, d1, rfl, -, -, r1⟩, ⟨B2, m2, d2, rfl, -, -, r2⟩, ⟨B3, m3, d3, rfl, -, -, r3⟩, ⟨B4, m4, d4, rfl, -, -, r4⟩, hb⟩
  exact ⟨B1, m1, d1, B2, m2, d2, B3, m3, d3, B4, m4, d4, rfl, r1, r2, r3, r4, hb⟩
theorem split_ok_r {r : Rg} {x : Nat} {k : Int} (hok : r.ok) (hx : x < 18446744073709551616) (hk : i64ok k) : (splitL r x k).ok ∧ (splitU r x k).ok := by
  unfold splitL splitU
  have z : Rg.ok ⟨0, 0, 0, 0⟩ := by unfold Rg.ok i64ok; simp
  by_cases h : splitE r x k = 0
  · rw [if_pos h, if_pos h]
    have h1 := (split_zero h).1
    unfold Rg.ok i64ok at *
    obtain ⟨a, b, c, d⟩ := hok
    refine ⟨⟨a, ?_, c, hx⟩, ⟨hk, ?_, hx, d⟩⟩
    · simp only; omega
    · simp only; omega
  · rw [if_neg h, if_neg h]; exact ⟨z, z⟩
theorem smallH_F (f : ByteArray → Bool) {H : List Hs} (h : SmallH H) : SmallH (hsF f H) := ⟨Nat.le_trans (List.length_filter_le _ _) h.1, fun x hx => h.2 x (List.mem_filter.1 hx).1⟩
theorem smallP_F (f : ByteArray → Bool) (g : Pn → Bool) {Q : List Pn} (h : SmallP Q) : SmallP ((Q.map (pnF f)).filter g) := by
  refine ⟨Nat.le_trans (List.length_filter_le _ _) (by rw [List.length_map]; exact h.1), fun p hp => ?_⟩
  obtain ⟨q, hq, rfl⟩ := List.mem_map.1 (List.mem_filter.1 hp).1
  have := h.2 q hq
  exact ⟨Nat.le_trans (List.length_filter_le _ _) this.1, Nat.le_trans (List.length_filter_le _ _) this.2⟩
theorem left_small {s : Stt} {x : Nat} {k : Int} (h : SmallH s.h ∧ SmallP s.p) : SmallH (leftS s x k).h ∧ SmallP (leftS s x k).p := by
  rw [leftS_part]
  exact ⟨smallH_F (fun k => belowB k x) h.1, smallP_F (fun k => belowB k x) yesP h.2⟩
theorem right_small {s : Stt} {x : Nat} {k : Int} {st fl : Sp} (h : SmallH s.h ∧ SmallP s.p) : SmallH (rightS s x k st fl).h ∧ SmallP (rightS s x k st fl).p := by
  rw [rightS_part]
  exact ⟨smallH_F (fun k => !belowB k x) h.1, smallP_F (fun k => !belowB k x) fullP h.2⟩
end Go.Proofs.YtipacjbegfingaaGreat
