/- The walk of HandTwice. -/
import Derived.Test.YtipacjbegfingaaSo
import Derived.Test.YtipacjbegfingaaWe
import Derived.Test.YtipacjbegfingaaFk
namespace Go.Proofs.Ytipacjbegfingaa
set_option linter.unusedVariables false
open Go.RowKit Fl
attribute [local go_sem] run_store_float

set_option maxRecDepth 100000 in
set_option maxHeartbeats 4000000 in
theorem few_any (s : Stt) (A1 A2 : Option Addr) (n1 n2 c1 c2 : Nat) (w : World) (h1 : Sl HsRel 2 w w.heap.size A1 n1 s.h) (h2 : Sl PnRel 8 w w.heap.size A2 n2 s.p) (hn1 : n1 ≤ maxLen) (hn2 : n2 ≤ maxLen) :
    Calls Try.prog 8 #[.agg (s.arr (.slice A1 n1 c1) (.slice A2 n2 c2))] w fun e w' => e = .returned (.bool (decide (weighS 20000 s ≤ 20000))) ∧ Below w.heap.size w w' := by
  have hX : Below w.heap.size w (w.alloc (.cells (s.arr (.slice A1 n1 c1) (.slice A2 n2 c2)) 30)) := by go_grown
  have hW := weighS_any s A1 A2 n1 n2 c1 c2 20000 _ ((h1.below HsRel.kept hX).more HsRel.kept hX.size) ((h2.below PnRel.kept hX).more PnRel.kept hX.size) hn1 hn2 (by omega) (by omega)
  generalize weighS 20000 s = z at *
  go_enter Try.func8, Try.ntmps8
  go_wp2_with ((with_reducible refine hW.mono ?_); rintro e w1 ⟨rfl, hb⟩)
  go_ret
  exact ⟨rfl, hX.trans (hb.mono hX.size)⟩

set_option maxRecDepth 100000 in
set_option maxHeartbeats 4000000 in
theorem twice_out (s : Stt) (A1 A2 : Option Addr) (n1 n2 c1 c2 : Nat) (p q : Nat) (st fl : Sp) (w : World) (h1 : Sl HsRel 2 w w.heap.size A1 n1 s.h) (h2 : Sl PnRel 8 w w.heap.size A2 n2 s.p) (hn1 : n1 ≤ maxLen) (hn2 : n2 ≤ maxLen)
    (hout : decide (weighS 20000 s ≤ 20000) = false ∨ decide (weighS 20000 s ≤ 20000) = true ∧ (flt p q = false ∨ flt p q = true ∧ (4611686018427387904 : Int) < s.r.ep)) :
    Calls Try.prog 5 #[.agg (s.arr (.slice A1 n1 c1) (.slice A2 n2 c2)), .float .f64 p, .float .f64 q, st.val, fl.val] w fun e w' => e = .returned (.bool true) ∧ Below w.heap.size w w' := by
  have hF := fun w' (hb : Below w.heap.size w w') => few_any s A1 A2 n1 n2 c1 c2 w' ((h1.below HsRel.kept hb).more HsRel.kept hb.size) ((h2.below PnRel.kept hb).more PnRel.kept hb.size) hn1 hn2
  have hB0 := (((Blk.new w 30 (s.arr (.slice A1 n1 c1) (.slice A2 n2 c2))).alloc (.cells st.arr 26)).alloc (.cells fl.arr 26))
  have hX : Below w.heap.size w (((w.alloc (.cells (s.arr (.slice A1 n1 c1) (.slice A2 n2 c2)) 30)).alloc (.cells st.arr 26)).alloc (.cells fl.arr 26)) := by go_grown
  unfold flt at hout
  rcases hout with e1 | ⟨e1, e2 | ⟨e2, e3⟩⟩
  all_goals
    rw [e1] at hF
    clear e1
    go_enter Try.func5, Try.ntmps5
    go_wp2_with (go_at_call 7; fail)
    refine (first_any _).mono ?_
    rintro e w1 ⟨rfl, hb1⟩
    have b0 := hB0.below hb1 hB0.lt
    have hY := hX.trans (hb1.mono hX.size)
    obtain ⟨g0, z0, z1, z2, z3, z4, z5, z6, z7, z8, z9, z10, z11⟩ := b0.dozen
    go_wp2_with (first
      | ((with_reducible refine (hF _ hY).mono ?_); rintro e w2 ⟨rfl, hb2⟩
         have b02 := b0.below hb2 b0.lt
         have hZ := hY.trans (hb2.mono hY.size)
         obtain ⟨g02, u0, u1, u2, u3, u4, u5, u6, u7, u8, u9, u10, u11⟩ := b02.dozen)
      | ((with_reducible refine (first_any _).mono ?_); rintro e w3 ⟨rfl, hb3⟩))
    go_ret
    exact ⟨rfl, hZ.trans (hb3.mono hZ.size)⟩

theorem divide_named (s : Stt) (A1 A2 : Option Addr) (n1 n2 c1 c2 : Nat) (x : Nat) (k : Int) (st fl : Sp) (w : World) (hok : s.r.ok) (hx : x < 18446744073709551616) (h1 : Sl HsRel 2 w w.heap.size A1 n1 s.h) (h2 : Sl PnRel 8 w w.heap.size A2 n2 s.p) (hH : SmallH s.h) (hQ : SmallP s.p)
    (L R : Stt) (e : Int) (hL : divL s x k st fl = L) (hR : divR s x k st fl = R) (hE : divE s x k st fl = e) :
    Calls Try.prog 10 #[.agg (s.arr (.slice A1 n1 c1) (.slice A2 n2 c2)), .float .f64 x, .int .i64 k, st.val, fl.val] w fun en w' => ∃ B1 m1 d1 B2 m2 d2 B3 m3 d3 B4 m4 d4, en = .returned (.tuple #[.agg (L.arr (.slice B1 m1 d1) (.slice B2 m2 d2)), .agg (R.arr (.slice B3 m3 d3) (.slice B4 m4 d4)), .int .i64 e]) ∧
      Sl HsRel 2 w' w'.heap.size B1 m1 L.h ∧ Sl PnRel 8 w' w'.heap.size B2 m2 L.p ∧ Sl HsRel 2 w' w'.heap.size B3 m3 R.h ∧ Sl PnRel 8 w' w'.heap.size B4 m4 R.p ∧ Below w.heap.size w w' := by
  subst hL hR hE
  refine (divide_any s A1 A2 n1 n2 c1 c2 x k st fl w hok hx h1 h2 hH hQ).mono ?_
  rintro en w' ⟨v1, v2, v3, v4, rfl, ⟨B1, m1, d1, rfl, -, -, r1⟩, ⟨B2, m2, d2, rfl, -, -, r2⟩, ⟨B3, m3, d3, rfl, -, -, r3⟩, ⟨B4, m4, d4, rfl, -, -, r4⟩, hb⟩
  exact ⟨B1, m1, d1, B2, m2, d2, B3, m3, d3, B4, m4, d4, rfl, r1, r2, r3, r4, hb⟩
theorem split_ok_r {r : Rg} {x : Nat} {k : Int} (hok : r.ok) (hx : x < 18446744073709551616) (hk : i64ok k) : (splitL r x k).ok ∧ (splitU r x k).ok := by
  unfold splitL splitU
  have z : Rg.ok ⟨0, 0, 0, 0⟩ := by unfold Rg.ok i64ok; simp
  by_cases h : splitE r x k = 0
  · rw [if_pos h, if_pos h]
    have h1 := (split_zero h).1
    unfold Rg.ok i64ok at *
    obtain ⟨a, b, c, d⟩ := hok
    refine ⟨⟨a, ?_, c, hx⟩, ⟨hk, ?_, hx, d⟩⟩
    · simp only; omega
    · simp only; omega
  · rw [if_neg h, if_neg h]; exact ⟨z, z⟩
theorem smallH_F (f : ByteArray → Bool) {H : List Hs} (h : SmallH H) : SmallH (hsF f H) := ⟨Nat.le_trans (List.length_filter_le _ _) h.1, fun x hx => h.2 x (List.mem_filter.1 hx).1⟩
theorem smallP_F (f : ByteArray → Bool) (g : Pn → Bool) {Q : List Pn} (h : SmallP Q) : SmallP ((Q.map (pnF f)).filter g) := by
  refine ⟨Nat.le_trans (List.length_filter_le _ _) (by rw [List.length_map]; exact h.1), fun p hp => ?_⟩
  obtain ⟨q, hq, rfl⟩ := List.mem_map.1 (List.mem_filter.1 hp).1
  have := h.2 q hq
  exact ⟨Nat.le_trans (List.length_filter_le _ _) this.1, Nat.le_trans (List.length_filter_le _ _) this.2⟩
theorem left_small {s : Stt} {x : Nat} {k : Int} (h : SmallH s.h ∧ SmallP s.p) : SmallH (leftS s x k).h ∧ SmallP (leftS s x k).p := by
  rw [leftS_part]
  exact ⟨smallH_F (fun k => belowB k x) h.1, smallP_F (fun k => belowB k x) yesP h.2⟩
theorem right_small {s : Stt} {x : Nat} {k : Int} {st fl : Sp} (h : SmallH s.h ∧ SmallP s.p) : SmallH (rightS s x k st fl).h ∧ SmallP (rightS s x k st fl).p := by
  rw [rightS_part]
  exact ⟨smallH_F (fun k => !belowB k x) h.1, smallP_F (fun k => !belowB k x) fullP h.2⟩

set_option maxRecDepth 100000 in
set_option maxHeartbeats 8000000 in
theorem twice_in (s : Stt) (A1 A2 : Option Addr) (n1 n2 c1 c2 : Nat) (p q : Nat) (st fl : Sp) (w : World) (hok : s.r.ok) (hp : p < 18446744073709551616) (hq : q < 18446744073709551616) (h1 : Sl HsRel 2 w w.heap.size A1 n1 s.h) (h2 : Sl PnRel 8 w w.heap.size A2 n2 s.p) (hn1 : n1 ≤ maxLen) (hn2 : n2 ≤ maxLen)
    (hin : weighS 20000 s ≤ 20000) (hpq : flt p q = true) (hep : s.r.ep ≤ 4611686018427387904) :
    Calls Try.prog 5 #[.agg (s.arr (.slice A1 n1 c1) (.slice A2 n2 c2)), .float .f64 p, .float .f64 q, st.val, fl.val] w fun e w' => e = .returned (.bool true) ∧ Below w.heap.size w w' := by
  have hsm := weighS_small (by omega) (by omega) hin
  have hF := fun w' (hb : Below w.heap.size w w') => few_any s A1 A2 n1 n2 c1 c2 w' ((h1.below HsRel.kept hb).more HsRel.kept hb.size) ((h2.below PnRel.kept hb).more PnRel.kept hb.size) hn1 hn2
  rw [decide_eq_true hin] at hF
  have hB0 := (((Blk.new w 30 (s.arr (.slice A1 n1 c1) (.slice A2 n2 c2))).alloc (.cells st.arr 26)).alloc (.cells fl.arr 26))
  have hB1 := (Blk.new' (w := w.alloc (.cells (s.arr (.slice A1 n1 c1) (.slice A2 n2 c2)) 30)) (g := w.heap.size + 1) 26 st.arr (by simp)).alloc (.cells fl.arr 26)
  have hB2 := Blk.new' (w := (w.alloc (.cells (s.arr (.slice A1 n1 c1) (.slice A2 n2 c2)) 30)).alloc (.cells st.arr 26)) (g := w.heap.size + 1 + 1) 26 fl.arr (by simp)
  have hX : Below w.heap.size w (((w.alloc (.cells (s.arr (.slice A1 n1 c1) (.slice A2 n2 c2)) 30)).alloc (.cells st.arr 26)).alloc (.cells fl.arr 26)) := by go_grown
  have hlt : (FloatKind.f64.format.order p q == some Ordering.lt) = true := hpq
  have hTW := fun a b => twice (s := s) (p := p) (q := q) (st := st) (fl := fl) hpq hep a b
  have HT := Lib.hid hTW
  have HLa := Lib.hid (show divE s p 11 st fl = 0 → divR s p 11 st fl = rightS s p 11 st fl from fun h => by unfold divR; rw [if_pos h])
  have HLc := Lib.hid (show divE s q 12 st fl = 0 → divL s q 12 st fl = leftS s q 12 from fun h => by unfold divL; rw [if_pos h])
  have hep2 : ¬ (4611686018427387904 : Int) < s.r.ep := by omega
  have hep3 : decide ((4611686018427387904 : Int) < s.r.ep) = false := by simp; omega
  clear hTW hpq hin hep
  obtain ⟨La, hLa⟩ : ∃ L, divL s p 11 st fl = L := ⟨_, rfl⟩
  obtain ⟨Ra, hRa⟩ : ∃ L, divR s p 11 st fl = L := ⟨_, rfl⟩
  obtain ⟨Ea, hEa⟩ : ∃ L, divE s p 11 st fl = L := ⟨_, rfl⟩
  obtain ⟨Lc, hLc⟩ : ∃ L, divL s q 12 st fl = L := ⟨_, rfl⟩
  obtain ⟨Rc, hRc⟩ : ∃ L, divR s q 12 st fl = L := ⟨_, rfl⟩
  obtain ⟨Ec, hEc⟩ : ∃ L, divE s q 12 st fl = L := ⟨_, rfl⟩
  have HD1 := Lib.hid (fun A1 A2 n1 n2 c1 c2 w h1 h2 => divide_named s A1 A2 n1 n2 c1 c2 p 11 st fl w hok hp h1 h2 hsm.1 hsm.2 La Ra Ea hLa hRa hEa)
  have HD2 := Lib.hid (fun A1 A2 n1 n2 c1 c2 w h1 h2 => divide_named s A1 A2 n1 n2 c1 c2 q 12 st fl w hok hq h1 h2 hsm.1 hsm.2 Lc Rc Ec hLc hRc hEc)
  have HE := Lib.hid (⟨hLa, hRa, hEa, hLc, hRc, hEc⟩ : divL s p 11 st fl = La ∧ divR s p 11 st fl = Ra ∧ divE s p 11 st fl = Ea ∧ divL s q 12 st fl = Lc ∧ divR s q 12 st fl = Rc ∧ divE s q 12 st fl = Ec)
  clear hLa hRa hEa hLc hRc hEc
  go_enter Try.func5, Try.ntmps5
  go_wp2_with (go_at_call 7; fail)
  refine (first_any _).mono ?_
  rintro e w1 ⟨rfl, hb1⟩
  have b0 := hB0.below hb1 hB0.lt
  have hY := hX.trans (hb1.mono hX.size)
  obtain ⟨g0, z0, z1, z2, z3, z4, z5, z6, z7, z8, z9, z10, z11⟩ := b0.dozen
  go_wp2_with (first
    | ((with_reducible refine (hF _ hY).mono ?_); rintro e w2 ⟨rfl, hb2⟩
       have hb12 := hb1.trans (hb2.mono hb1.size)
       have b0 := hB0.below hb12 hB0.lt
       have b1 := hB1.below hb12 hB1.lt
       have b2 := hB2.below hb12 hB2.lt
       have hZ := hX.trans (hb12.mono hX.size)
       obtain ⟨g02, u0, u1, u2, u3, u4, u5, u6, u7, u8, u9, u10, u11⟩ := b0.dozen
       obtain ⟨g1, s0, s1, s2⟩ := b1.three
       obtain ⟨g2, q0, q1, q2⟩ := b2.three)
    | (go_at_call 10; fail))
  refine (HD1.out A1 A2 n1 n2 c1 c2 w2 ((h1.below HsRel.kept hZ).more HsRel.kept hZ.size) ((h2.below PnRel.kept hZ).more PnRel.kept hZ.size)).mono ?_
  rintro e w3 ⟨B1, m1, d1, B2, m2, d2, B3, m3, d3, B4, m4, d4, rfl, r1, r2, r3, r4, hb3⟩
  have W3 : Below w.heap.size w w3 := hZ.trans (hb3.mono hZ.size)
  replace b0 := b0.below hb3 b0.lt
  replace b1 := b1.below hb3 b1.lt
  replace b2 := b2.below hb3 b2.lt
  clear hb1 hb2 hb12 hY hZ g0 z0 z1 z2 z3 z4 z5 z6 z7 z8 z9 z10 z11 g02 u0 u1 u2 u3 u4 u5 u6 u7 u8 u9 u10 u11 g1 s0 s1 s2 g2 q0 q1 q2 hb3 hF
  obtain ⟨g0, z0, z1, z2, z3, z4, z5, z6, z7, z8, z9, z10, z11⟩ := b0.dozen
  obtain ⟨g1, s0, s1, s2⟩ := b1.three
  obtain ⟨g2, q0, q1, q2⟩ := b2.three
  have g01 : w.heap.size < w3.heap.size + 1 := by omega
  have g11 : w.heap.size + 1 < w3.heap.size + 1 := by omega
  have g21 : w.heap.size + 1 + 1 < w3.heap.size + 1 := by omega
  go_wp2_with (first
    | (refine wpList_store_new rfl 30 _ _ rfl _ rfl rfl _ _ (by kernel_rfl) (by kernel_rfl) (by kernel_rfl) ?_)
    | (refine wpList_store_new2 rfl 30 _ _ rfl _ rfl rfl _ _ _ (by kernel_rfl) (by kernel_rfl) (by kernel_rfl) ?_)
    | (go_at_call 10; fail))
  have c11 : Blk ((w3.alloc (.cells (La.arr (.slice B1 m1 d1) (.slice B2 m2 d2)) 30)).alloc (.cells (Ra.arr (.slice B3 m3 d3) (.slice B4 m4 d4)) 30)) w3.heap.size 30 (La.arr (.slice B1 m1 d1) (.slice B2 m2 d2)) := (Blk.new _ _ _).alloc _
  have c12 : Blk ((w3.alloc (.cells (La.arr (.slice B1 m1 d1) (.slice B2 m2 d2)) 30)).alloc (.cells (Ra.arr (.slice B3 m3 d3) (.slice B4 m4 d4)) 30)) (w3.heap.size + 1) 30 (Ra.arr (.slice B3 m3 d3) (.slice B4 m4 d4)) := Blk.new' _ _ (by simp)
  have hb34 : Below w3.heap.size w3 ((w3.alloc (.cells (La.arr (.slice B1 m1 d1) (.slice B2 m2 d2)) 30)).alloc (.cells (Ra.arr (.slice B3 m3 d3) (.slice B4 m4 d4)) 30)) := by go_grown
  generalize ((w3.alloc (.cells (La.arr (.slice B1 m1 d1) (.slice B2 m2 d2)) 30)).alloc (.cells (Ra.arr (.slice B3 m3 d3) (.slice B4 m4 d4)) 30)) = w4 at *
  replace b0 := b0.below hb34 b0.lt
  replace b1 := b1.below hb34 b1.lt
  replace b2 := b2.below hb34 b2.lt
  have W4 : Below w.heap.size w w4 := W3.trans (hb34.mono W3.size)
  replace r3 := (r3.below HsRel.kept hb34).more HsRel.kept hb34.size
  replace r4 := (r4.below PnRel.kept hb34).more PnRel.kept hb34.size
  clear g0 z0 z1 z2 z3 z4 z5 z6 z7 z8 z9 z10 z11 g1 s0 s1 s2 g2 q0 q1 q2 g01 g11 g21 r1 r2 hb34
  refine (HD2.out A1 A2 n1 n2 c1 c2 w4 ((h1.below HsRel.kept W4).more HsRel.kept W4.size) ((h2.below PnRel.kept W4).more PnRel.kept W4.size)).mono ?_
  rintro e w5 ⟨B5, m5, d5, B6, m6, d6, B7, m7, d7, B8, m8, d8, rfl, r5, r6, r7, r8, hb5⟩
  have W5 : Below w.heap.size w w5 := W4.trans (hb5.mono W4.size)
  replace b0 := b0.below hb5 b0.lt
  replace b1 := b1.below hb5 b1.lt
  replace b2 := b2.below hb5 b2.lt
  replace c12 := c12.below hb5 c12.lt
  replace r3 := (r3.below HsRel.kept hb5).more HsRel.kept hb5.size
  replace r4 := (r4.below PnRel.kept hb5).more PnRel.kept hb5.size
  clear c11 r7 r8 hb5
  generalize w3.heap.size = g11 at *
  go_upto_region 7 with (first
    | (refine wpList_store_new rfl 30 _ _ rfl _ rfl rfl _ _ (by kernel_rfl) (by kernel_rfl) (by kernel_rfl) ?_)
    | (refine wpList_store_new2 rfl 30 _ _ rfl _ rfl rfl _ _ _ (by kernel_rfl) (by kernel_rfl) (by kernel_rfl) ?_))
  have c14 : Blk ((w5.alloc (.cells (Lc.arr (.slice B5 m5 d5) (.slice B6 m6 d6)) 30)).alloc (.cells (Rc.arr (.slice B7 m7 d7) (.slice B8 m8 d8)) 30)) w5.heap.size 30 (Lc.arr (.slice B5 m5 d5) (.slice B6 m6 d6)) := (Blk.new _ _ _).alloc _
  have hb56 : Below w5.heap.size w5 ((w5.alloc (.cells (Lc.arr (.slice B5 m5 d5) (.slice B6 m6 d6)) 30)).alloc (.cells (Rc.arr (.slice B7 m7 d7) (.slice B8 m8 d8)) 30)) := by go_grown
  generalize ((w5.alloc (.cells (Lc.arr (.slice B5 m5 d5) (.slice B6 m6 d6)) 30)).alloc (.cells (Rc.arr (.slice B7 m7 d7) (.slice B8 m8 d8)) 30)) = w6 at *
  replace b0 := b0.below hb56 b0.lt
  replace b1 := b1.below hb56 b1.lt
  replace b2 := b2.below hb56 b2.lt
  replace c12 := c12.below hb56 c12.lt
  have W6 : Below w.heap.size w w6 := W5.trans (hb56.mono W5.size)
  replace r3 := (r3.below HsRel.kept hb56).more HsRel.kept hb56.size
  replace r4 := (r4.below PnRel.kept hb56).more PnRel.kept hb56.size
  replace r5 := (r5.below HsRel.kept hb56).more HsRel.kept hb56.size
  replace r6 := (r6.below PnRel.kept hb56).more PnRel.kept hb56.size
  clear hb56
  generalize w5.heap.size = g14 at *
  by_cases hgood : Ea = 0 ∧ Ec = 0
  · obtain ⟨rfl, rfl⟩ := hgood
    obtain ⟨hLa, hRa, hEa, hLc, hRc, hEc⟩ := HE.out
    have ra : rightS s p 11 st fl = Ra := (HLa.out hEa).symm.trans hRa
    have lc : leftS s q 12 = Lc := (HLc.out hEc).symm.trans hLc
    obtain ⟨t1, t2, t3, t4, t5, t6⟩ := HT.out hEa hEc
    have rasm : SmallH Ra.h ∧ SmallP Ra.p := by rw [← ra]; exact right_small hsm
    have lcsm : SmallH Lc.h ∧ SmallP Lc.p := by rw [← lc]; exact left_small hsm
    have raok : Ra.r.ok := by rw [← ra]; exact (split_ok_r hok hp (by unfold i64ok; omega)).2
    have lcok : Lc.r.ok := by rw [← lc]; exact (split_ok_r hok hq (by unfold i64ok; omega)).1
    rw [ra] at t1 t3 t4 t5 t6
    rw [lc] at t2 t3 t4 t5 t6
    have xe : divL Ra q 12 st fl = leftS Ra q 12 := by unfold divL; rw [if_pos t1]
    have ye : divR Lc p 11 st fl = rightS Lc p 11 st fl := by unfold divR; rw [if_pos t2]
    have xsm := left_small (x := q) (k := 12) rasm
    have ysm := right_small (x := p) (k := 11) (st := st) (fl := fl) lcsm
    rw [← xe] at t3 t4 t5 t6 xsm
    rw [← ye] at t3 t4 t5 t6 ysm
    have HD3 := Lib.hid (fun A1 A2 n1 n2 c1 c2 w h1 h2 => divide_named Ra A1 A2 n1 n2 c1 c2 q 12 st fl w raok hq h1 h2 rasm.1 rasm.2 (divL Ra q 12 st fl) (divR Ra q 12 st fl) 0 rfl rfl t1)
    have HD4 := Lib.hid (fun A1 A2 n1 n2 c1 c2 w h1 h2 => divide_named Lc A1 A2 n1 n2 c1 c2 p 11 st fl w lcok hp h1 h2 lcsm.1 lcsm.2 (divL Lc p 11 st fl) (divR Lc p 11 st fl) 0 rfl rfl t2)
    clear hLa hRa hEa hLc hRc hEc ra lc xe ye t1 t2
    generalize divL Ra q 12 st fl = X at *
    generalize divR Ra q 12 st fl = X2 at *
    generalize divL Lc p 11 st fl = Y2 at *
    generalize divR Lc p 11 st fl = Y at *
    have T3 := Lib.hid t3
    have T4 := Lib.hid t4
    have hb1 := fun w => rbits X.r.lo Y.r.lo w
    have hb2 := fun w => rbits X.r.hi Y.r.hi w
    rw [show (((X.r.lo : Int) == Y.r.lo)) = true from by rw [t5]; simp] at hb1
    rw [show (((X.r.hi : Int) == Y.r.hi)) = true from by rw [t6]; simp] at hb2
    clear t3 t4 t5 t6
    obtain ⟨g0, -, -, -, -, -, -, -, -, -, -, -, -⟩ := b0.dozen
    obtain ⟨g1, s0, s1, s2⟩ := b1.three
    obtain ⟨g2, q0, q1, q2⟩ := b2.three
    obtain ⟨g12, z0, z1, z2, z3, z4, z5, z6, z7, z8, z9, z10, z11⟩ := c12.dozen
    go_wp2_with (go_at_call 10; fail)
    refine (HD3.out B3 B4 m3 m4 d3 d4 w6 r3 r4).mono ?_
    rintro e w7 ⟨C1, o1, f1, C2, o2, f2, C3, o3, f3, C4, o4, f4, rfl, x1, x2, x3, x4, hb7⟩
    have W7 : Below w.heap.size w w7 := W6.trans (hb7.mono W6.size)
    replace b0 := b0.below hb7 b0.lt
    replace b1 := b1.below hb7 b1.lt
    replace b2 := b2.below hb7 b2.lt
    replace c14 := c14.below hb7 c14.lt
    replace r5 := (r5.below HsRel.kept hb7).more HsRel.kept hb7.size
    replace r6 := (r6.below PnRel.kept hb7).more PnRel.kept hb7.size
    clear g0 g1 s0 s1 s2 g2 q0 q1 q2 g12 z0 z1 z2 z3 z4 z5 z6 z7 z8 z9 z10 z11 x3 x4 hb7 c12 r3 r4
    obtain ⟨g0, -, -, -, -, -, -, -, -, -, -, -, -⟩ := b0.dozen
    obtain ⟨g1, s0, s1, s2⟩ := b1.three
    obtain ⟨g2, q0, q1, q2⟩ := b2.three
    obtain ⟨g14', z0, z1, z2, z3, z4, z5, z6, z7, z8, z9, z10, z11⟩ := c14.dozen
    have g01 : w.heap.size < w7.heap.size + 1 := by omega
    have g011 : w.heap.size + 1 < w7.heap.size + 1 := by omega
    have g21 : w.heap.size + 1 + 1 < w7.heap.size + 1 := by omega
    have g141 : g14 < w7.heap.size + 1 := by omega
    go_wp2_with (first
      | (refine wpList_store_new rfl 30 _ _ rfl _ rfl rfl _ _ (by kernel_rfl) (by kernel_rfl) (by kernel_rfl) ?_)
      | (refine wpList_store_new2 rfl 30 _ _ rfl _ rfl rfl _ _ _ (by kernel_rfl) (by kernel_rfl) (by kernel_rfl) ?_)
      | (go_at_call 10; fail))
    have c17 : Blk ((w7.alloc (.cells (X.arr (.slice C1 o1 f1) (.slice C2 o2 f2)) 30)).alloc (.cells (X2.arr (.slice C3 o3 f3) (.slice C4 o4 f4)) 30)) w7.heap.size 30 (X.arr (.slice C1 o1 f1) (.slice C2 o2 f2)) := (Blk.new _ _ _).alloc _
    have hb78 : Below w7.heap.size w7 ((w7.alloc (.cells (X.arr (.slice C1 o1 f1) (.slice C2 o2 f2)) 30)).alloc (.cells (X2.arr (.slice C3 o3 f3) (.slice C4 o4 f4)) 30)) := by go_grown
    generalize ((w7.alloc (.cells (X.arr (.slice C1 o1 f1) (.slice C2 o2 f2)) 30)).alloc (.cells (X2.arr (.slice C3 o3 f3) (.slice C4 o4 f4)) 30)) = w8 at *
    have W8 : Below w.heap.size w w8 := W7.trans (hb78.mono W7.size)
    replace r5 := (r5.below HsRel.kept hb78).more HsRel.kept hb78.size
    replace r6 := (r6.below PnRel.kept hb78).more PnRel.kept hb78.size
    replace x1 := (x1.below HsRel.kept hb78).more HsRel.kept hb78.size
    replace x2 := (x2.below PnRel.kept hb78).more PnRel.kept hb78.size
    clear g0 g1 s0 s1 s2 g2 q0 q1 q2 g14' z0 z1 z2 z3 z4 z5 z6 z7 z8 z9 z10 z11 hb78 c14 b0 b1 b2 g01 g011 g21 g141
    refine (HD4.out B5 B6 m5 m6 d5 d6 w8 r5 r6).mono ?_
    rintro e w9 ⟨D1, k1, l1, D2, k2, l2, D3, k3, l3, D4, k4, l4, rfl, y1, y2, y3, y4, hb9⟩
    have W9 : Below w.heap.size w w9 := W8.trans (hb9.mono W8.size)
    replace c17 := c17.below hb9 c17.lt
    replace x1 := (x1.below HsRel.kept hb9).more HsRel.kept hb9.size
    replace x2 := (x2.below PnRel.kept hb9).more PnRel.kept hb9.size
    generalize w7.heap.size = g17 at *
    clear hb9 y1 y2 r5 r6
    go_upto_region 11 with (first
      | (refine wpList_store_new rfl 30 _ _ rfl _ rfl rfl _ _ (by kernel_rfl) (by kernel_rfl) (by kernel_rfl) ?_)
      | (refine wpList_store_new2 rfl 30 _ _ rfl _ rfl rfl _ _ _ (by kernel_rfl) (by kernel_rfl) (by kernel_rfl) ?_))
    have c21 : Blk ((w9.alloc (.cells (Y2.arr (.slice D1 k1 l1) (.slice D2 k2 l2)) 30)).alloc (.cells (Y.arr (.slice D3 k3 l3) (.slice D4 k4 l4)) 30)) (w9.heap.size + 1) 30 (Y.arr (.slice D3 k3 l3) (.slice D4 k4 l4)) := Blk.new' _ _ (by simp)
    have hb90 : Below w9.heap.size w9 ((w9.alloc (.cells (Y2.arr (.slice D1 k1 l1) (.slice D2 k2 l2)) 30)).alloc (.cells (Y.arr (.slice D3 k3 l3) (.slice D4 k4 l4)) 30)) := by go_grown
    generalize ((w9.alloc (.cells (Y2.arr (.slice D1 k1 l1) (.slice D2 k2 l2)) 30)).alloc (.cells (Y.arr (.slice D3 k3 l3) (.slice D4 k4 l4)) 30)) = wa at *
    have Wa : Below w.heap.size w wa := W9.trans (hb90.mono W9.size)
    replace c17 := c17.below hb90 c17.lt
    replace x1 := (x1.below HsRel.kept hb90).more HsRel.kept hb90.size
    replace x2 := (x2.below PnRel.kept hb90).more PnRel.kept hb90.size
    replace y3 := (y3.below HsRel.kept hb90).more HsRel.kept hb90.size
    replace y4 := (y4.below PnRel.kept hb90).more PnRel.kept hb90.size
    clear hb90
    generalize w9.heap.size = g20 at *
    have mX := xsm.1.1
    have mX2 := xsm.2.1
    have mY2 := ysm.2.1
    have lx1 := x1.1
    have lx2 := x2.1
    have ly4 := y4.1
    have HH := Lib.hid (fun w' (hb : Below wa.heap.size wa w') => hists_same C1 D3 o1 k3 f1 l3 X.h w' ((x1.below HsRel.kept hb).more HsRel.kept hb.size) (by rw [T3.out]; exact (y3.below HsRel.kept hb).more HsRel.kept hb.size) (by unfold maxLen; omega))
    have HA := Lib.hid (fun w' (hb : Below wa.heap.size wa w') => alike_any C2 D4 o2 k4 f2 l4 X.p Y.p w' ((x2.below PnRel.kept hb).more PnRel.kept hb.size) ((y4.below PnRel.kept hb).more PnRel.kept hb.size) (by omega) (by omega) xsm.2.2 ysm.2.2 T4.out)
    clear lx1 lx2 ly4 mX mX2 mY2 x1 x2 y3 y4
    go_wp2_with (first
      | ((with_reducible refine (first_any _).mono ?_); rintro e wb ⟨rfl, hbb⟩
         have c17b := c17.below hbb c17.lt
         have c21b := c21.below hbb c21.lt
         obtain ⟨i1, z0, z1, z2, z3, z4, z5, z6, z7, z8, z9, z10, z11⟩ := c17b.dozen
         obtain ⟨i2, u0, u1, u2, u3, u4, u5, u6, u7, u8, u9, u10, u11⟩ := c21b.dozen)
      | ((with_reducible refine (HH.out _ hbb).mono ?_); rintro e wc ⟨rfl, hbc⟩
         have hbbc := hbb.trans (hbc.mono hbb.size)
         have c17c := c17.below hbbc c17.lt
         have c21c := c21.below hbbc c21.lt
         obtain ⟨i1', z0', z1', z2', z3', z4', z5', z6', z7', z8', z9', z10', z11'⟩ := c17c.dozen
         obtain ⟨i2', u0', u1', u2', u3', u4', u5', u6', u7', u8', u9', u10', u11'⟩ := c21c.dozen)
      | ((with_reducible refine (HA.out _ hbbc).mono ?_); rintro e wd ⟨rfl, hbd⟩
         have hbbd := hbbc.trans (hbd.mono hbbc.size)
         have c17d := c17.below hbbd c17.lt
         have c21d := c21.below hbbd c21.lt
         obtain ⟨j1, v0, v1, v2, v3, -, -, -, -, -, -, -, -⟩ := c17d.dozen
         obtain ⟨j2, t0, t1, t2, t3, -, -, -, -, -, -, -, -⟩ := c21d.dozen)
      | ((with_reducible refine (hb1 _).mono ?_); rintro e we ⟨rfl, rfl⟩)
      | ((with_reducible refine (hb2 _).mono ?_); rintro e we ⟨rfl, rfl⟩))
    go_ret
    exact ⟨rfl, Wa.trans (hbbd.mono Wa.size)⟩
  · have hq1 : (Ea != 0) = true ∨ ((Ea != 0) = false ∧ (Ec != 0) = true) := by
      by_cases he : Ea = 0
      · exact .inr ⟨by simp [he], by simp; exact fun e => hgood ⟨he, e⟩⟩
      · exact .inl (by simp [he])
    clear hgood
    rcases hq1 with hq1 | ⟨hq1, hq2⟩
    all_goals
      go_wp2_with ((with_reducible refine (first_any _).mono ?_); rintro e wb ⟨rfl, hbb⟩)
      go_ret
      exact ⟨rfl, W6.trans (hbb.mono W6.size)⟩

theorem twice_any (s : Stt) (A1 A2 : Option Addr) (n1 n2 c1 c2 : Nat) (p q : Nat) (st fl : Sp) (w : World) (hok : s.r.ok) (hp : p < 18446744073709551616) (hq : q < 18446744073709551616) (h1 : Sl HsRel 2 w w.heap.size A1 n1 s.h) (h2 : Sl PnRel 8 w w.heap.size A2 n2 s.p) (hn1 : n1 ≤ maxLen) (hn2 : n2 ≤ maxLen) :
    Calls Try.prog 5 #[.agg (s.arr (.slice A1 n1 c1) (.slice A2 n2 c2)), .float .f64 p, .float .f64 q, st.val, fl.val] w fun e w' => e = .returned (.bool true) ∧ Below w.heap.size w w' := by
  by_cases hin : weighS 20000 s ≤ 20000
  · cases hpq : flt p q
    · exact twice_out s A1 A2 n1 n2 c1 c2 p q st fl w h1 h2 hn1 hn2 (.inr ⟨decide_eq_true hin, .inl hpq⟩)
    · by_cases hep : s.r.ep ≤ 4611686018427387904
      · exact twice_in s A1 A2 n1 n2 c1 c2 p q st fl w hok hp hq h1 h2 hn1 hn2 hin hpq hep
      · exact twice_out s A1 A2 n1 n2 c1 c2 p q st fl w h1 h2 hn1 hn2 (.inr ⟨decide_eq_true hin, .inr ⟨hpq, by omega⟩⟩)
  · exact twice_out s A1 A2 n1 n2 c1 c2 p q st fl w h1 h2 hn1 hn2 (.inl (decide_eq_false hin))
end Go.Proofs.Ytipacjbegfingaa
