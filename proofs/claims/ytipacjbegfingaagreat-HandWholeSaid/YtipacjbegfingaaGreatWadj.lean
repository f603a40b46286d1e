/- The program's Rejoin, whatever the states; HandWhole where nothing is divided. -/
import Derived.Test.YtipacjbegfingaaGreatWaba
import Derived.Test.YtipacjbegfingaaGreatWadb
import Derived.Test.YtipacjbegfingaaGreatWadd
import Derived.Test.YtipacjbegfingaaGreatWadi
namespace Go.Proofs.YtipacjbegfingaaGreat
set_option linter.unusedVariables false
open Go.RowKit Fl
attribute [local go_sem] run_store_float

/-- the program's Rejoin -/
theorem rejoin_any (l r : Stt) (A1 A2 A3 A4 : Option Addr) (n1 n2 n3 n4 c1 c2 c3 c4 : Nat) (w : World) (hok : l.r.ok) (hok2 : r.r.ok) (h1 : Sl HsRel 2 w w.heap.size A1 n1 l.h) (h2 : Sl PnRel 8 w w.heap.size A2 n2 l.p) (h3 : Sl HsRel 2 w w.heap.size A3 n3 r.h) (h4 : Sl PnRel 8 w w.heap.size A4 n4 r.p) (hH : SmallH l.h) (hQ : SmallP l.p) (hH2 : SmallH r.h) (hQ2 : SmallP r.p) :
    Calls Tryz.prog 8 #[.agg (l.arr (.slice A1 n1 c1) (.slice A2 n2 c2)), .agg (r.arr (.slice A3 n3 c3) (.slice A4 n4 c4))] w (RejPost w (if rejE l r = 0 then rejS l r else zeroS) (rejE l r)) := by
  by_cases hm : mayS l = false ∨ mayS l = true ∧ mayS r = false
  · rw [rejE_may hm, if_neg (by omega)]
    exact rejoin_a hok hok2 h1 h2 h3 h4 hH hQ hH2 hQ2 hm
  · have a1 : mayS l = true := by cases e : mayS l; exact absurd (.inl e) hm; rfl
    have a2 : mayS r = true := by cases e : mayS r; exact absurd (.inr ⟨a1, e⟩) hm; rfl
    by_cases hb : l.r.hi ≠ r.r.lo ∨ l.r.hi = r.r.lo ∧ l.r.ep < 1 ∨ l.r.hi = r.r.lo ∧ 1 ≤ l.r.ep ∧ l.r.id = r.r.id
    · rw [rejE_meet a1 a2 hb, if_neg (by omega)]
      exact rejoin_b hok hok2 h1 h2 h3 h4 hH hQ hH2 hQ2 a1 a2 hb
    · have hg : l.r.hi = r.r.lo ∧ 1 ≤ l.r.ep ∧ l.r.id ≠ r.r.id := by
        refine ⟨Classical.byContradiction fun e => hb (.inl e), Int.not_lt.1 fun e => hb ?_, fun e => hb ?_⟩
        · by_cases h : l.r.hi = r.r.lo
          · exact .inr (.inl ⟨h, by omega⟩)
          · exact .inl h
        · by_cases h : l.r.hi = r.r.lo
          · by_cases h' : l.r.ep < 1
            · exact .inr (.inl ⟨h, h'⟩)
            · exact .inr (.inr ⟨h, by omega, e⟩)
          · exact .inl h
      rw [rejE_like a1 a2 hg]
      by_cases ha : (r.p.all fun p => l.p.any fun x => alikeP x p) = true
      · rw [if_pos ha, if_pos rfl]
        exact rejoin_d hok hok2 h1 h2 h3 h4 hH hQ hH2 hQ2 a1 a2 hg (mayS_pair a2) ha
      · rw [if_neg ha, if_neg (by omega)]
        exact rejoin_c hok hok2 h1 h2 h3 h4 hH hQ hH2 hQ2 a1 a2 hg (mayS_pair a2) (by simpa using ha)
theorem rejoin_named (l r S : Stt) (E : Int) (A1 A2 A3 A4 : Option Addr) (n1 n2 n3 n4 c1 c2 c3 c4 : Nat) (w : World) (hok : l.r.ok) (hok2 : r.r.ok) (h1 : Sl HsRel 2 w w.heap.size A1 n1 l.h) (h2 : Sl PnRel 8 w w.heap.size A2 n2 l.p) (h3 : Sl HsRel 2 w w.heap.size A3 n3 r.h) (h4 : Sl PnRel 8 w w.heap.size A4 n4 r.p) (hH : SmallH l.h) (hQ : SmallP l.p) (hH2 : SmallH r.h) (hQ2 : SmallP r.p)
    (hS : (if rejE l r = 0 then rejS l r else zeroS) = S) (hE : rejE l r = E) :
    Calls Tryz.prog 8 #[.agg (l.arr (.slice A1 n1 c1) (.slice A2 n2 c2)), .agg (r.arr (.slice A3 n3 c3) (.slice A4 n4 c4))] w fun en w' => ∃ B1 m1 d1 B2 m2 d2, en = .returned (.tuple #[.agg (S.arr (.slice B1 m1 d1) (.slice B2 m2 d2)), .int .i64 E]) ∧ Sl HsRel 2 w' w'.heap.size B1 m1 S.h ∧ Sl PnRel 8 w' w'.heap.size B2 m2 S.p ∧ Below w.heap.size w w' := by
  subst hS hE
  refine (rejoin_any l r A1 A2 A3 A4 n1 n2 n3 n4 c1 c2 c3 c4 w hok hok2 h1 h2 h3 h4 hH hQ hH2 hQ2).mono ?_
  rintro en w' ⟨vh, vp, rfl, ⟨B1, m1, d1, rfl, -, -, k1⟩, ⟨B2, m2, d2, rfl, -, -, k2⟩, hb⟩
  exact ⟨B1, m1, d1, B2, m2, d2, rfl, k1, k2, hb⟩
abbrev whBox (s : Stt) (A1 A2 : Option Addr) (n1 n2 c1 c2 : Nat) (st fl : Sp) (w : World) : World := ((w.alloc (.cells (s.arr (.slice A1 n1 c1) (.slice A2 n2 c2)) 30)).alloc (.cells st.arr 26)).alloc (.cells fl.arr 26)
set_option maxRecDepth 100000 in
set_option maxHeartbeats 8000000 in
theorem whole_out (s : Stt) (A1 A2 : Option Addr) (n1 n2 c1 c2 : Nat) (x : Nat) (child : Int) (st fl : Sp) (w : World) (hok : s.r.ok) (hx : x < 18446744073709551616) (h1 : Sl HsRel 2 w w.heap.size A1 n1 s.h) (h2 : Sl PnRel 8 w w.heap.size A2 n2 s.p) (hn1 : n1 ≤ maxLen) (hn2 : n2 ≤ maxLen)
    (hout : decide (weighS 20000 s ≤ 20000) = false ∨ decide (weighS 20000 s ≤ 20000) = true ∧ weighS 20000 s ≤ 20000 ∧ divE s x child st fl ≠ 0) :
    Calls Tryz.prog 4 #[.agg (s.arr (.slice A1 n1 c1) (.slice A2 n2 c2)), .float .f64 x, .int .i64 child, st.val, fl.val] w fun e w' => e = .returned (.bool true) ∧ Below w.heap.size w w' := by
  have hF := fun w' (hb : Below w.heap.size w w') => few_any s A1 A2 n1 n2 c1 c2 w' ((h1.below HsRel.kept hb).more HsRel.kept hb.size) ((h2.below PnRel.kept hb).more PnRel.kept hb.size) hn1 hn2
  have hB0 : Blk (whBox s A1 A2 n1 n2 c1 c2 st fl w) w.heap.size 30 (s.arr (.slice A1 n1 c1) (.slice A2 n2 c2)) := ((Blk.new _ _ _).alloc _).alloc _
  have hB1 : Blk (whBox s A1 A2 n1 n2 c1 c2 st fl w) (w.heap.size + 1) 26 st.arr := (Blk.new' _ _ (by simp)).alloc _
  have hB2 : Blk (whBox s A1 A2 n1 n2 c1 c2 st fl w) (w.heap.size + 1 + 1) 26 fl.arr := Blk.new' _ _ (by simp)
  have hX : Below w.heap.size w (whBox s A1 A2 n1 n2 c1 c2 st fl w) := by go_grown
  rcases hout with e1 | ⟨e1, e0, e2⟩
  · rw [e1] at hF
    clear e1
    go_enter Tryz.func4, Tryz.ntmps4
    go_wp2_with (go_at_call 5; fail)
    refine (first_any _).mono ?_
    rintro e w1 ⟨rfl, hb1⟩
    have b0 := hB0.below hb1 hB0.lt
    have hY := hX.trans (hb1.mono hX.size)
    obtain ⟨g0, z0, z1, z2, z3, z4, z5, z6, z7, z8, z9, z10, z11⟩ := b0.dozen
    go_wp2_with fail
    refine (hF _ hY).mono ?_
    rintro e w2 ⟨rfl, hb2⟩
    have hZ := hY.trans (hb2.mono hY.size)
    go_wp2_with fail
    refine (first_any _).mono ?_
    rintro e w3 ⟨rfl, hb3⟩
    go_wp2
    go_ret
    exact ⟨rfl, hZ.trans (hb3.mono hZ.size)⟩
  · have hsm := weighS_small (by omega) (by omega) e0
    have hD := fun w' (hb : Below w.heap.size w w') => divide_named s A1 A2 n1 n2 c1 c2 x child st fl w' hok hx ((h1.below HsRel.kept hb).more HsRel.kept hb.size) ((h2.below PnRel.kept hb).more PnRel.kept hb.size) hsm.1 hsm.2 _ _ _ rfl rfl rfl
    rw [e1] at hF
    clear e1 e0
    generalize divL s x child st fl = DL at *
    generalize divR s x child st fl = DR at *
    generalize divE s x child st fl = DE at *
    have hb0 : (DE != 0) = true := by simp [e2]
    go_enter Tryz.func4, Tryz.ntmps4
    go_wp2_with (go_at_call 5; fail)
    refine (first_any _).mono ?_
    rintro e w1 ⟨rfl, hb1⟩
    have b0 := hB0.below hb1 hB0.lt
    have b1 := hB1.below hb1 hB1.lt
    have b2 := hB2.below hb1 hB2.lt
    have hY := hX.trans (hb1.mono hX.size)
    obtain ⟨g0, z0, z1, z2, z3, z4, z5, z6, z7, z8, z9, z10, z11⟩ := b0.dozen
    go_wp2_with fail
    refine (hF _ hY).mono ?_
    rintro e w2 ⟨rfl, hb2⟩
    have b02 := b0.below hb2 b0.lt
    have b12 := b1.below hb2 b1.lt
    have b22 := b2.below hb2 b2.lt
    have hZ := hY.trans (hb2.mono hY.size)
    clear z0 z1 z2 z3 z4 z5 z6 z7 z8 z9 z10 z11
    obtain ⟨g02, u0, u1, u2, u3, u4, u5, u6, u7, u8, u9, u10, u11⟩ := b02.dozen
    obtain ⟨g12, s0, s1, s2⟩ := b12.three
    obtain ⟨g22, q0, q1, q2⟩ := b22.three
    go_wp2_with fail
    refine (hD _ hZ).mono ?_
    rintro e w3 ⟨B1, m1, d1, B2, m2, d2, B3, m3, d3, B4, m4, d4, rfl, r1, r2, r3, r4, hb3⟩
    have W3 : Below w.heap.size w w3 := hZ.trans (hb3.mono hZ.size)
    have W4 : Below w.heap.size w ((w3.alloc (.cells (DL.arr (.slice B1 m1 d1) (.slice B2 m2 d2)) 30)).alloc (.cells (DR.arr (.slice B3 m3 d3) (.slice B4 m4 d4)) 30)) := (W3.alloc W3.size _).alloc (W3.alloc W3.size _).size _
    clear u0 u1 u2 u3 u4 u5 u6 u7 u8 u9 u10 u11 s0 s1 s2 q0 q1 q2 hD hF
    go_wp2_with (first
      | (refine wpList_store_new rfl 30 _ _ rfl _ rfl rfl _ _ (by kernel_rfl) (by kernel_rfl) (by kernel_rfl) ?_)
      | (refine wpList_store_new2 rfl 30 _ _ rfl _ rfl rfl _ _ _ (by kernel_rfl) (by kernel_rfl) (by kernel_rfl) ?_)
      | fail)
    refine (first_any _).mono ?_
    rintro e w5 ⟨rfl, hb5⟩
    go_wp2
    go_ret
    exact ⟨rfl, W4.trans (hb5.mono W4.size)⟩
end Go.Proofs.YtipacjbegfingaaGreat
