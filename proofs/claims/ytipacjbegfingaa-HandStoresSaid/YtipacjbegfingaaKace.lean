/- The walk of HandStores. -/
import Derived.Test.YtipacjbegfingaaKabg
import Derived.Test.YtipacjbegfingaaKacb
import Derived.Test.YtipacjbegfingaaKacc
import Derived.Test.YtipacjbegfingaaKacd
namespace Go.Proofs.Ytipacjbegfingaa
set_option linter.unusedVariables false
open Go.RowKit Fl
attribute [local go_sem] run_store_float

abbrev stBox (s : Stt) (A1 A2 : Option Addr) (n1 n2 c1 c2 : Nat) (at_ : Sp) (w : World) : World := (w.alloc (.cells (s.arr (.slice A1 n1 c1) (.slice A2 n2 c2)) 30)).alloc (.cells at_.arr 26)
set_option maxRecDepth 100000 in
set_option maxHeartbeats 8000000 in
theorem stores_out (s : Stt) (A1 A2 : Option Addr) (n1 n2 c1 c2 : Nat) (x : Nat) (child which : Int) (at_ : Sp) (commit : Bool) (w : World) (hok : s.r.ok) (hx : x < 18446744073709551616) (h1 : Sl HsRel 2 w w.heap.size A1 n1 s.h) (h2 : Sl PnRel 8 w w.heap.size A2 n2 s.p) (hn1 : n1 ≤ maxLen) (hn2 : n2 ≤ maxLen)
    (hout : decide (weighS 20000 s ≤ 20000) = false ∨ decide (weighS 20000 s ≤ 20000) = true ∧ weighS 20000 s ≤ 20000 ∧ divE s x child s.c s.f ≠ 0) :
    Calls Try.prog 4 #[.agg (s.arr (.slice A1 n1 c1) (.slice A2 n2 c2)), .float .f64 x, .int .i64 child, .int .i64 which, at_.val, .bool commit] w fun e w' => e = .returned (.bool true) ∧ Below w.heap.size w w' := by
  have hF := fun w' (hb : Below w.heap.size w w') => few_any s A1 A2 n1 n2 c1 c2 w' ((h1.below HsRel.kept hb).more HsRel.kept hb.size) ((h2.below PnRel.kept hb).more PnRel.kept hb.size) hn1 hn2
  have hB0 : Blk (stBox s A1 A2 n1 n2 c1 c2 at_ w) w.heap.size 30 (s.arr (.slice A1 n1 c1) (.slice A2 n2 c2)) := (Blk.new _ _ _).alloc _
  have hX : Below w.heap.size w (stBox s A1 A2 n1 n2 c1 c2 at_ w) := by go_grown
  rcases hout with e1 | ⟨e1, e0, e2⟩
  · rw [e1] at hF
    clear e1
    go_enter Try.func4, Try.ntmps4
    go_wp2_with (go_at_call 7; fail)
    refine (first_any _).mono ?_
    rintro e w1 ⟨rfl, hb1⟩
    have b0 := hB0.below hb1 hB0.lt
    have hY := hX.trans (hb1.mono hX.size)
    obtain ⟨g0, z0, z1, z2, z3, z4, z5, z6, z7, z8, z9, z10, z11⟩ := b0.dozen
    go_wp2_with fail
    refine (hF _ hY).mono ?_
    rintro e w2 ⟨rfl, hb2⟩
    have hZ := hY.trans (hb2.mono hY.size)
    go_wp2_with fail
    refine (first_any _).mono ?_
    rintro e w3 ⟨rfl, hb3⟩
    go_wp2
    go_ret
    exact ⟨rfl, hZ.trans (hb3.mono hZ.size)⟩
  · have hsm := weighS_small (by omega) (by omega) e0
    have hD := fun w' (hb : Below w.heap.size w w') => divide_named s A1 A2 n1 n2 c1 c2 x child s.c s.f w' hok hx ((h1.below HsRel.kept hb).more HsRel.kept hb.size) ((h2.below PnRel.kept hb).more PnRel.kept hb.size) hsm.1 hsm.2 _ _ _ rfl rfl rfl
    rw [e1] at hF
    clear e1 e0
    generalize divL s x child s.c s.f = DL at *
    generalize divR s x child s.c s.f = DR at *
    generalize divE s x child s.c s.f = DE at *
    have hb0 : (DE != 0) = true := by simp [e2]
    go_enter Try.func4, Try.ntmps4
    go_wp2_with (go_at_call 7; fail)
    refine (first_any _).mono ?_
    rintro e w1 ⟨rfl, hb1⟩
    have b0 := hB0.below hb1 hB0.lt
    have hY := hX.trans (hb1.mono hX.size)
    obtain ⟨g0, z0, z1, z2, z3, z4, z5, z6, z7, z8, z9, z10, z11⟩ := b0.dozen
    go_wp2_with fail
    refine (hF _ hY).mono ?_
    rintro e w2 ⟨rfl, hb2⟩
    have b02 := b0.below hb2 b0.lt
    have hZ := hY.trans (hb2.mono hY.size)
    clear z0 z1 z2 z3 z4 z5 z6 z7 z8 z9 z10 z11
    obtain ⟨g02, u0, u1, u2, u3, u4, u5, u6, u7, u8, u9, u10, u11⟩ := b02.dozen
    go_wp2_with fail
    refine (hD _ hZ).mono ?_
    rintro e w3 ⟨B1, m1, d1, B2, m2, d2, B3, m3, d3, B4, m4, d4, rfl, r1, r2, r3, r4, hb3⟩
    have W3 : Below w.heap.size w w3 := hZ.trans (hb3.mono hZ.size)
    have W4 : Below w.heap.size w ((w3.alloc (.cells (DL.arr (.slice B1 m1 d1) (.slice B2 m2 d2)) 30)).alloc (.cells (DR.arr (.slice B3 m3 d3) (.slice B4 m4 d4)) 30)) := (W3.alloc W3.size _).alloc (W3.alloc W3.size _).size _
    clear u0 u1 u2 u3 u4 u5 u6 u7 u8 u9 u10 u11 hD hF
    go_wp2_with (first
      | (refine wpList_store_new rfl 30 _ _ rfl _ rfl rfl _ _ (by kernel_rfl) (by kernel_rfl) (by kernel_rfl) ?_)
      | (refine wpList_store_new2 rfl 30 _ _ rfl _ rfl rfl _ _ _ (by kernel_rfl) (by kernel_rfl) (by kernel_rfl) ?_)
      | fail)
    refine (first_any _).mono ?_
    rintro e w5 ⟨rfl, hb5⟩
    go_wp2
    go_ret
    exact ⟨rfl, W4.trans (hb5.mono W4.size)⟩
end Go.Proofs.Ytipacjbegfingaa
