/- The walk of HandStores where the state is divided. -/
import Derived.Test.YtipacjbegfingaaKace
import Derived.Test.YtipacjbegfingaaKacf
import Derived.Test.YtipacjbegfingaaKacg
namespace Go.Proofs.Ytipacjbegfingaa
set_option linter.unusedVariables false
open Go.RowKit Fl
attribute [local go_sem] run_store_float
theorem load_ok (A1 A2 : Option Addr) (n1 n2 c1 c2 : Nat) (H : List Hs) (Q : List Pn) (w : World) (h1 : Sl HsRel 2 w w.heap.size A1 n1 H) (h2 : Sl PnRel 8 w w.heap.size A2 n2 Q) (hH : SmallH H) (hQ : SmallP Q) (h0 : loadE H Q = 0) :
    Calls Try.prog 13 #[.slice A1 n1 c1, .slice A2 n2 c2] w fun e w' => ∃ g B1 m1 d1 B2 m2 d2, e = .returned (.tuple #[.pointer (some ⟨g, 0, none⟩), .int .i64 0]) ∧ Below w.heap.size w w' ∧ w.heap.size ≤ g ∧ RSu w' g B1 m1 d1 B2 m2 d2 ⟨0, 0, 0⟩ H (putAll Q) ∧ HRow w' g B1 ∧ m1 ≤ d1 ∧ d1 ≤ maxLen := by
  refine (rload2_any A1 A2 n1 n2 c1 c2 H Q w h1 h2 hH hQ).mono ?_
  rintro e w' ⟨v, rfl, hb, hz⟩
  rw [rloadE_eq, h0] at *
  obtain ⟨g, B1, m1, d1, B2, m2, d2, rfl, r1, r2, r3, r4, r5⟩ := hz rfl
  exact ⟨g, B1, m1, d1, B2, m2, d2, rfl, hb, r1, r2, r3, r4, r5⟩
theorem resolve_ok (g : Nat) (B1 B2 : Option Addr) (m1 d1 m2 d2 : Nat) (L : Sp) (H : List Hs) (Q : List Pn) (t : Tx) (commit : Bool) (at_ : Sp) (w : World) (h : RSu w g B1 m1 d1 B2 m2 d2 L H (putAll Q)) (hN : HRow w g B1) (c1 : m1 ≤ d1) (c2 : d1 ≤ maxLen) (h0 : loadE H Q = 0) (hH : SmallH H) (hQ : SmallP Q) (hat : at_.ok) :
    Calls Try.prog 14 #[.pointer (some ⟨g, 0, none⟩), t.val, .bool commit, at_.val] w fun e w' => e = .returned (.int .i64 (wouldE H (putAll Q) t commit at_)) ∧ ∃ vP, NewH w g vP L B1 (resH H (putAll Q) t commit at_) w' := by
  obtain ⟨-, hr, hk⟩ := load_one h0
  exact rresolve_any g B1 B2 m1 d1 m2 d2 L H (putAll Q) t commit at_ ⟨#[]⟩ w h hN c1 c2 hr ⟨hH.1, fun a ha => hH.2 a ha⟩ (by rw [putAll_length]; exact hQ.1) (fun p hp => (hQ.2 p (mem_putAll.1 hp)).2) (fun p hp => pend_keys (hk p (mem_putAll.1 hp))) hat
theorem mayS_load {s : Stt} (h : mayS s = true) : loadE s.h s.p = 0 := by
  unfold mayS at h
  simp only [Bool.and_eq_true, decide_eq_true_eq] at h
  exact h.1.1.2
set_option maxRecDepth 100000 in
set_option maxHeartbeats 8000000 in
theorem stores_in (s : Stt) (A1 A2 : Option Addr) (n1 n2 c1 c2 : Nat) (x : Nat) (child which : Int) (at_ : Sp) (commit : Bool) (w : World) (hok : s.r.ok) (hx : x < 18446744073709551616) (hwh : i64ok which) (hat : at_.ok) (h1 : Sl HsRel 2 w w.heap.size A1 n1 s.h) (h2 : Sl PnRel 8 w w.heap.size A2 n2 s.p) (hn1 : n1 ≤ maxLen) (hn2 : n2 ≤ maxLen)
    (hin : weighS 20000 s ≤ 20000) (hdiv : divE s x child s.c s.f = 0) :
    Calls Try.prog 4 #[.agg (s.arr (.slice A1 n1 c1) (.slice A2 n2 c2)), .float .f64 x, .int .i64 child, .int .i64 which, at_.val, .bool commit] w fun e w' => e = .returned (.bool true) ∧ Below w.heap.size w w' := by
  have hF := fun w' (hb : Below w.heap.size w w') => few_any s A1 A2 n1 n2 c1 c2 w' ((h1.below HsRel.kept hb).more HsRel.kept hb.size) ((h2.below PnRel.kept hb).more PnRel.kept hb.size) hn1 hn2
  rw [decide_eq_true hin] at hF
  have hB0 : Blk (stBox s A1 A2 n1 n2 c1 c2 at_ w) w.heap.size 30 (s.arr (.slice A1 n1 c1) (.slice A2 n2 c2)) := (Blk.new _ _ _).alloc _
  have hS0 : Blk (stBox s A1 A2 n1 n2 c1 c2 at_ w) (w.heap.size + 1) 26 at_.arr := Blk.new' _ _ (by simp)
  have hX : Below w.heap.size w (stBox s A1 A2 n1 n2 c1 c2 at_ w) := by go_grown
  have hsm := weighS_small (by omega) (by omega) hin
  obtain ⟨hmay, hcm, hfm, hsp⟩ := divE_zero.1 hdiv
  have hLE : divL s x child s.c s.f = leftS s x child := by unfold divL; rw [if_pos hdiv]
  have hRE : divR s x child s.c s.f = rightS s x child s.c s.f := by unfold divR; rw [if_pos hdiv]
  have hD := fun w' (hb : Below w.heap.size w w') => divide_named s A1 A2 n1 n2 c1 c2 x child s.c s.f w' hok hx ((h1.below HsRel.kept hb).more HsRel.kept hb.size) ((h2.below PnRel.kept hb).more PnRel.kept hb.size) hsm.1 hsm.2 _ _ _ hLE hRE hdiv
  have hl0 := mayS_load hmay
  have hlL := mayS_load (left_may hmay hsp)
  have hlR := mayS_load (right_may hmay hsp hcm hfm)
  have hsL := left_small (x := x) (k := child) hsm
  have hsR := right_small (x := x) (k := child) (st := s.c) (fl := s.f) hsm
  have HX := Lib.hid (show ptB x = true from (split_zero hsp).2.2.2.2.2.1)
  have HD := Lib.hid (⟨hmay, hsp, hl0⟩ : mayS s = true ∧ splitE s.r x child = 0 ∧ loadE s.h s.p = 0)
  clear hLE hRE hdiv hin hmay hcm hfm hsp
  have HDL := Lib.hid (show leftS s x child = leftS s x child from rfl)
  go_enter Try.func4, Try.ntmps4
  go_wp2_with (go_at_call 7; fail)
  refine (first_any _).mono ?_
  rintro e w1 ⟨rfl, hb1⟩
  have b0 := hB0.below hb1 hB0.lt
  have hY := hX.trans (hb1.mono hX.size)
  have s0 := hS0.below hb1 hS0.lt
  obtain ⟨g0, z0, z1, z2, z3, z4, z5, z6, z7, z8, z9, z10, z11⟩ := b0.dozen
  go_wp2_with fail
  refine (hF _ hY).mono ?_
  rintro e w2 ⟨rfl, hb2⟩
  have b02 := b0.below hb2 b0.lt
  have s02 := s0.below hb2 s0.lt
  have hZ := hY.trans (hb2.mono hY.size)
  clear z0 z1 z2 z3 z4 z5 z6 z7 z8 z9 z10 z11 hF hb1 hb2 hY hX hB0 hS0 b0 s0
  obtain ⟨g02, u0, u1, u2, u3, u4, u5, u6, u7, u8, u9, u10, u11⟩ := b02.dozen
  go_wp2_with fail
  refine (hD _ hZ).mono ?_
  rintro e w3 ⟨B1, m1, d1, B2, m2, d2, B3, m3, d3, B4, m4, d4, rfl, r1, r2, r3, r4, hb3⟩
  have W3 : Below w.heap.size w w3 := hZ.trans (hb3.mono hZ.size)
  have X4 : Below w3.heap.size w3 ((w3.alloc (.cells ((leftS s x child).arr (.slice B1 m1 d1) (.slice B2 m2 d2)) 30)).alloc (.cells ((rightS s x child s.c s.f).arr (.slice B3 m3 d3) (.slice B4 m4 d4)) 30)) := by go_grown
  have W4 := W3.trans (X4.mono W3.size)
  have b4 := (b02.below hb3 b02.lt).below X4 (b02.below hb3 b02.lt).lt
  have s4 := (s02.below hb3 s02.lt).below X4 (s02.below hb3 s02.lt).lt
  have cL : Blk ((w3.alloc (.cells ((leftS s x child).arr (.slice B1 m1 d1) (.slice B2 m2 d2)) 30)).alloc (.cells ((rightS s x child s.c s.f).arr (.slice B3 m3 d3) (.slice B4 m4 d4)) 30)) w3.heap.size 30 ((leftS s x child).arr (.slice B1 m1 d1) (.slice B2 m2 d2)) := (Blk.new _ _ _).alloc _
  have cR : Blk ((w3.alloc (.cells ((leftS s x child).arr (.slice B1 m1 d1) (.slice B2 m2 d2)) 30)).alloc (.cells ((rightS s x child s.c s.f).arr (.slice B3 m3 d3) (.slice B4 m4 d4)) 30)) (w3.heap.size + 1) 30 ((rightS s x child s.c s.f).arr (.slice B3 m3 d3) (.slice B4 m4 d4)) := Blk.new' _ _ (by simp)
  replace r1 := (r1.below HsRel.kept X4).more HsRel.kept X4.size
  replace r2 := (r2.below PnRel.kept X4).more PnRel.kept X4.size
  replace r3 := (r3.below HsRel.kept X4).more HsRel.kept X4.size
  replace r4 := (r4.below PnRel.kept X4).more PnRel.kept X4.size
  clear u0 u1 u2 u3 u4 u5 u6 u7 u8 u9 u10 u11 hD hb3 b02 s02 hZ W3 X4
  go_upto_region 8 with (first
    | (refine wpList_store_new rfl 30 _ _ rfl _ rfl rfl _ _ (by kernel_rfl) (by kernel_rfl) (by kernel_rfl) ?_)
    | (refine wpList_store_new2 rfl 30 _ _ rfl _ rfl rfl _ _ _ (by kernel_rfl) (by kernel_rfl) (by kernel_rfl) ?_)
    | fail)
  generalize ((w3.alloc (.cells ((leftS s x child).arr (.slice B1 m1 d1) (.slice B2 m2 d2)) 30)).alloc (.cells ((rightS s x child s.c s.f).arr (.slice B3 m3 d3) (.slice B4 m4 d4)) 30)) = w4 at *
  have hw4l : w.heap.size + 1 < w4.heap.size := s4.lt
  obtain ⟨g4, z0, z1, z2, z3, z4, z5, z6, z7, z8, z9, z10, z11⟩ := b4.dozen
  go_wp2_with fail
  refine (load_ok A1 A2 n1 n2 c1 c2 s.h s.p w4 ((h1.below HsRel.kept W4).more HsRel.kept W4.size) ((h2.below PnRel.kept W4).more PnRel.kept W4.size) hsm.1 hsm.2 hl0).mono ?_
  rintro e w5 ⟨gA, BA, mA, dA, PA, pA, qA, rfl, hb5, hgA, rA, nA, xA1, xA2⟩
  have b5 := b4.below hb5 b4.lt
  have s5 := s4.below hb5 s4.lt
  have cL5 := cL.below hb5 cL.lt
  have cR5 := cR.below hb5 cR.lt
  have W5 := W4.trans (hb5.mono W4.size)
  replace r1 := (r1.below HsRel.kept hb5).more HsRel.kept hb5.size
  replace r2 := (r2.below PnRel.kept hb5).more PnRel.kept hb5.size
  replace r3 := (r3.below HsRel.kept hb5).more HsRel.kept hb5.size
  replace r4 := (r4.below PnRel.kept hb5).more PnRel.kept hb5.size
  have hA4 := hb5.size
  clear z0 z1 z2 z3 z4 z5 z6 z7 z8 z9 z10 z11 b4 s4 cL cR hb5
  obtain ⟨g5, y0, y1, y2, y3, y4, y5, y6, y7, y8, y9, y10, y11⟩ := cL5.dozen
  go_wp2_with fail
  refine (load_ok B1 B2 m1 m2 d1 d2 (leftS s x child).h (leftS s x child).p w5 r1 r2 hsL.1 hsL.2 hlL).mono ?_
  rintro e w6 ⟨gL, BL, mL, dL, PL, pL, qL, rfl, hb6, hgL, rL, nL, xL1, xL2⟩
  have b6 := b5.below hb6 b5.lt
  have s6 := s5.below hb6 s5.lt
  have cR6 := cR5.below hb6 cR5.lt
  have W6 := W5.trans (hb6.mono W5.size)
  have rA6 := rA.below hb6
  have nA6 := nA.below hb6
  have hlA : gA < w5.heap.size := rA.blk.lt
  have HNA := Lib.hid (show ∀ p, BA = some p → gA < p.block from fun p hp => (nA p hp).1)
  have HBA := Lib.hid (show ∀ p, BA = some p → p.block < w5.heap.size from fun p hp => by obtain ⟨_, _, _, h2⟩ := nA p hp; exact h2.lt)
  replace r3 := (r3.below HsRel.kept hb6).more HsRel.kept hb6.size
  replace r4 := (r4.below PnRel.kept hb6).more PnRel.kept hb6.size
  have hA5 := hb6.size
  clear y0 y1 y2 y3 y4 y5 y6 y7 y8 y9 y10 y11 b5 s5 cL5 cR5 hb6 r1 r2
  obtain ⟨g6, t0, t1, t2, t3, t4, t5, t6, t7, t8, t9, t10, t11⟩ := cR6.dozen
  go_wp2_with fail
  refine (load_ok B3 B4 m3 m4 d3 d4 (rightS s x child s.c s.f).h (rightS s x child s.c s.f).p w6 r3 r4 hsR.1 hsR.2 hlR).mono ?_
  rintro e w7 ⟨gR, BR, mR, dR, PR, pR, qR, rfl, hb7, hgR, rR, nR, xR1, xR2⟩
  have b7 := b6.below hb7 b6.lt
  have s7 := s6.below hb7 s6.lt
  have W7 := W6.trans (hb7.mono W6.size)
  have rA7 := rA6.below hb7
  have nA7 := nA6.below hb7
  have rL7 := rL.below hb7
  have nL7 := nL.below hb7
  have hlL2 : gL < w6.heap.size := rL.blk.lt
  have HNL := Lib.hid (show ∀ p, BL = some p → gL < p.block from fun p hp => (nL p hp).1)
  have HBL := Lib.hid (show ∀ p, BL = some p → p.block < w6.heap.size from fun p hp => by obtain ⟨_, _, _, h2⟩ := nL p hp; exact h2.lt)
  have hA6 := hb7.size
  have hgR2 : gR < w7.heap.size := rR.blk.lt
  have HNR := Lib.hid (show ∀ p, BR = some p → gR < p.block from fun p hp => (nR p hp).1)
  have HBR := Lib.hid (show ∀ p, BR = some p → p.block < w7.heap.size from fun p hp => by obtain ⟨_, _, _, h2⟩ := nR p hp; exact h2.lt)
  clear t0 t1 t2 t3 t4 t5 t6 t7 t8 t9 t10 t11 b6 s6 cR6 hb7 r3 r4 rA6 nA6 rL nL rA nA
  obtain ⟨g7, z0, z1, z2, z3, z4, z5, z6, z7, z8, z9, z10, z11⟩ := b7.dozen
  go_upto_if 90 with fail
  go_cut [] from 22 (fun w' => Thr w w' gA gL gR x)
  case first =>
    have hq := h2.1
    by_cases hn0 : n2 = 0
    case' pos =>
      have hd2 : decide (0 < n2) = false := by simp; omega
      clear hq
      have HTH := Lib.hid (thr_same (w0 := w) (x := x) (rA7.rsh nA7 xA1 xA2) (rL7.rsh nL7 xL1 xL2) (rR.rsh nR xR1 xR2) (load_one HD.out.2.2).2.1 hsm.1.1 W7)
      clear rA7 nA7 rL7 nL7 rR nR s7 W7
      obtain ⟨wt, rfl⟩ : ∃ z, z = w7 := ⟨_, rfl⟩
      go_wp2_with fail
      go_meet
      case rel => exact HTH.out
    case' neg =>
      have hd2 : decide (0 < n2) = true := by simp; omega
      have hnb : ((n2 : Int) == 0) = false := by rw [beq_eq_false_iff_ne]; omega
      have hnn : ¬ (n2 : Int) = 0 := by omega
      obtain ⟨k, hk, hkm⟩ : ∃ k : Nat, k < n2 ∧ ((k : Int) = which.tmod (n2 : Int) ∨ -(k : Int) = which.tmod (n2 : Int) ∧ 0 < k) := by
        by_cases hw0 : 0 ≤ which
        · obtain ⟨q, hq⟩ : ∃ q : Nat, (q : Int) = which := ⟨_, Int.toNat_of_nonneg hw0⟩
          exact ⟨q % n2, Nat.mod_lt _ (by omega), .inl (by rw [← hq]; rfl)⟩
        · obtain ⟨q, hq⟩ : ∃ q : Nat, (q : Int) = -which := ⟨_, Int.toNat_of_nonneg (by omega)⟩
          have e : which.tmod (n2 : Int) = -((q % n2 : Nat) : Int) := by
            rw [show which = -(q : Int) by omega, Int.neg_tmod]; rfl
          by_cases h0 : q % n2 = 0
          · exact ⟨0, by omega, .inl (by rw [e, h0]; rfl)⟩
          · exact ⟨q % n2, Nat.mod_lt _ (by omega), .inr ⟨e.symm, by omega⟩⟩
      obtain ⟨hm1, hm2⟩ := hwh
      clear hq
      obtain ⟨ad, p, A5, n5, c5, A6, n6, c6, rfl, hp, hbk, hpt, hps, e0, e1, e2, e3, e4, e5, e6, e7, hn5, hc5, hs5, hn6, hc6, hs6⟩ := ((h2.below PnRel.kept W7).more PnRel.kept W7.size).pn hk
      have hpm := Lib.hid (List.mem_of_getElem? hp)
      have hk0 : (0 : Int) ≤ (k : Int) := by omega
      have hk1 : (k : Int) < (n2 : Int) := by omega
      have hkm2 : (k : Int) ≤ 9223372036854775807 := by unfold maxLen at hn2; omega
      have hwr : IntKind.i64.wrap (k : Int) = (k : Int) := by rw [IntKind.wrap_i64]; omega
      clear hp hs5 hs6 hn5 hc5 hn6 hc6 hps
      rcases hkm with e | ⟨e, hkp⟩
      case' inl =>
        have hmod : which.tmod (n2 : Int) = (k : Int) := e.symm
        have hd3 : decide ((k : Int) < 0) = false := by simp
        clear e
        go_upto_region 18 with fail
      case' inr =>
        have hmod : which.tmod (n2 : Int) = -(k : Int) := e.symm
        have hd3 : decide (-(k : Int) < 0) = true := by simp; omega
        clear e
        go_upto_region 18 with fail
      all_goals
        have X8 : Below w7.heap.size w7 (w7.alloc (.cells #[.int .i64 p.t.c, .int .i64 p.t.l, .int .i64 p.t.s] 43)) := by go_grown
        have bT : Blk (w7.alloc (.cells #[.int .i64 p.t.c, .int .i64 p.t.l, .int .i64 p.t.s] 43)) w7.heap.size 43 #[.int .i64 p.t.c, .int .i64 p.t.l, .int .i64 p.t.s] := Blk.new _ _ _
        have b8 := b7.below X8 b7.lt
        have s8 := s7.below X8 s7.lt
        have W8 := W7.trans (X8.mono W7.size)
        have hRA := resolve_ok gA BA PA mA dA pA qA ⟨0, 0, 0⟩ s.h s.p p.t commit at_ _ (rA7.below X8) (nA7.below X8) xA1 xA2 HD.out.2.2 hsm.1 hsm.2 hat
        have rL8 := rL7.below X8
        have nL8 := nL7.below X8
        have rR8 := rR.below X8
        have nR8 := nR.below X8
        clear e0 e1 e2 e3 e4 e5 e6 e7 z0 z1 z2 z3 z4 z5 z6 z7 z8 z9 z10 z11 rA7 nA7 rL7 nL7 rR nR
        obtain ⟨lT, t0, t1, t2⟩ := bT.three
        obtain ⟨lS, v0, v1, v2⟩ := s8.three
        go_wp2_with fail
        refine hRA.mono ?_
        rintro e w9 ⟨rfl, vA, BA', mA', dA', ra, ka, ca, ba⟩
        have farL : ∀ k, gL ≤ k → k < (w7.alloc (.cells #[.int .i64 p.t.c, .int .i64 p.t.l, .int .i64 p.t.s] 43)).heap.size → w9.heap[k]? = (w7.alloc (.cells #[.int .i64 p.t.c, .int .i64 p.t.l, .int .i64 p.t.s] 43)).heap[k]? := fun k h5 h6 =>
          ca.block k h6 (by omega) fun p hp => by have := HBA.out p hp; omega
        have rL9 := rL8.far farL ca.size
        have nL9 := nL8.far farL
        have rR9 := rR8.far (fun k h5 h6 => farL k (by omega) h6) ca.size
        have nR9 := nR8.far (fun k h5 h6 => farL k (by omega) h6)
        have hgw7 : gA < w7.heap.size := by omega
        have bT9 := ca.blk bT (by omega) (fun p hp => by have := HBA.out p hp; omega)
        have nb0 : ∀ p, BA = some p → w.heap.size ≠ p.block ∧ w.heap.size + 1 ≠ p.block := fun p hp => by
          have h5 := (HNA.out p hp)
          omega
        have s9 := ca.blk s8 (by omega) (fun p hp => (nb0 p hp).2)
        have b9 := ca.blk b8 (by omega) (fun p hp => (nb0 p hp).1)
        clear t0 t1 t2 v0 v1 v2 lT lS bT s8 b8 rL8 nL8 rR8 nR8 hRA
        obtain ⟨lT, t0, t1, t2⟩ := bT9.three
        obtain ⟨lS, v0, v1, v2⟩ := s9.three
        have W9 := W8.trans (ca.below (n := w.heap.size) (by omega) HNA.out W8.size)
        have hc8 : (w7.alloc (.cells #[.int .i64 p.t.c, .int .i64 p.t.l, .int .i64 p.t.s] 43)).heap.size = w7.heap.size + 1 := by simp
        have HC8 := Lib.hid hc8
        have HRA := Lib.hid (show ∀ p, BA' = some p → gA < p.block ∧ p.block < w5.heap.size ∨ w7.heap.size < p.block from fun p hp => by
          rcases ba p hp with e | e
          · exact .inl ⟨HNA.out p e, HBA.out p e⟩
          · rw [HC8.out] at e; exact .inr (by omega))
        clear hc8 ba
        by_cases hz : wouldE s.h (putAll s.p) p.t commit at_ = 0
        case' pos =>
          have hbz : (wouldE s.h (putAll s.p) p.t commit at_ == 0) = true := by simp [hz]
          have hRL := resolve_ok gL BL PL mL dL pL qL ⟨0, 0, 0⟩ (leftS s x child).h (leftS s x child).p p.t commit at_ w9 rL9 nL9 xL1 xL2 hlL hsL.1 hsL.2 hat
          have HZ := Lib.hid hz
          clear hz
          go_wp2_with fail
          refine hRL.mono ?_
          rintro e w10 ⟨rfl, vL, BL', mL', dL', rl, kl, cl, bl'⟩
          have bT10 := cl.blk bT9 (by omega) (fun p hp => by have := HBL.out p hp; omega)
          have s10 := cl.blk s9 (by omega) (fun p hp => by have := HNL.out p hp; omega)
          have ra10 := ra.past cl kl (by omega) (fun p hp => by have := HNL.out p hp; omega) (fun p hp => by
            rcases HRA.out p hp with e | e
            · exact ⟨by omega, fun q hq => by have := HNL.out q hq; omega⟩
            · exact ⟨by omega, fun q hq => by have := HBL.out q hq; omega⟩)
          have farR : ∀ k, gR ≤ k → k < w9.heap.size → w10.heap[k]? = w9.heap[k]? := fun k h5 h6 =>
            cl.block k h6 (by omega) fun p hp => by have := HBL.out p hp; omega
          have rR10 := rR9.far farR cl.size
          have nR10 := nR9.far farR
          have W10 := W9.trans (cl.below (n := w.heap.size) (by omega) HNL.out W9.size)
          have HRL := Lib.hid (show ∀ p, BL' = some p → gL < p.block ∧ p.block < w6.heap.size ∨ w9.heap.size ≤ p.block from fun p hp => by
            rcases bl' p hp with e | e
            · exact .inl ⟨HNL.out p e, HBL.out p e⟩
            · exact .inr e)
          have hz9 := ca.size
          rw [HC8.out] at hz9
          have hRR := resolve_ok gR BR PR mR dR pR qR ⟨0, 0, 0⟩ (rightS s x child s.c s.f).h (rightS s x child s.c s.f).p p.t commit at_ w10 rR10 nR10 xR1 xR2 hlR hsR.1 hsR.2 hat
          clear t0 t1 t2 v0 v1 v2 lT lS ra cl ka ca rL9 nL9 rR9 nR9 bT9 s9 b9 hRL farR rR10 nR10 W9
          obtain ⟨lT, t0, t1, t2⟩ := bT10.three
          obtain ⟨lS, v0, v1, v2⟩ := s10.three
          go_wp2_with fail
          refine hRR.mono ?_
          rintro e wt ⟨rfl, vR, BR', mR', dR', rr, kr, cr, br⟩
          have HTH := Lib.hid (show Thr w wt gA gL gR x from by
            have ra11 := ra10.past cr kr (by omega) (fun p hp => by have := HNR.out p hp; omega) (fun p hp => by
              rcases HRA.out p hp with e | e
              · exact ⟨by omega, fun q hq => by have := HNR.out q hq; omega⟩
              · exact ⟨by omega, fun q hq => by have := HBR.out q hq; omega⟩)
            have rl11 := rl.past cr kr (by omega) (fun p hp => by have := HNR.out p hp; omega) (fun p hp => by
              rcases HRL.out p hp with e | e
              · exact ⟨by omega, fun q hq => by have := HNR.out q hq; omega⟩
              · exact ⟨by omega, fun q hq => by have := HBR.out q hq; omega⟩)
            have eL := res_F (fun k => belowB k x) yesP HD.out.2.2 hpm.out (fun q hq => by cases hq) commit at_ HZ.out
            rw [filter_yes] at eL
            have eR := res_F (fun k => !belowB k x) fullP HD.out.2.2 hpm.out (fun q hq => by
              unfold fullP at hq
              rw [decide_eq_false_iff_not] at hq
              exact List.length_eq_zero_iff.1 (by omega)) commit at_ HZ.out
            have eL' : resH (leftS s x child).h (putAll (leftS s x child).p) p.t commit at_ = _ := eL
            have eR' : resH (rightS s x child s.c s.f).h (putAll (rightS s x child s.c s.f).p) p.t commit at_ = _ := eR
            rw [eL'] at rl11
            rw [eR'] at rr
            exact ⟨_, BA', mA', dA', vA, BL', mL', dL', vL, BR', mR', dR', vR, ra11, rl11, rr, resH_rise HD.out.2.2 hpm.out commit at_, resH_len hsm.1 hsm.2 _ _ _, W10.trans (cr.below (n := w.heap.size) (by omega) HNR.out W10.size)⟩)
          clear ra10 rl rr kr cr br t0 t1 t2 v0 v1 v2 lT lS bT10 s10 W10 hRR kl hbz
          go_wp2_with fail
          go_meet
          case rel => exact HTH.out
        case' neg =>
          have hbz : (wouldE s.h (putAll s.p) p.t commit at_ == 0) = false := by simp [hz]
          have HTH := Lib.hid (show Thr w w9 gA gL gR x from by
            have e : resH s.h (putAll s.p) p.t commit at_ = s.h := by unfold resH; rw [if_neg hz]
            rw [e] at ra
            exact thr_same ra (rL9.rsh nL9 xL1 xL2) (rR9.rsh nR9 xR1 xR2) (load_one HD.out.2.2).2.1 hsm.1.1 W9)
          clear hz ra ka ca rL9 nL9 rR9 nR9 bT9 s9 b9 t0 t1 t2 v0 v1 v2 lT lS W9
          obtain ⟨wt, rfl⟩ : ∃ z, z = w9 := ⟨_, rfl⟩
          go_wp2_with fail
          go_meet
          case rel => exact HTH.out
  case rest =>
    obtain ⟨H, C1, k1, j1, u1, C2, k2, j2, u2, C3, k3, j3, u3, q1, q2, q3, hri, hlen, hbw⟩ := hcut
    obtain ⟨wt, rfl⟩ : ∃ z, z = wc := ⟨_, rfl⟩
    go_upto_region 22 with fail
    have XE : Below wt.heap.size wt (wt.alloc (.cells #[.int .i64 281474976710656, .int .i64 65535, .int .i64 63] 26)) := by go_grown
    have bE : Blk (wt.alloc (.cells #[.int .i64 281474976710656, .int .i64 65535, .int .i64 63] 26)) wt.heap.size 26 #[.int .i64 281474976710656, .int .i64 65535, .int .i64 63] := Blk.new _ _ _
    replace q1 := q1.below XE
    replace q2 := q2.below XE
    replace q3 := q3.below XE
    have WE := hbw.trans (XE.mono hbw.size)
    clear XE hbw
    generalize hwz : (wt.alloc (.cells #[.int .i64 281474976710656, .int .i64 65535, .int .i64 63] 26)) = wz at *
    generalize wt.heap.size = ge at *
    clear hwz
    obtain ⟨lE, e0, e1, e2⟩ := bE.three
    have oA := atL_ok ⟨281474976710656, 65535, 63⟩ q1.hs
    have oP := atL_ok ⟨281474976710656, 65535, 63⟩ q2.hs
    have oQ := atL_ok ⟨281474976710656, 65535, 63⟩ q3.hs
    have nA : (atL ⟨281474976710656, 65535, 63⟩ H).length ≤ 3000000 := Nat.le_trans (List.length_filterMap_le _ _) hlen
    have nP : (atL ⟨281474976710656, 65535, 63⟩ (hsF (fun k => belowB k x) H)).length ≤ 3000000 := Nat.le_trans (List.length_filterMap_le _ _) (Nat.le_trans (List.length_filter_le _ _) hlen)
    have nQ : (atL ⟨281474976710656, 65535, 63⟩ (hsF (fun k => !belowB k x) H)).length ≤ 3000000 := Nat.le_trans (List.length_filterMap_le _ _) (Nat.le_trans (List.length_filter_le _ _) hlen)
    have hA := fun w' (hb : Below wz.heap.size wz w') => rAt_any gA C1 k1 j1 u1 ⟨0, 0, 0⟩ H ⟨281474976710656, 65535, 63⟩ w' (q1.below hb) hlen
    have hP := fun w' (hb : Below wz.heap.size wz w') => rAt_any gL C2 k2 j2 u2 ⟨0, 0, 0⟩ _ ⟨281474976710656, 65535, 63⟩ w' (q2.below hb) (Nat.le_trans (List.length_filter_le _ _) hlen)
    have hQ := fun w' (hb : Below wz.heap.size wz w') => rAt_any gR C3 k3 j3 u3 ⟨0, 0, 0⟩ _ ⟨281474976710656, 65535, 63⟩ w' (q3.below hb) (Nat.le_trans (List.length_filter_le _ _) hlen)
    obtain ⟨hm1, hm2⟩ := stores_met (fun k => belowB k x) ⟨281474976710656, 65535, 63⟩ hri
    clear q1 q2 q3 hri hlen bE
    generalize atL ⟨281474976710656, 65535, 63⟩ H = LA at *
    generalize atL ⟨281474976710656, 65535, 63⟩ (hsF (fun k => belowB k x) H) = LP at *
    generalize atL ⟨281474976710656, 65535, 63⟩ (hsF (fun k => !belowB k x) H) = LQ at *
    have HM1 := Lib.hid hm1
    have HM2 := Lib.hid hm2
    clear hm1 hm2
    have s0 : Below wz.heap.size wz wz.drew := (Below.refl _ _).drew
    have hP0 := hP _ s0
    have hQ0 := hQ _ s0
    refine wp_region_held_drew (S := fun w' => w'.cell? ⟨ge, 0, none⟩ = some (.int .i64 281474976710656) ∧ w'.cell? ⟨ge, 1, none⟩ = some (.int .i64 65535) ∧ w'.cell? ⟨ge, 2, none⟩ = some (.int .i64 63)) (by kernel_rfl) ⟨e0, e1, e2⟩ (fun hHeld => ?_)
    refine t0 0 123 ?_
    go_frame
    refine t0 1 124 ?_
    go_frame
    refine t0 3 126 ?_
    go_frame
    refine t0 4 127 ?_
    go_frame
    refine wpAnyH_ready (rs := [2]) (by kernel_rfl) (by simp) ?_
    refine AllReadyH.cons (o := ⟨some 125, _, _, _, _, _⟩) rfl (fun K hK => ?_) AllReadyH.nil
    go_simp
    (with_reducible refine hP0.mono ?_)
    rintro e w5 ⟨v5, rfl, o5, hb5⟩
    have s5 := s0.trans (hb5.mono s0.size)
    have hQ1 := hQ _ s5
    refine hK.out _ _ ⟨(s5.cell (by exact lE)).trans e0, (s5.cell (by exact lE)).trans e1, (s5.cell (by exact lE)).trans e2⟩ (fun hHeld => ?_)
    clear hK K
    try go_frame
    refine wpAnyH_ready (rs := [5]) (by kernel_rfl) (by simp) ?_
    refine AllReadyH.cons (o := ⟨some 128, _, _, _, _, _⟩) rfl (fun K hK => ?_) AllReadyH.nil
    go_simp
    (with_reducible refine hQ1.mono ?_)
    rintro e w6 ⟨v6, rfl, o6, hb6⟩
    have s6 := s5.trans (hb6.mono s5.size)
    have oP6 := (o5.mono_base s0.size).below hb6
    have oQ6 := o6.mono_base s5.size
    refine hK.out _ _ ⟨(s6.cell (by exact lE)).trans e0, (s6.cell (by exact lE)).trans e1, (s6.cell (by exact lE)).trans e2⟩ (fun hHeld => ?_)
    clear hK K
    try go_frame
    refine t0 6 25 ?_
    go_frame
    refine t0 7 26 ?_
    go_frame
    refine wpAnyH_done (by kernel_rfl) ?_ _
    obtain ⟨AP, nP', cP, rfl, hnP, hcP, sP⟩ := oP6.sl (ok := Wt.ok) (by omega) wt_len oP
    obtain ⟨AQ, nQ', cQ, rfl, hnQ, hcQ, sQ⟩ := oQ6.sl (ok := Wt.ok) (by omega) wt_len oQ
    have hA6 := hA _ s6
    have g6 := (s6.cell (p := ⟨ge, 0, none⟩) (by exact lE)).trans e0
    have g7 := (s6.cell (p := ⟨ge, 1, none⟩) (by exact lE)).trans e1
    have g8 := (s6.cell (p := ⟨ge, 2, none⟩) (by exact lE)).trans e2
    have lE6 := Nat.lt_of_lt_of_le lE s6.size
    have W6 := WE.trans (s6.mono WE.size)
    clear hP0 hQ0 hP hQ hA s0 o5 o6 hb5 hb6 oP6 oQ6 s5 e0 e1 e2 hHeld lE s6 WE
    go_wp2_with fail
    refine hA6.mono ?_
    rintro e wl ⟨v7, rfl, o7, hb7⟩
    obtain ⟨AA, nA', cA, rfl, hnA, hcA, sA⟩ := o7.sl (ok := Wt.ok) (by omega) wt_len oA
    replace sP := (sP.below WtRel.kept hb7).more WtRel.kept hb7.size
    replace sQ := (sQ.below WtRel.kept hb7).more WtRel.kept hb7.size
    have W7 := W6.trans (hb7.mono W6.size)
    clear o7 hA6 hb7 g6 g7 g8 lE6 W6
    have hl1 := sA.1
    have hl2 := sP.1
    have hl3 := sQ.1
    have ha1 : LA.length ≤ nA' := by omega
    have ha2 : nA' ≤ LA.length := by omega
    have hp1 : LP.length ≤ nP' := by omega
    have hp2 : nP' ≤ LP.length := by omega
    have hq1 : LQ.length ≤ nQ' := by omega
    have hq2 : nQ' ≤ LQ.length := by omega
    clear hl1 hl2 hl3
    go_wp2
    go_loopw [28, 29] (fun s i wr => OutR (fun k => belowB k x) LA LP LQ wl s i wr) (fun _ i _ => nA' - (intOf i).toNat)
    case atStart => exact ⟨0, 0, by omega, rfl, rfl, by rw [List.drop_zero, Nat.zero_add]; exact HM1.out, Below.refl _ _⟩
    case round =>
      obtain ⟨k, n, hk, rfl, rfl, hs, hb⟩ := hrel
      obtain ⟨wo, rfl⟩ : ∃ wo, wo = wr := ⟨_, rfl⟩
      by_cases hlt : k < nA'
      · obtain ⟨ad, a, rfl, ha, hbk, hok, c0, c1, c2, c3⟩ := (sA.below WtRel.kept hb).wt hlt
        have hd1 : decide ((k : Int) < (nA' : Int)) = true := by simp; omega
        have hk0 : (0 : Int) ≤ (k : Int) := by omega
        have hk1 : (k : Int) < (nA' : Int) := by omega
        have hks : a.key.size ≤ maxLen := by have := hok.1; unfold maxLen; omega
        rw [metB_drop ha] at hs
        clear ha
        go_wp2_with ((with_reducible refine (rof_any _ _ hks).mono ?_); rintro e w1 ⟨rfl, rfl⟩)
        all_goals rename_i hcmp
        have hbel := of_above HX.out hcmp
        rw [hbel, if_neg Bool.false_ne_true] at hs
        have HR := Lib.hid (show metB (fun k => belowB k x) (LA.drop (k + 1)) LP LQ = metB (fun k => belowB k x) (LA.drop (k + 1)) LP LQ from rfl)
        generalize hR : metB (fun k => belowB k x) (LA.drop (k + 1)) LP LQ = R at hs
        replace HR := Lib.hid hR
        clear hR
        have sI := (sQ.below WtRel.kept hb).more WtRel.kept hb.size
        have hi1 := hq1
        have hi2 := hq2
        have nI := nQ
        obtain ⟨Ai, rfl⟩ : ∃ z, z = AQ := ⟨_, rfl⟩
        obtain ⟨ni, rfl⟩ : ∃ z, z = nQ' := ⟨_, rfl⟩
        obtain ⟨ci, rfl⟩ : ∃ z, z = cQ := ⟨_, rfl⟩
        obtain ⟨LI, rfl⟩ : ∃ z, z = LQ := ⟨_, rfl⟩
        rotate_left
        have hbel := of_below HX.out hcmp
        rw [hbel, if_pos rfl] at hs
        have HR := Lib.hid (show metB (fun k => belowB k x) (LA.drop (k + 1)) LP LQ = metB (fun k => belowB k x) (LA.drop (k + 1)) LP LQ from rfl)
        generalize hR : metB (fun k => belowB k x) (LA.drop (k + 1)) LP LQ = R at hs
        replace HR := Lib.hid hR
        clear hR
        have sI := (sP.below WtRel.kept hb).more WtRel.kept hb.size
        have hi1 := hp1
        have hi2 := hp2
        have nI := nP
        obtain ⟨Ai, rfl⟩ : ∃ z, z = AP := ⟨_, rfl⟩
        obtain ⟨ni, rfl⟩ : ∃ z, z = nP' := ⟨_, rfl⟩
        obtain ⟨ci, rfl⟩ : ∃ z, z = cP := ⟨_, rfl⟩
        obtain ⟨LI, rfl⟩ : ∃ z, z = LP := ⟨_, rfl⟩
        all_goals
          clear hcmp hbel
          have HS1 := Lib.hid hs
          clear hs
          go_wp2
          go_loopw [28, 31] (fun s i wr => InR LI a R LA.length wo s i wr) (fun _ i _ => ni - (intOf i).toNat)
          case atStart => exact ⟨0, n, by omega, rfl, rfl, by rw [List.drop_zero, ← HS1.out]; omega, Below.refl _ _⟩
          case round =>
            obtain ⟨m, n2', hm, rfl, rfl, hs2, hb2⟩ := hrel
            by_cases hlt2 : m < ni
            · obtain ⟨ad2, b, rfl, hbb, hbk2, hok2, d0, d1, d2, d3⟩ := (sI.below WtRel.kept hb2).wt hlt2
              have hd3 : decide ((m : Int) < (ni : Int)) = true := by simp; omega
              have hm0 : (0 : Int) ≤ (m : Int) := by omega
              have hm1 : (m : Int) < (ni : Int) := by omega
              have hbko : (ad.add (k * 4)).block < wo.heap.size := Nat.lt_of_lt_of_le hbk hb.size
              replace c0 := (hb2.cell hbko).trans c0
              replace c1 := (hb2.cell (p := ⟨(ad.add (k * 4)).block, (ad.add (k * 4)).off + 1, none⟩) hbko).trans c1
              replace c2 := (hb2.cell (p := ⟨(ad.add (k * 4)).block, (ad.add (k * 4)).off + 2, none⟩) hbko).trans c2
              replace c3 := (hb2.cell (p := ⟨(ad.add (k * 4)).block, (ad.add (k * 4)).off + 3, none⟩) hbko).trans c3
              have hw1 : (ad.add (k * 4)).block < wr.heap.size := Nat.lt_of_lt_of_le hbko hb2.size
              have hw2 : (ad2.add (m * 4)).block < wr.heap.size := Nat.lt_of_lt_of_le hbk2 hb2.size
              rw [cntB_drop hbb] at hs2
              clear hbb
              by_cases hq : (b.key.toList == a.key.toList) = true
              · cases hsm : b.v.same a.v
                · have hV := value_any b.v a.v wr.drew
                  rw [hsm] at hV
                  have hme : meetB a b = false := by unfold meetB; rw [hq, hsm]; rfl
                  rw [hme, if_neg Bool.false_ne_true, Nat.zero_add] at hs2
                  have HS2 := Lib.hid hs2
                  clear hs2 hme hsm
                  go_wp2
                  go_region_held3 (fun w' => w'.cell? (ad.add (k * 4)) = some (.string a.key) ∧ w'.cell? ⟨(ad.add (k * 4)).block, (ad.add (k * 4)).off + 1, none⟩ = some (.int .i64 a.v.k) ∧ w'.cell? ⟨(ad.add (k * 4)).block, (ad.add (k * 4)).off + 2, none⟩ = some (.float .f64 a.v.n) ∧ w'.cell? ⟨(ad.add (k * 4)).block, (ad.add (k * 4)).off + 3, none⟩ = some (.string a.v.t) ∧ w'.cell? (ad2.add (m * 4)) = some (.string b.key) ∧ w'.cell? ⟨(ad2.add (m * 4)).block, (ad2.add (m * 4)).off + 1, none⟩ = some (.int .i64 b.v.k) ∧ w'.cell? ⟨(ad2.add (m * 4)).block, (ad2.add (m * 4)).off + 2, none⟩ = some (.float .f64 b.v.n) ∧ w'.cell? ⟨(ad2.add (m * 4)).block, (ad2.add (m * 4)).off + 3, none⟩ = some (.string b.v.t)) (first | exact ⟨c0, c1, c2, c3, d0, d1, d2, d3⟩ | exact ⟨(hb6.cell (by exact hw1)).trans c0, (hb6.cell (by exact hw1)).trans c1, (hb6.cell (by exact hw1)).trans c2, (hb6.cell (by exact hw1)).trans c3, (hb6.cell (by exact hw2)).trans d0, (hb6.cell (by exact hw2)).trans d1, (hb6.cell (by exact hw2)).trans d2, (hb6.cell (by exact hw2)).trans d3⟩) (first | ((with_reducible refine hV.mono ?_); rintro e W1 ⟨rfl, hb6⟩))
                  have HB := hb2.drew.trans (hb6.mono hb2.size)
                  clear hV hb6
                  go_wp2
                  go_roundw
                  case rel => exact ⟨m + 1, n2', by omega, by go_num, rfl, HS2.out, HB⟩
                  case measure => simp [intOf]; omega
                · have hV := value_any b.v a.v wr.drew
                  rw [hsm] at hV
                  have hme : meetB a b = true := by unfold meetB; rw [hq, hsm]; rfl
                  rw [hme, if_pos rfl] at hs2
                  have hn3 : n2' + 1 ≤ 3000000 := by omega
                  have HS2 := Lib.hid hs2
                  clear hs2 hme hsm
                  go_wp2
                  go_region_held3 (fun w' => w'.cell? (ad.add (k * 4)) = some (.string a.key) ∧ w'.cell? ⟨(ad.add (k * 4)).block, (ad.add (k * 4)).off + 1, none⟩ = some (.int .i64 a.v.k) ∧ w'.cell? ⟨(ad.add (k * 4)).block, (ad.add (k * 4)).off + 2, none⟩ = some (.float .f64 a.v.n) ∧ w'.cell? ⟨(ad.add (k * 4)).block, (ad.add (k * 4)).off + 3, none⟩ = some (.string a.v.t) ∧ w'.cell? (ad2.add (m * 4)) = some (.string b.key) ∧ w'.cell? ⟨(ad2.add (m * 4)).block, (ad2.add (m * 4)).off + 1, none⟩ = some (.int .i64 b.v.k) ∧ w'.cell? ⟨(ad2.add (m * 4)).block, (ad2.add (m * 4)).off + 2, none⟩ = some (.float .f64 b.v.n) ∧ w'.cell? ⟨(ad2.add (m * 4)).block, (ad2.add (m * 4)).off + 3, none⟩ = some (.string b.v.t)) (first | exact ⟨c0, c1, c2, c3, d0, d1, d2, d3⟩ | exact ⟨(hb6.cell (by exact hw1)).trans c0, (hb6.cell (by exact hw1)).trans c1, (hb6.cell (by exact hw1)).trans c2, (hb6.cell (by exact hw1)).trans c3, (hb6.cell (by exact hw2)).trans d0, (hb6.cell (by exact hw2)).trans d1, (hb6.cell (by exact hw2)).trans d2, (hb6.cell (by exact hw2)).trans d3⟩) (first | ((with_reducible refine hV.mono ?_); rintro e W1 ⟨rfl, hb6⟩))
                  have HB := hb2.drew.trans (hb6.mono hb2.size)
                  clear hV hb6
                  go_wp2
                  go_roundw
                  case rel => exact ⟨m + 1, n2' + 1, by omega, by go_num, by go_num, by have := HS2.out; omega, HB⟩
                  case measure => simp [intOf]; omega
              · have hqf : (b.key.toList == a.key.toList) = false := by simpa using hq
                have hme : meetB a b = false := by unfold meetB; rw [hqf]; rfl
                rw [hme, if_neg Bool.false_ne_true, Nat.zero_add] at hs2
                have HS2 := Lib.hid hs2
                clear hs2 hme hq
                go_wp2
                go_quiet (fail)
                have HB : Below wo.heap.size wo (wr.drewN nq) := hb2.trans ⟨rfl, rfl, rfl, Nat.le_refl _, fun _ _ => rfl⟩
                generalize wr.drewN nq = W1 at *
                go_wp2
                go_roundw
                case rel => exact ⟨m + 1, n2', by omega, by go_num, rfl, HS2.out, HB⟩
                case measure => simp [intOf]; omega
            · have hd3 : decide ((m : Int) < (ni : Int)) = false := by simp; omega
              rw [List.drop_of_length_le (by omega)] at hs2
              have hz : cntB [] a = 0 := rfl
              have hs3 : n2' + R = LA.length := by omega
              have HS2 := Lib.hid hs3
              have Hb2 := hb.trans (hb2.mono hb.size)
              clear hs2 hz hs3
              go_wp2
              go_roundw
              case rel => exact ⟨k + 1, n2', by omega, by go_num, rfl, by rw [HR.out]; exact HS2.out, Hb2⟩
              case measure => simp [intOf]; omega
      · have hd1 : decide ((k : Int) < (nA' : Int)) = false := by simp; omega
        rw [List.drop_of_length_le (by omega)] at hs
        have hn : (n : Int) = (nA' : Int) := by
          have : metB (fun k => belowB k x) [] LP LQ = 0 := rfl
          omega
        have hm := HM2.out
        have hd2 : ((n : Int) == (nA' : Int)) = true := by rw [hn]; exact beq_self_eq_true _
        have hd3 : ((nP' : Int) + (nQ' : Int) == (nA' : Int)) = true := by rw [beq_iff_eq]; omega
        have hwr : IntKind.i64.wrap ((nP' : Int) + (nQ' : Int)) = (nP' : Int) + (nQ' : Int) := by rw [IntKind.wrap_i64]; omega
        have Wo := W7.trans (hb.mono W7.size)
        clear hn hm hs
        go_wp2_with ((with_reducible refine (first_any _).mono ?_); rintro e w1 ⟨rfl, hb1⟩)
        go_ret
        exact ⟨rfl, Wo.trans (hb1.mono Wo.size)⟩
end Go.Proofs.Ytipacjbegfingaa
