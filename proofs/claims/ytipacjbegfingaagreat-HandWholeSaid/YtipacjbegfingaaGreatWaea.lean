/- HandWhole where the state is divided. -/
import Derived.Test.YtipacjbegfingaaGreatWadb
import Derived.Test.YtipacjbegfingaaGreatWadj
namespace Go.Proofs.YtipacjbegfingaaGreat
set_option linter.unusedVariables false
open Go.RowKit Fl
attribute [local go_sem] run_store_float

set_option maxRecDepth 100000 in
set_option maxHeartbeats 8000000 in
theorem whole_in (s L R : Stt) (A1 A2 : Option Addr) (n1 n2 c1 c2 : Nat) (x : Nat) (child : Int) (st fl : Sp) (w : World) (hok : s.r.ok) (hx : x < 18446744073709551616) (h1 : Sl HsRel 2 w w.heap.size A1 n1 s.h) (h2 : Sl PnRel 8 w w.heap.size A2 n2 s.p) (hn1 : n1 ≤ maxLen) (hn2 : n2 ≤ maxLen)
    (hin : weighS 20000 s ≤ 20000) (hL : divL s x child st fl = L) (hR : divR s x child st fl = R) (hE : divE s x child st fl = 0) (hJ1 : rejE L R = 0) (hJ2 : rejS L R = s) (okL : L.r.ok) (okR : R.r.ok) (smL : SmallH L.h ∧ SmallP L.p) (smR : SmallH R.h ∧ SmallP R.p) (mL : mayS L = true) (mR : mayS R = true)
    (hcl : ∀ p ∈ L.p, (∀ k ∈ p.r, inK ⟨0, 0, s.r.lo, x⟩ k = true) ∧ ∀ a ∈ p.w, inK ⟨0, 0, s.r.lo, x⟩ a.key = true) (hcr : ∀ p ∈ R.p, (∀ k ∈ p.r, inK ⟨0, 0, x, s.r.hi⟩ k = true) ∧ ∀ a ∈ p.w, inK ⟨0, 0, x, s.r.hi⟩ a.key = true)
    (hsum : sumP L.p + sumP R.p = sumP s.p) (hlen : L.h.length + R.h.length = s.h.length) (hlp : L.p.length = s.p.length) :
    Calls Tryz.prog 4 #[.agg (s.arr (.slice A1 n1 c1) (.slice A2 n2 c2)), .float .f64 x, .int .i64 child, st.val, fl.val] w fun e w' => e = .returned (.bool true) ∧ Below w.heap.size w w' := by
  have hsm := weighS_small (by omega) (by omega) hin
  have hF := fun w' (hb : Below w.heap.size w w') => few_any s A1 A2 n1 n2 c1 c2 w' ((h1.below HsRel.kept hb).more HsRel.kept hb.size) ((h2.below PnRel.kept hb).more PnRel.kept hb.size) hn1 hn2
  have hB0 : Blk (whBox s A1 A2 n1 n2 c1 c2 st fl w) w.heap.size 30 (s.arr (.slice A1 n1 c1) (.slice A2 n2 c2)) := ((Blk.new _ _ _).alloc _).alloc _
  have hB1 : Blk (whBox s A1 A2 n1 n2 c1 c2 st fl w) (w.heap.size + 1) 26 st.arr := (Blk.new' _ _ (by simp)).alloc _
  have hB2 : Blk (whBox s A1 A2 n1 n2 c1 c2 st fl w) (w.heap.size + 1 + 1) 26 fl.arr := Blk.new' _ _ (by simp)
  have hX : Below w.heap.size w (whBox s A1 A2 n1 n2 c1 c2 st fl w) := by go_grown
  have HD := Lib.hid (fun w' (hb : Below w.heap.size w w') => divide_named s A1 A2 n1 n2 c1 c2 x child st fl w' hok hx ((h1.below HsRel.kept hb).more HsRel.kept hb.size) ((h2.below PnRel.kept hb).more PnRel.kept hb.size) hsm.1 hsm.2 L R 0 hL hR hE)
  have HJ := Lib.hid (fun A1 A2 A3 A4 n1 n2 n3 n4 c1 c2 c3 c4 w h1 h2 h3 h4 => rejoin_named L R s 0 A1 A2 A3 A4 n1 n2 n3 n4 c1 c2 c3 c4 w okL okR h1 h2 h3 h4 smL.1 smL.2 smR.1 smR.2 (by rw [if_pos hJ1, hJ2]) hJ1)
  have HML := Lib.hid (fun A1 A2 n1 n2 c1 c2 w h1 h2 => rstateMay_any L A1 A2 n1 n2 c1 c2 w okL h1 h2 smL.1 smL.2)
  have HMR := Lib.hid (fun A1 A2 n1 n2 c1 c2 w h1 h2 => rstateMay_any R A1 A2 n1 n2 c1 c2 w okR h1 h2 smR.1 smR.2)
  rw [mL] at HML
  rw [mR] at HMR
  have HCL := Lib.hid (fun A1 A2 n1 n2 c1 c2 w h2 => count_any L ⟨0, 0, s.r.lo, x⟩ A1 A2 n1 n2 c1 c2 w h2 smL.2 hcl)
  have HCR := Lib.hid (fun A1 A2 n1 n2 c1 c2 w h2 => count_any R ⟨0, 0, x, s.r.hi⟩ A1 A2 n1 n2 c1 c2 w h2 smR.2 hcr)
  rw [decide_eq_true hin] at hF
  have hbnd : sumP s.p ≤ 2000000000000 := by have := sumP_take_le hsm.2 s.p.length; rwa [List.take_length] at this
  have HN := Lib.hid (⟨hsum, hlen, hlp, hbnd, hsm⟩ : sumP L.p + sumP R.p = sumP s.p ∧ L.h.length + R.h.length = s.h.length ∧ L.p.length = s.p.length ∧ sumP s.p ≤ 2000000000000 ∧ SmallH s.h ∧ SmallP s.p)
  clear hL hR hE hJ1 hJ2 mL mR hcl hcr hsum hlen hlp smL smR okL okR hin hbnd hsm
  go_enter Tryz.func4, Tryz.ntmps4
  go_wp2_with (go_at_call 5; fail)
  refine (first_any _).mono ?_
  rintro e w1 ⟨rfl, hb1⟩
  have b0 := hB0.below hb1 hB0.lt
  have b1 := hB1.below hb1 hB1.lt
  have b2 := hB2.below hb1 hB2.lt
  have hY := hX.trans (hb1.mono hX.size)
  obtain ⟨g0, z0, z1, z2, z3, z4, z5, z6, z7, z8, z9, z10, z11⟩ := b0.dozen
  go_wp2_with fail
  refine (hF _ hY).mono ?_
  rintro e w2 ⟨rfl, hb2⟩
  have b02 := b0.below hb2 b0.lt
  have b12 := b1.below hb2 b1.lt
  have b22 := b2.below hb2 b2.lt
  have hZ := hY.trans (hb2.mono hY.size)
  clear z0 z1 z2 z3 z4 z5 z6 z7 z8 z9 z10 z11
  obtain ⟨g02, u0, u1, u2, u3, u4, u5, u6, u7, u8, u9, u10, u11⟩ := b02.dozen
  obtain ⟨g12, s0, s1, s2⟩ := b12.three
  obtain ⟨g22, q0, q1, q2⟩ := b22.three
  go_wp2_with fail
  refine (HD.out _ hZ).mono ?_
  rintro e w3 ⟨B1, m1, d1, B2, m2, d2, B3, m3, d3, B4, m4, d4, rfl, r1, r2, r3, r4, hb3⟩
  have W3 : Below w.heap.size w w3 := hZ.trans (hb3.mono hZ.size)
  have b03 := b02.below hb3 b02.lt
  have c1' : Blk ((w3.alloc (.cells (L.arr (.slice B1 m1 d1) (.slice B2 m2 d2)) 30)).alloc (.cells (R.arr (.slice B3 m3 d3) (.slice B4 m4 d4)) 30)) w3.heap.size 30 (L.arr (.slice B1 m1 d1) (.slice B2 m2 d2)) := (Blk.new _ _ _).alloc _
  have c2' : Blk ((w3.alloc (.cells (L.arr (.slice B1 m1 d1) (.slice B2 m2 d2)) 30)).alloc (.cells (R.arr (.slice B3 m3 d3) (.slice B4 m4 d4)) 30)) (w3.heap.size + 1) 30 (R.arr (.slice B3 m3 d3) (.slice B4 m4 d4)) := Blk.new' _ _ (by simp)
  have hb34 : Below w3.heap.size w3 ((w3.alloc (.cells (L.arr (.slice B1 m1 d1) (.slice B2 m2 d2)) 30)).alloc (.cells (R.arr (.slice B3 m3 d3) (.slice B4 m4 d4)) 30)) := by go_grown
  clear u0 u1 u2 u3 u4 u5 u6 u7 u8 u9 u10 u11 s0 s1 s2 q0 q1 q2 HD hF b0 b1 b2 b02 b12 b22 hB0 hB1 hB2 hb1 hb2 hb3 hX hY hZ
  go_upto_region 6 with (first
    | (refine wpList_store_new rfl 30 _ _ rfl _ rfl rfl _ _ (by kernel_rfl) (by kernel_rfl) (by kernel_rfl) ?_)
    | (refine wpList_store_new2 rfl 30 _ _ rfl _ rfl rfl _ _ _ (by kernel_rfl) (by kernel_rfl) (by kernel_rfl) ?_))
  have b04 := b03.below hb34 b03.lt
  have W4 := W3.trans (hb34.mono W3.size)
  replace r1 := (r1.below HsRel.kept hb34).more HsRel.kept hb34.size
  replace r2 := (r2.below PnRel.kept hb34).more PnRel.kept hb34.size
  replace r3 := (r3.below HsRel.kept hb34).more HsRel.kept hb34.size
  replace r4 := (r4.below PnRel.kept hb34).more PnRel.kept hb34.size
  clear hb34 b03
  generalize (w3.alloc (.cells (L.arr (.slice B1 m1 d1) (.slice B2 m2 d2)) 30)).alloc (.cells (R.arr (.slice B3 m3 d3) (.slice B4 m4 d4)) 30) = w4 at *
  generalize w3.heap.size = g3 at *
  obtain ⟨g02, u0, u1, u2, u3, u4, u5, u6, u7, u8, u9, u10, u11⟩ := c1'.dozen
  obtain ⟨g12, v0, v1, v2, v3, v4, v5, v6, v7, v8, v9, v10, v11⟩ := c2'.dozen
  go_wp2_with (go_at_call 8; fail)
  refine (HJ.out B1 B2 B3 B4 m1 m2 m3 m4 d1 d2 d3 d4 w4 r1 r2 r3 r4).mono ?_
  rintro e w5 ⟨B5, m5, d5, B6, m6, d6, rfl, r5, r6, hb5⟩
  clear u0 u1 u2 u3 u4 u5 u6 u7 u8 u9 u10 u11 v0 v1 v2 v3 v4 v5 v6 v7 v8 v9 v10 v11 HJ
  have b05 := b04.below hb5 b04.lt
  have c15 := c1'.below hb5 c1'.lt
  have c25 := c2'.below hb5 c2'.lt
  have W5 := W4.trans (hb5.mono W4.size)
  replace r1 := (r1.below HsRel.kept hb5).more HsRel.kept hb5.size
  replace r2 := (r2.below PnRel.kept hb5).more PnRel.kept hb5.size
  replace r3 := (r3.below HsRel.kept hb5).more HsRel.kept hb5.size
  replace r4 := (r4.below PnRel.kept hb5).more PnRel.kept hb5.size
  clear b04 c1' c2' hb5
  have hb56 : Below w5.heap.size w5 (w5.alloc (.cells (s.arr (.slice B5 m5 d5) (.slice B6 m6 d6)) 30)) := by go_grown
  have c3' : Blk (w5.alloc (.cells (s.arr (.slice B5 m5 d5) (.slice B6 m6 d6)) 30)) w5.heap.size 30 (s.arr (.slice B5 m5 d5) (.slice B6 m6 d6)) := Blk.new _ _ _
  go_upto_region 9 with (first
    | (refine wpList_store_new rfl 30 _ _ rfl _ rfl rfl _ _ (by kernel_rfl) (by kernel_rfl) (by kernel_rfl) ?_))
  have b06 := b05.below hb56 b05.lt
  have c16 := c15.below hb56 c15.lt
  have c26 := c25.below hb56 c25.lt
  have W6 := W5.trans (hb56.mono W5.size)
  replace r1 := (r1.below HsRel.kept hb56).more HsRel.kept hb56.size
  replace r2 := (r2.below PnRel.kept hb56).more PnRel.kept hb56.size
  replace r3 := (r3.below HsRel.kept hb56).more HsRel.kept hb56.size
  replace r4 := (r4.below PnRel.kept hb56).more PnRel.kept hb56.size
  replace r5 := (r5.below HsRel.kept hb56).more HsRel.kept hb56.size
  replace r6 := (r6.below PnRel.kept hb56).more PnRel.kept hb56.size
  clear hb56 b05 c15 c25
  generalize (w5.alloc (.cells (s.arr (.slice B5 m5 d5) (.slice B6 m6 d6)) 30)) = w6 at *
  generalize w5.heap.size = g5 at *
  have e1 := h1.1
  have e2 := h2.1
  have f1 := HN.out.2.2.2.2.1.1
  have f2 := HN.out.2.2.2.2.2.1
  have HS := Lib.hid (fun w' (hb : Below w6.heap.size w6 w') => state_same s A1 A2 B5 B6 n1 n2 m5 m6 c1 c2 d5 d6 w' ((h1.below HsRel.kept (W6.trans (hb.mono W6.size))).more HsRel.kept (W6.trans (hb.mono W6.size)).size) ((h2.below PnRel.kept (W6.trans (hb.mono W6.size))).more PnRel.kept (W6.trans (hb.mono W6.size)).size) ((r5.below HsRel.kept hb).more HsRel.kept hb.size) ((r6.below PnRel.kept hb).more PnRel.kept hb.size) (by unfold maxLen; omega) (by unfold maxLen; omega))
  have HL6 := Lib.hid (fun w' (hb : Below w6.heap.size w6 w') => HML.out B1 B2 m1 m2 d1 d2 w' ((r1.below HsRel.kept hb).more HsRel.kept hb.size) ((r2.below PnRel.kept hb).more PnRel.kept hb.size))
  have HR6 := Lib.hid (fun w' (hb : Below w6.heap.size w6 w') => HMR.out B3 B4 m3 m4 d3 d4 w' ((r3.below HsRel.kept hb).more HsRel.kept hb.size) ((r4.below PnRel.kept hb).more PnRel.kept hb.size))
  have HCL6 := Lib.hid (fun w' (hb : Below w6.heap.size w6 w') => HCL.out B1 B2 m1 m2 d1 d2 w' ((r2.below PnRel.kept hb).more PnRel.kept hb.size))
  have HCR6 := Lib.hid (fun w' (hb : Below w6.heap.size w6 w') => HCR.out B3 B4 m3 m4 d3 d4 w' ((r4.below PnRel.kept hb).more PnRel.kept hb.size))
  have HW := Lib.hid (fun w' (hb : Below w6.heap.size w6 w') => ((h2.below PnRel.kept (W6.trans (hb.mono W6.size))).more PnRel.kept (W6.trans (hb.mono W6.size)).size : Sl PnRel 8 w' w'.heap.size A2 n2 s.p))
  have hm24 : m1 + m3 = n1 := by have := r1.1; have := r3.1; have := HN.out.2.1; omega
  have hm2 : m2 = n2 := by have := r2.1; have := HN.out.2.2.1; omega
  subst hm2
  have hwr : IntKind.i64.wrap ((m1 : Int) + (m3 : Int)) = (n1 : Int) := by rw [IntKind.wrap_i64]; omega
  have hpn : m2 ≤ 1000000 := by omega
  have HP2 := Lib.hid e2
  clear HML HMR HCL HCR r1 r2 r3 r4 r5 r6 h1 h2 hn1 hn2 e1 e2 f1 f2 hm24
  obtain ⟨g02, u0, u1, u2, u3, u4, u5, u6, u7, u8, u9, u10, u11⟩ := b06.dozen
  obtain ⟨g12, v0, v1, v2, v3, v4, v5, v6, v7, v8, v9, v10, v11⟩ := c3'.dozen
  go_wp2_with fail
  refine (HS.out w6 (Below.refl _ _)).mono ?_
  rintro e w7 ⟨rfl, hb7⟩
  clear u0 u1 u2 u3 u4 u5 u6 u7 u8 u9 u10 u11 v0 v1 v2 v3 v4 v5 v6 v7 v8 v9 v10 v11 HS g12
  have c17 := c16.below hb7 c16.lt
  obtain ⟨g12, u0, u1, u2, u3, u4, u5, u6, u7, u8, u9, u10, u11⟩ := c17.dozen
  go_wp2_with fail
  refine (HL6.out w7 hb7).mono ?_
  rintro e w8 ⟨rfl, hb8'⟩
  have hb8 := hb7.trans (hb8'.mono hb7.size)
  clear u0 u1 u2 u3 u4 u5 u6 u7 u8 u9 u10 u11 c17 HL6 g12 hb8'
  have c28 := c26.below hb8 c26.lt
  obtain ⟨g12, u0, u1, u2, u3, u4, u5, u6, u7, u8, u9, u10, u11⟩ := c28.dozen
  go_wp2_with fail
  refine (HR6.out w8 hb8).mono ?_
  rintro e w9 ⟨rfl, hb9'⟩
  have hb9 := hb8.trans (hb9'.mono hb8.size)
  clear u0 u1 u2 u3 u4 u5 u6 u7 u8 u9 u10 u11 c28 HR6 g12 hb9' hb7 hb8
  go_upto_region 13 with fail
  have b09 := b06.below hb9 b06.lt
  have c19 := c16.below hb9 c16.lt
  have c29 := c26.below hb9 c26.lt
  have W9 := W6.trans (hb9.mono W6.size)
  clear b06 c16 c26 W6 c3'
  have lb := b09.lt
  go_loopw [16, 17] (fun n i wr => CntR s.p w9 n i wr) (fun _ i _ => m2 - (intOf i).toNat)
  case atStart => exact ⟨0, Nat.zero_le _, rfl, rfl, Below.refl _ _⟩
  case round =>
    obtain ⟨k2, hk2, rfl, rfl, hb⟩ := hrel
    have hbs := hb.size
    have bw := b09.below hb lb
    have lbw := bw.lt
    have x11 := bw.cell 11
    simp only [List.getElem?_toArray, List.getElem?_cons_succ, List.getElem?_cons_zero] at x11
    have hs0 := sumP_take_le HN.out.2.2.2.2.2 k2
    by_cases hlt2 : k2 < m2
    · have hb69 := hb9.trans (hb.mono hb9.size)
      obtain ⟨ad, a, A3, n3, k3, A4, n4, k4, rfl, ha, hbk, hxt, hxs, y0, y1, y2, y3, y4, y5, y6, y7, hn3, hc3, hs3, hn4, hc4, hs4⟩ := (HW.out wr hb69).pn hlt2
      have hd1 : decide ((k2 : Int) < (m2 : Int)) = true := by simp; omega
      have hk0 : (0 : Int) ≤ (k2 : Int) := by omega
      have hk1 : (k2 : Int) < (m2 : Int) := by omega
      have HLt := Lib.hid (show k2 + 1 ≤ s.p.length from (List.getElem?_eq_some_iff.1 ha).1)
      have hsml := HN.out.2.2.2.2.2.2 a (List.mem_of_getElem? ha)
      have hn3' : n3 ≤ 1000000 := by have := hs3.1; omega
      have hn4' : n4 ≤ 1000000 := by have := hs4.1; omega
      have HSu := Lib.hid (show sumP (s.p.take (k2 + 1)) = sumP (s.p.take k2) + (n3 + n4) by rw [sumP_take ha, hs3.1, hs4.1])
      clear ha hsml hs3 hs4 y0 y1 y2 y3 y4 y5
      generalize sumP (s.p.take k2) = t0' at *
      go_wp2_with fail
      go_quiet (fail)
      have hB : Below wr.heap.size wr (wr.drewN nq) := ⟨rfl, rfl, rfl, Nat.le_refl _, fun _ _ => rfl⟩
      have hb' := hb.trans (hB.mono hb.size)
      clear x11 y6 y7
      generalize wr.drewN nq = wq at *
      go_wp2
      go_roundw
      case rel =>
        refine ⟨k2 + 1, HLt.out, by go_num, ?_, hb'⟩
        rw [HSu.out]
        go_num
      case measure => simp [intOf]; omega
    · have hd1 : decide ((k2 : Int) < (m2 : Int)) = false := by simp; omega
      have hE : sumP (s.p.take k2) = sumP s.p := by rw [List.take_of_length_le (by have := HP2.out; omega)]
      rw [hE] at hs0 ⊢
      clear hE
      have hcc := HN.out.1
      generalize hT : sumP s.p = T at *
      generalize hTl : sumP L.p = Tl at *
      generalize hTr : sumP R.p = Tr at *
      have hwt : IntKind.i64.wrap ((Tl : Int) + (Tr : Int)) = (T : Int) := by rw [IntKind.wrap_i64]; omega
      have hb69 := hb9.trans (hb.mono hb9.size)
      have c1w := c19.below hb c19.lt
      have c2w := c29.below hb c29.lt
      have z2 : wr.cell? ⟨w.heap.size, 2, none⟩ = some (.float .f64 s.r.lo) := bw.cell 2
      have z3 : wr.cell? ⟨w.heap.size, 3, none⟩ = some (.float .f64 s.r.hi) := bw.cell 3
      have s0 : Below wr.heap.size wr wr.drew := (Below.refl _ _).drew
      clear HW hcc
      go_upto_region 16 with fail
      refine wp_region_held_drew (S := fun w' => Blk w' g3 30 (L.arr (.slice B1 m1 d1) (.slice B2 m2 d2)) ∧ Blk w' (g3 + 1) 30 (R.arr (.slice B3 m3 d3) (.slice B4 m4 d4)) ∧ w'.cell? ⟨w.heap.size, 2, none⟩ = some (.float .f64 s.r.lo) ∧ w'.cell? ⟨w.heap.size, 3, none⟩ = some (.float .f64 s.r.hi)) (by kernel_rfl) ⟨c1w, c2w, z2, z3⟩ (fun hHeld => ?_)
      refine tl 0 86 rfl (yieldsIf_load_row (by kernel_rfl) 30 _ rfl g3 rfl 30 (L.arr (.slice B1 m1 d1) (.slice B2 m2 d2)) _ (fun _ h => h.1) Tryz.underlying30 rfl (by kernel_rfl)) ?_
      go_frame
      refine t0 1 87 ?_
      go_frame
      refine t0 2 88 ?_
      go_frame
      refine t0 3 89 ?_
      go_frame
      refine t0 4 90 ?_
      go_frame
      refine t0 5 91 ?_
      go_frame
      refine tl 7 93 rfl (yieldsIf_load_row (by kernel_rfl) 30 _ rfl (g3 + 1) rfl 30 (R.arr (.slice B3 m3 d3) (.slice B4 m4 d4)) _ (fun _ h => h.2.1) Tryz.underlying30 rfl (by kernel_rfl)) ?_
      go_frame
      refine t0 8 94 ?_
      go_frame
      refine t0 9 95 ?_
      go_frame
      refine t0 10 96 ?_
      go_frame
      refine t0 11 97 ?_
      go_frame
      refine t0 12 98 ?_
      go_frame
      refine wpAnyH_ready (rs := [6]) (by kernel_rfl) (by simp) (AllReadyH.cons (o := ⟨some 92, _, _, _, _, _⟩) rfl (fun K hK => ?_) AllReadyH.nil)
      go_simp
      (with_reducible refine (HCL6.out wr.drew (hb69.trans (s0.mono hb69.size))).mono ?_)
      rintro e wA ⟨rfl, hbA⟩
      have sA := s0.trans (hbA.mono s0.size)
      have hb6A := hb69.trans (sA.mono hb69.size)
      clear hbA
      refine hK.out _ _ ⟨c1w.below sA c1w.lt, c2w.below sA c2w.lt, (sA.cell (by exact lbw)).trans z2, (sA.cell (by exact lbw)).trans z3⟩ (fun hHeld => ?_)
      clear hK K
      try go_frame
      refine wpAnyH_ready (rs := [13]) (by kernel_rfl) (by simp) (AllReadyH.cons (o := ⟨some 99, _, _, _, _, _⟩) rfl (fun K hK => ?_) AllReadyH.nil)
      go_simp
      (with_reducible refine (HCR6.out wA hb6A).mono ?_)
      rintro e wB ⟨rfl, hbB⟩
      have sB := sA.trans (hbB.mono sA.size)
      have hb6B := hb69.trans (sB.mono hb69.size)
      clear hbB
      refine hK.out _ _ ⟨c1w.below sB c1w.lt, c2w.below sB c2w.lt, (sB.cell (by exact lbw)).trans z2, (sB.cell (by exact lbw)).trans z3⟩ (fun hHeld => ?_)
      clear hK K
      try go_frame
      refine t0 14 100 ?_
      go_frame
      refine t0 15 18 ?_
      go_frame
      refine wpAnyH_done (by kernel_rfl) ?_ _
      have c1B := c1w.below sB c1w.lt
      have c2B := c2w.below sB c2w.lt
      have b0B := bw.below sB bw.lt
      have WB := W9.trans ((hb.trans (sB.mono hb.size)).mono W9.size)
      clear c1w c2w z2 z3 sA hb6A sB hb6B bw lbw hHeld s0 HCL6 HCR6 hb hb69 b09 c19 c29
      go_wp2_with fail
      refine (first_any _).mono ?_
      rintro e wC ⟨rfl, hbC⟩
      have c1C := c1B.below hbC c1B.lt
      have c2C := c2B.below hbC c2B.lt
      have b0C := b0B.below hbC b0B.lt
      have p10 := c1C.cell 10
      have p11 := c1C.cell 11
      have r10 := c2C.cell 10
      have o10 := b0C.cell 10
      have o11 := b0C.cell 11
      simp only [List.getElem?_toArray, List.getElem?_cons_succ, List.getElem?_cons_zero] at p10 p11 r10 o10 o11
      have l1 := c1C.lt
      have l2 := c2C.lt
      have l0 := b0C.lt
      clear c1B c2B b0B
      go_wp2
      go_ret
      exact ⟨rfl, WB.trans (hbC.mono WB.size)⟩
theorem whole_any (s : Stt) (A1 A2 : Option Addr) (n1 n2 c1 c2 : Nat) (x : Nat) (k : Int) (st fl : Sp) (w : World) (hok : s.r.ok) (hx : x < 18446744073709551616) (h1 : Sl HsRel 2 w w.heap.size A1 n1 s.h) (h2 : Sl PnRel 8 w w.heap.size A2 n2 s.p) (hn1 : n1 ≤ maxLen) (hn2 : n2 ≤ maxLen) :
    Calls Tryz.prog 4 #[.agg (s.arr (.slice A1 n1 c1) (.slice A2 n2 c2)), .float .f64 x, .int .i64 k, st.val, fl.val] w fun e w' => e = .returned (.bool true) ∧ Below w.heap.size w w' := by
  by_cases hin : weighS 20000 s ≤ 20000
  · by_cases hE : divE s x k st fl = 0
    · have hsm := weighS_small (by omega) (by omega) hin
      obtain ⟨hm, hst, hfl, hs⟩ := divE_zero.1 hE
      obtain ⟨j1, j2⟩ := whole hm hs hst hfl
      obtain ⟨b1, b2, b3, b4, b5, b6, b7, b8, hL, hU⟩ := split_zero hs
      obtain ⟨o1, o2⟩ := split_ok_r (k := k) hok hx (by unfold i64ok; omega)
      have i1 := (mayS_parts (left_may hm hs)).2.2.2
      have i2 := (mayS_parts (right_may hm hs hst hfl)).2.2.2
      rw [show (leftS s x k).r = ⟨s.r.id, s.r.ep + 1, s.r.lo, x⟩ from hL] at i1
      rw [show (rightS s x k st fl).r = ⟨k, 0, x, s.r.hi⟩ from hU] at i2
      exact whole_in s (leftS s x k) (rightS s x k st fl) A1 A2 n1 n2 c1 c2 x k st fl w hok hx h1 h2 hn1 hn2 hin (by unfold divL; rw [if_pos hE]) (by unfold divR; rw [if_pos hE]) hE j1 j2 o1 o2 (left_small hsm) (right_small hsm) (left_may hm hs) (right_may hm hs hst hfl) i1 i2 (sumP_half (fun k => belowB k x) s.p) (filter_len (fun h : Hs => belowB h.key x) s.h) (List.length_map ..)
    · exact whole_out s A1 A2 n1 n2 c1 c2 x k st fl w hok hx h1 h2 hn1 hn2 (.inr ⟨decide_eq_true hin, hin, hE⟩)
  · exact whole_out s A1 A2 n1 n2 c1 c2 x k st fl w hok hx h1 h2 hn1 hn2 (.inl (decide_eq_false hin))
end Go.Proofs.YtipacjbegfingaaGreat
