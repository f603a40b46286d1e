/- The document's Rejoin, whatever the states; HandRejoins' walk. -/
import Derived.Test.YtipacjbegfingaaGreatYadi
import Derived.Test.YtipacjbegfingaaGreatYaeb
namespace Go.Proofs.YtipacjbegfingaaGreat
set_option linter.unusedVariables false
open Go.RowKit Fl
attribute [local go_sem] run_store_float

/-- the document's Rejoin -/
theorem rrejoin_named (l r S : Stt) (E : Int) (A1 A2 A3 A4 : Option Addr) (n1 n2 n3 n4 c1 c2 c3 c4 : Nat) (w : World) (hok : l.r.ok) (hok2 : r.r.ok) (h1 : Sl HsRel 2 w w.heap.size A1 n1 l.h) (h2 : Sl PnRel 8 w w.heap.size A2 n2 l.p) (h3 : Sl HsRel 2 w w.heap.size A3 n3 r.h) (h4 : Sl PnRel 8 w w.heap.size A4 n4 r.p) (hH : SmallH l.h) (hQ : SmallP l.p) (hH2 : SmallH r.h) (hQ2 : SmallP r.p)
    (hS : (if rejE l r = 0 then rejS l r else zeroS) = S) (hE : rejE l r = E) :
    Calls Tryz.prog 9 #[.agg (l.arr (.slice A1 n1 c1) (.slice A2 n2 c2)), .agg (r.arr (.slice A3 n3 c3) (.slice A4 n4 c4))] w fun en w' => ∃ B1 m1 d1 B2 m2 d2, en = .returned (.tuple #[.agg (S.arr (.slice B1 m1 d1) (.slice B2 m2 d2)), .int .i64 E]) ∧ Sl HsRel 2 w' w'.heap.size B1 m1 S.h ∧ Sl PnRel 8 w' w'.heap.size B2 m2 S.p ∧ Below w.heap.size w w' := by
  have key : Calls Tryz.prog 9 #[.agg (l.arr (.slice A1 n1 c1) (.slice A2 n2 c2)), .agg (r.arr (.slice A3 n3 c3) (.slice A4 n4 c4))] w (RejPost w S E) := by
    subst hS hE
    by_cases hm : mayS l = false ∨ mayS l = true ∧ mayS r = false
    · rw [rejE_may hm, if_neg (by omega)]
      exact rrejoin_a hok hok2 h1 h2 h3 h4 hH hQ hH2 hQ2 hm
    · have a1 : mayS l = true := by cases e : mayS l; exact absurd (.inl e) hm; rfl
      have a2 : mayS r = true := by cases e : mayS r; exact absurd (.inr ⟨a1, e⟩) hm; rfl
      by_cases hb : l.r.hi ≠ r.r.lo ∨ l.r.hi = r.r.lo ∧ l.r.ep < 1 ∨ l.r.hi = r.r.lo ∧ 1 ≤ l.r.ep ∧ l.r.id = r.r.id
      · rw [rejE_meet a1 a2 hb, if_neg (by omega)]
        exact rrejoin_b hok hok2 h1 h2 h3 h4 hH hQ hH2 hQ2 a1 a2 hb
      · have hg : l.r.hi = r.r.lo ∧ 1 ≤ l.r.ep ∧ l.r.id ≠ r.r.id := by
          refine ⟨Classical.byContradiction fun e => hb (.inl e), Int.not_lt.1 fun e => hb ?_, fun e => hb ?_⟩
          · by_cases h : l.r.hi = r.r.lo
            · exact .inr (.inl ⟨h, by omega⟩)
            · exact .inl h
          · by_cases h : l.r.hi = r.r.lo
            · by_cases h' : l.r.ep < 1
              · exact .inr (.inl ⟨h, h'⟩)
              · exact .inr (.inr ⟨h, by omega, e⟩)
            · exact .inl h
        refine rrejoin_c hok hok2 h1 h2 h3 h4 hH hQ hH2 hQ2 a1 a2 hg _ _ ⟨fun h => ?_, fun h => ?_⟩
        · rw [rejE_like a1 a2 hg, if_pos h]; exact ⟨if_pos rfl, rfl⟩
        · have e : rejE l r = 14 := by rw [rejE_like a1 a2 hg, if_neg (by rw [h]; exact Bool.false_ne_true)]
          rw [e]; exact ⟨if_neg (by omega), rfl⟩
  refine key.mono ?_
  rintro en w' ⟨vh, vp, rfl, ⟨B1, m1, d1, rfl, -, -, k1⟩, ⟨B2, m2, d2, rfl, -, -, k2⟩, hb⟩
  exact ⟨B1, m1, d1, B2, m2, d2, rfl, k1, k2, hb⟩
abbrev rjBox (a b : Stt) (A1 A2 A3 A4 : Option Addr) (n1 n2 n3 n4 c1 c2 c3 c4 : Nat) (w : World) : World := (w.alloc (.cells (a.arr (.slice A1 n1 c1) (.slice A2 n2 c2)) 30)).alloc (.cells (b.arr (.slice A3 n3 c3) (.slice A4 n4 c4)) 30)
/-- both copies, each in a box of its own -/
def CopyTwo (a b : Stt) (w3 : World) (s t : Value) (w' : World) : Prop := ∃ (ga gb : Nat) (B1 : Option Addr) (m1 d1 : Nat) (B2 : Option Addr) (m2 d2 : Nat) (B3 : Option Addr) (m3 d3 : Nat) (B4 : Option Addr) (m4 d4 : Nat), s = .pointer (some ⟨ga, 0, none⟩) ∧ t = .pointer (some ⟨gb, 0, none⟩) ∧ Blk w' ga 30 (a.arr (.slice B1 m1 d1) (.slice B2 m2 d2)) ∧ Blk w' gb 30 (b.arr (.slice B3 m3 d3) (.slice B4 m4 d4)) ∧
  Sl HsRel 2 w' w'.heap.size B1 m1 a.h ∧ Sl PnRel 8 w' w'.heap.size B2 m2 a.p ∧ Sl HsRel 2 w' w'.heap.size B3 m3 b.h ∧ Sl PnRel 8 w' w'.heap.size B4 m4 b.p ∧ Below w3.heap.size w3 w'
theorem Sl.held2 {α : Type} {R : Rel α} {size n N x y ga gb : Nat} {w : World} {A : Option Addr} {l : List α} {ca cb : Array Value} (hR : R.Kept) (hRm : R.Mono) (h : Sl R size (only (rng x y) w) N A n l) (hN : N ≤ w.heap.size) (h1 : ga < x ∨ y ≤ ga) (h2 : gb < x ∨ y ≤ gb) : Sl R size ((w.setRow ga ca).setRow gb cb) ((w.setRow ga ca).setRow gb cb).heap.size A n l := by
  rw [size_setRow, size_setRow]
  exact ((h.keep hR fun p _ => only_same (K := rng x y) (w' := (w.setRow ga ca).setRow gb cb) (w := w) (fun q hq => by rw [rng_iff] at hq; rw [setRow_other _ _ _ _ (by omega), setRow_other _ _ _ _ (by omega)]) p).mono hRm fun p u _ hc => (only_cell hc).2).more hR hN
section
variable {a b : Stt} {A1 A2 A3 A4 : Option Addr} {n1 n2 n3 n4 c1 c2 c3 c4 : Nat} {w : World}
set_option maxRecDepth 100000 in
set_option maxHeartbeats 8000000 in
theorem rejoins_out (h1 : Sl HsRel 2 w w.heap.size A1 n1 a.h) (h2 : Sl PnRel 8 w w.heap.size A2 n2 a.p) (h3 : Sl HsRel 2 w w.heap.size A3 n3 b.h) (h4 : Sl PnRel 8 w w.heap.size A4 n4 b.p) (hn1 : n1 ≤ maxLen) (hn2 : n2 ≤ maxLen) (hn3 : n3 ≤ maxLen) (hn4 : n4 ≤ maxLen)
    (hout : decide (weighS 20000 a ≤ 20000) = false ∨ decide (weighS 20000 a ≤ 20000) = true ∧ decide (weighS 20000 b ≤ 20000) = false) :
    Calls Tryz.prog 3 #[.agg (a.arr (.slice A1 n1 c1) (.slice A2 n2 c2)), .agg (b.arr (.slice A3 n3 c3) (.slice A4 n4 c4))] w fun e w' => e = .returned (.bool true) ∧ Below w.heap.size w w' := by
  have hF := fun w' (hb : Below w.heap.size w w') => few_any a A1 A2 n1 n2 c1 c2 w' ((h1.below HsRel.kept hb).more HsRel.kept hb.size) ((h2.below PnRel.kept hb).more PnRel.kept hb.size) hn1 hn2
  have hG := fun w' (hb : Below w.heap.size w w') => few_any b A3 A4 n3 n4 c3 c4 w' ((h3.below HsRel.kept hb).more HsRel.kept hb.size) ((h4.below PnRel.kept hb).more PnRel.kept hb.size) hn3 hn4
  have hB0 : Blk (rjBox a b A1 A2 A3 A4 n1 n2 n3 n4 c1 c2 c3 c4 w) w.heap.size 30 (a.arr (.slice A1 n1 c1) (.slice A2 n2 c2)) := (Blk.new _ _ _).alloc _
  have hB1 : Blk (rjBox a b A1 A2 A3 A4 n1 n2 n3 n4 c1 c2 c3 c4 w) (w.heap.size + 1) 30 (b.arr (.slice A3 n3 c3) (.slice A4 n4 c4)) := Blk.new' _ _ (by simp)
  have hX : Below w.heap.size w (rjBox a b A1 A2 A3 A4 n1 n2 n3 n4 c1 c2 c3 c4 w) := by go_grown
  rcases hout with e1 | ⟨e1, e2⟩
  · rw [e1] at hF
    clear e1 hG
    go_enter Tryz.func3, Tryz.ntmps3
    go_wp2_with (go_at_call 5; fail)
    refine (first_any _).mono ?_
    rintro e w1 ⟨rfl, hb1⟩
    have b0 := hB0.below hb1 hB0.lt
    have hY := hX.trans (hb1.mono hX.size)
    obtain ⟨g0, z0, z1, z2, z3, z4, z5, z6, z7, z8, z9, z10, z11⟩ := b0.dozen
    go_wp2_with fail
    refine (hF _ hY).mono ?_
    rintro e w2 ⟨rfl, hb2⟩
    have hZ := hY.trans (hb2.mono hY.size)
    go_wp2_with fail
    refine (first_any _).mono ?_
    rintro e w3 ⟨rfl, hb3⟩
    go_wp2
    go_ret
    exact ⟨rfl, hZ.trans (hb3.mono hZ.size)⟩
  · rw [e1] at hF
    rw [e2] at hG
    clear e1 e2
    go_enter Tryz.func3, Tryz.ntmps3
    go_wp2_with (go_at_call 5; fail)
    refine (first_any _).mono ?_
    rintro e w1 ⟨rfl, hb1⟩
    have b0 := hB0.below hb1 hB0.lt
    have b1 := hB1.below hb1 hB1.lt
    have hY := hX.trans (hb1.mono hX.size)
    obtain ⟨g0, z0, z1, z2, z3, z4, z5, z6, z7, z8, z9, z10, z11⟩ := b0.dozen
    go_wp2_with fail
    refine (hF _ hY).mono ?_
    rintro e w2 ⟨rfl, hb2⟩
    have hZ := hY.trans (hb2.mono hY.size)
    have b12 := b1.below hb2 b1.lt
    clear z0 z1 z2 z3 z4 z5 z6 z7 z8 z9 z10 z11
    obtain ⟨g12, u0, u1, u2, u3, u4, u5, u6, u7, u8, u9, u10, u11⟩ := b12.dozen
    go_wp2_with fail
    refine (hG _ hZ).mono ?_
    rintro e w3 ⟨rfl, hb3⟩
    have hA := hZ.trans (hb3.mono hZ.size)
    go_wp2_with fail
    refine (first_any _).mono ?_
    rintro e w4 ⟨rfl, hb4⟩
    go_wp2
    go_ret
    exact ⟨rfl, hA.trans (hb4.mono hA.size)⟩
set_option maxRecDepth 100000 in
set_option maxHeartbeats 8000000 in
theorem rejoins_in (oka : a.r.ok) (okb : b.r.ok) (h1 : Sl HsRel 2 w w.heap.size A1 n1 a.h) (h2 : Sl PnRel 8 w w.heap.size A2 n2 a.p) (h3 : Sl HsRel 2 w w.heap.size A3 n3 b.h) (h4 : Sl PnRel 8 w w.heap.size A4 n4 b.p) (hn1 : n1 ≤ maxLen) (hn2 : n2 ≤ maxLen) (hn3 : n3 ≤ maxLen) (hn4 : n4 ≤ maxLen)
    (hia : weighS 20000 a ≤ 20000) (hib : weighS 20000 b ≤ 20000) :
    Calls Tryz.prog 3 #[.agg (a.arr (.slice A1 n1 c1) (.slice A2 n2 c2)), .agg (b.arr (.slice A3 n3 c3) (.slice A4 n4 c4))] w fun e w' => e = .returned (.bool true) ∧ Below w.heap.size w w' := by
  have sa := weighS_small (by omega) (by omega) hia
  have sb := weighS_small (by omega) (by omega) hib
  have hF := fun w' (hb : Below w.heap.size w w') => few_any a A1 A2 n1 n2 c1 c2 w' ((h1.below HsRel.kept hb).more HsRel.kept hb.size) ((h2.below PnRel.kept hb).more PnRel.kept hb.size) hn1 hn2
  have hG := fun w' (hb : Below w.heap.size w w') => few_any b A3 A4 n3 n4 c3 c4 w' ((h3.below HsRel.kept hb).more HsRel.kept hb.size) ((h4.below PnRel.kept hb).more PnRel.kept hb.size) hn3 hn4
  have hB0 : Blk (rjBox a b A1 A2 A3 A4 n1 n2 n3 n4 c1 c2 c3 c4 w) w.heap.size 30 (a.arr (.slice A1 n1 c1) (.slice A2 n2 c2)) := (Blk.new _ _ _).alloc _
  have hB1 : Blk (rjBox a b A1 A2 A3 A4 n1 n2 n3 n4 c1 c2 c3 c4 w) (w.heap.size + 1) 30 (b.arr (.slice A3 n3 c3) (.slice A4 n4 c4)) := Blk.new' _ _ (by simp)
  have hX : Below w.heap.size w (rjBox a b A1 A2 A3 A4 n1 n2 n3 n4 c1 c2 c3 c4 w) := by go_grown
  rw [decide_eq_true hia] at hF
  rw [decide_eq_true hib] at hG
  obtain ⟨S, hS⟩ : ∃ S, (if rejE a b = 0 then rejS a b else zeroS) = S := ⟨_, rfl⟩
  obtain ⟨E, hE⟩ : ∃ E, rejE a b = E := ⟨_, rfl⟩
  have HJ := Lib.hid (fun A1 A2 A3 A4 n1 n2 n3 n4 c1 c2 c3 c4 w h1 h2 h3 h4 => rejoin_named a b S E A1 A2 A3 A4 n1 n2 n3 n4 c1 c2 c3 c4 w oka okb h1 h2 h3 h4 sa.1 sa.2 sb.1 sb.2 hS hE)
  have HK := Lib.hid (fun A1 A2 A3 A4 n1 n2 n3 n4 c1 c2 c3 c4 w h1 h2 h3 h4 => rrejoin_named a b S E A1 A2 A3 A4 n1 n2 n3 n4 c1 c2 c3 c4 w oka okb h1 h2 h3 h4 sa.1 sa.2 sb.1 sb.2 hS hE)
  have HC := Lib.hid (fun w' (hb : Below w.heap.size w w') => copyS_low a A1 A2 n1 n2 c1 c2 w' ((h1.below HsRel.kept hb).more HsRel.kept hb.size) ((h2.below PnRel.kept hb).more PnRel.kept hb.size) sa.1 sa.2)
  have HD := Lib.hid (fun w' (hb : Below w.heap.size w w') => copyS_low b A3 A4 n3 n4 c3 c4 w' ((h3.below HsRel.kept hb).more HsRel.kept hb.size) ((h4.below PnRel.kept hb).more PnRel.kept hb.size) sb.1 sb.2)
  have HSm := Lib.hid (⟨sa, sb⟩ : (SmallH a.h ∧ SmallP a.p) ∧ SmallH b.h ∧ SmallP b.p)
  have HSS := Lib.hid (by
    subst hS
    by_cases h : rejE a b = 0
    · rw [if_pos h]
      have e1 : (rejS a b).h.length = a.h.length + b.h.length := merge_len _ _ _ (Nat.le_refl _)
      have e2 : (rejS a b).p.length = a.p.length := List.length_map ..
      have := sa.1.1; have := sa.2.1; have := sb.1.1
      exact ⟨by omega, by omega⟩
    · rw [if_neg h]; exact ⟨Nat.zero_le _, Nat.zero_le _⟩ : S.h.length ≤ 2000000 ∧ S.p.length ≤ 1000000)
  clear hS hE hia hib sa sb oka okb
  have hEE : (E == E) = true := by simp
  go_enter Tryz.func3, Tryz.ntmps3
  go_wp2_with (go_at_call 5; fail)
  refine (first_any _).mono ?_
  rintro e w1 ⟨rfl, hb1⟩
  have b0 := hB0.below hb1 hB0.lt
  have b1 := hB1.below hb1 hB1.lt
  have hY := hX.trans (hb1.mono hX.size)
  obtain ⟨g0, z0, z1, z2, z3, z4, z5, z6, z7, z8, z9, z10, z11⟩ := b0.dozen
  go_wp2_with fail
  refine (hF _ hY).mono ?_
  rintro e w2 ⟨rfl, hb2⟩
  have hZ := hY.trans (hb2.mono hY.size)
  have b02 := b0.below hb2 b0.lt
  have b12 := b1.below hb2 b1.lt
  clear z0 z1 z2 z3 z4 z5 z6 z7 z8 z9 z10 z11
  obtain ⟨g12, u0, u1, u2, u3, u4, u5, u6, u7, u8, u9, u10, u11⟩ := b12.dozen
  go_wp2_with fail
  refine (hG _ hZ).mono ?_
  rintro e w3 ⟨rfl, hb3⟩
  have W3 := hZ.trans (hb3.mono hZ.size)
  have b03 := b02.below hb3 b02.lt
  have b13 := b12.below hb3 b12.lt
  clear u0 u1 u2 u3 u4 u5 u6 u7 u8 u9 u10 u11 g0 g12 b0 b1 b02 b12 hB0 hB1 hX hY hZ hb1 hb2 hb3 hF hG
  go_upto_region 5 with fail
  go_cut [5, 6] from 22 (fun s t w' => CopyTwo a b w3 s t w')
  case first =>
    have s0 : Below w3.heap.size w3 w3.drew := (Below.refl _ _).drew
    have l0 := b03.lt
    have l1 := b13.lt
    refine wp_region_held_drew (S := fun w' => Blk w' w.heap.size 30 (a.arr (.slice A1 n1 c1) (.slice A2 n2 c2)) ∧ Blk w' (w.heap.size + 1) 30 (b.arr (.slice A3 n3 c3) (.slice A4 n4 c4))) (by kernel_rfl) ⟨b03, b13⟩ (fun hHeld => ?_)
    refine tl 0 22 rfl (yieldsIf_load_row (by kernel_rfl) 30 _ rfl w.heap.size rfl 30 (a.arr (.slice A1 n1 c1) (.slice A2 n2 c2)) _ (fun _ h => h.1) Tryz.underlying30 rfl (by kernel_rfl)) ?_
    go_frame
    refine tl 2 24 rfl (yieldsIf_load_row (by kernel_rfl) 30 _ rfl (w.heap.size + 1) rfl 30 (b.arr (.slice A3 n3 c3) (.slice A4 n4 c4)) _ (fun _ h => h.2) Tryz.underlying30 rfl (by kernel_rfl)) ?_
    go_frame
    generalize hx0 : w3.drew = x0 at *
    have z0 : w3.heap.size ≤ x0.heap.size := s0.size
    clear hx0
    refine wpAnyH_ready (rs := [1, 4, 5]) (by kernel_rfl) (by simp) (AllReadyH.cons (o := ⟨some 23, _, _, _, _, _⟩) rfl (fun K hK => ?n1) (AllReadyH.cons (o := ⟨some 5, _, _, _, _, _⟩) rfl (fun K hK => ?n4) (AllReadyH.cons (o := ⟨some 6, _, _, _, _, _⟩) rfl (fun K hK => ?n5) AllReadyH.nil)))
    case' n1 =>
      go_simp
      (with_reducible refine (HC.out x0 (W3.trans (s0.mono W3.size))).mono ?_)
      rintro e x1 ⟨B1, m1, d1, B2, m2, d2, rfl, -, -, ca1, -, -, ca2, hb1⟩
      have s1 := s0.trans (hb1.mono s0.size)
      have z1 : x0.heap.size ≤ x1.heap.size := hb1.size
      try replace cb1 := (cb1.keep HsRel.kept fun p hp => only_keep (hb1.cell hp)).more HsRel.kept hb1.size
      try replace cb2 := (cb2.keep PnRel.kept fun p hp => only_keep (hb1.cell hp)).more PnRel.kept hb1.size
      try replace ba := ba.below hb1 ba.lt
      try replace bb := bb.below hb1 bb.lt
      refine hK.out _ _ ⟨b03.below s1 b03.lt, b13.below s1 b13.lt⟩ (fun hHeld => ?_)
      clear hK K
      try go_frame
    case' n4 =>
      go_simp
      have hb1 : Below x0.heap.size x0 (x0.alloc (.cells zeroCells 30)) := by go_grown
      have s1 := s0.trans (hb1.mono s0.size)
      have z1 : x0.heap.size < (x0.alloc (.cells zeroCells 30)).heap.size := by simp
      have ba := Blk.new x0 30 zeroCells
      try replace ca1 := (ca1.keep HsRel.kept fun p hp => only_keep (hb1.cell hp)).more HsRel.kept hb1.size
      try replace ca2 := (ca2.keep PnRel.kept fun p hp => only_keep (hb1.cell hp)).more PnRel.kept hb1.size
      try replace cb1 := (cb1.keep HsRel.kept fun p hp => only_keep (hb1.cell hp)).more HsRel.kept hb1.size
      try replace cb2 := (cb2.keep PnRel.kept fun p hp => only_keep (hb1.cell hp)).more PnRel.kept hb1.size
      try replace bb := bb.below hb1 bb.lt
      refine hK.out _ _ ⟨b03.below s1 b03.lt, b13.below s1 b13.lt⟩ (fun hHeld => ?_)
      clear hK K
      try go_frame
      generalize (x0.alloc (.cells zeroCells 30)) = x1 at *
      generalize x0.heap.size = ga at *
    case' n5 =>
      go_simp
      have hb1 : Below x0.heap.size x0 (x0.alloc (.cells zeroCells 30)) := by go_grown
      have s1 := s0.trans (hb1.mono s0.size)
      have z1 : x0.heap.size < (x0.alloc (.cells zeroCells 30)).heap.size := by simp
      have bb := Blk.new x0 30 zeroCells
      try replace ca1 := (ca1.keep HsRel.kept fun p hp => only_keep (hb1.cell hp)).more HsRel.kept hb1.size
      try replace ca2 := (ca2.keep PnRel.kept fun p hp => only_keep (hb1.cell hp)).more PnRel.kept hb1.size
      try replace cb1 := (cb1.keep HsRel.kept fun p hp => only_keep (hb1.cell hp)).more HsRel.kept hb1.size
      try replace cb2 := (cb2.keep PnRel.kept fun p hp => only_keep (hb1.cell hp)).more PnRel.kept hb1.size
      try replace ba := ba.below hb1 ba.lt
      refine hK.out _ _ ⟨b03.below s1 b03.lt, b13.below s1 b13.lt⟩ (fun hHeld => ?_)
      clear hK K
      try go_frame
      generalize (x0.alloc (.cells zeroCells 30)) = x1 at *
      generalize x0.heap.size = gb at *
    case' n1 => refine wpAnyH_ready (rs := [3, 4, 5]) (by kernel_rfl) (by simp) (AllReadyH.cons (o := ⟨some 25, _, _, _, _, _⟩) rfl (fun K hK => ?n13) (AllReadyH.cons (o := ⟨some 5, _, _, _, _, _⟩) rfl (fun K hK => ?n14) (AllReadyH.cons (o := ⟨some 6, _, _, _, _, _⟩) rfl (fun K hK => ?n15) AllReadyH.nil)))
    case' n4 => refine wpAnyH_ready (rs := [1, 5]) (by kernel_rfl) (by simp) (AllReadyH.cons (o := ⟨some 23, _, _, _, _, _⟩) rfl (fun K hK => ?n41) (AllReadyH.cons (o := ⟨some 6, _, _, _, _, _⟩) rfl (fun K hK => ?n45) AllReadyH.nil))
    case' n5 => refine wpAnyH_ready (rs := [1, 4]) (by kernel_rfl) (by simp) (AllReadyH.cons (o := ⟨some 23, _, _, _, _, _⟩) rfl (fun K hK => ?n51) (AllReadyH.cons (o := ⟨some 5, _, _, _, _, _⟩) rfl (fun K hK => ?n54) AllReadyH.nil))
    case' n41 | n51 =>
      go_simp
      (with_reducible refine (HC.out x1 (W3.trans (s1.mono W3.size))).mono ?_)
      rintro e x2 ⟨B1, m1, d1, B2, m2, d2, rfl, -, -, ca1, -, -, ca2, hb2⟩
      have s2 := s1.trans (hb2.mono s1.size)
      have z2 : x1.heap.size ≤ x2.heap.size := hb2.size
      try replace cb1 := (cb1.keep HsRel.kept fun p hp => only_keep (hb2.cell hp)).more HsRel.kept hb2.size
      try replace cb2 := (cb2.keep PnRel.kept fun p hp => only_keep (hb2.cell hp)).more PnRel.kept hb2.size
      try replace ba := ba.below hb2 ba.lt
      try replace bb := bb.below hb2 bb.lt
      refine hK.out _ _ ⟨b03.below s2 b03.lt, b13.below s2 b13.lt⟩ (fun hHeld => ?_)
      clear hK K
      try go_frame
    case' n13 =>
      go_simp
      (with_reducible refine (HD.out x1 (W3.trans (s1.mono W3.size))).mono ?_)
      rintro e x2 ⟨B3, m3, d3, B4, m4, d4, rfl, -, -, cb1, -, -, cb2, hb2⟩
      have s2 := s1.trans (hb2.mono s1.size)
      have z2 : x1.heap.size ≤ x2.heap.size := hb2.size
      try replace ca1 := (ca1.keep HsRel.kept fun p hp => only_keep (hb2.cell hp)).more HsRel.kept hb2.size
      try replace ca2 := (ca2.keep PnRel.kept fun p hp => only_keep (hb2.cell hp)).more PnRel.kept hb2.size
      try replace ba := ba.below hb2 ba.lt
      try replace bb := bb.below hb2 bb.lt
      refine hK.out _ _ ⟨b03.below s2 b03.lt, b13.below s2 b13.lt⟩ (fun hHeld => ?_)
      clear hK K
      try go_frame
    case' n14 | n54 =>
      go_simp
      have hb2 : Below x1.heap.size x1 (x1.alloc (.cells zeroCells 30)) := by go_grown
      have s2 := s1.trans (hb2.mono s1.size)
      have z2 : x1.heap.size < (x1.alloc (.cells zeroCells 30)).heap.size := by simp
      have ba := Blk.new x1 30 zeroCells
      try replace ca1 := (ca1.keep HsRel.kept fun p hp => only_keep (hb2.cell hp)).more HsRel.kept hb2.size
      try replace ca2 := (ca2.keep PnRel.kept fun p hp => only_keep (hb2.cell hp)).more PnRel.kept hb2.size
      try replace cb1 := (cb1.keep HsRel.kept fun p hp => only_keep (hb2.cell hp)).more HsRel.kept hb2.size
      try replace cb2 := (cb2.keep PnRel.kept fun p hp => only_keep (hb2.cell hp)).more PnRel.kept hb2.size
      try replace bb := bb.below hb2 bb.lt
      refine hK.out _ _ ⟨b03.below s2 b03.lt, b13.below s2 b13.lt⟩ (fun hHeld => ?_)
      clear hK K
      try go_frame
      generalize (x1.alloc (.cells zeroCells 30)) = x2 at *
      generalize x1.heap.size = ga at *
    case' n15 | n45 =>
      go_simp
      have hb2 : Below x1.heap.size x1 (x1.alloc (.cells zeroCells 30)) := by go_grown
      have s2 := s1.trans (hb2.mono s1.size)
      have z2 : x1.heap.size < (x1.alloc (.cells zeroCells 30)).heap.size := by simp
      have bb := Blk.new x1 30 zeroCells
      try replace ca1 := (ca1.keep HsRel.kept fun p hp => only_keep (hb2.cell hp)).more HsRel.kept hb2.size
      try replace ca2 := (ca2.keep PnRel.kept fun p hp => only_keep (hb2.cell hp)).more PnRel.kept hb2.size
      try replace cb1 := (cb1.keep HsRel.kept fun p hp => only_keep (hb2.cell hp)).more HsRel.kept hb2.size
      try replace cb2 := (cb2.keep PnRel.kept fun p hp => only_keep (hb2.cell hp)).more PnRel.kept hb2.size
      try replace ba := ba.below hb2 ba.lt
      refine hK.out _ _ ⟨b03.below s2 b03.lt, b13.below s2 b13.lt⟩ (fun hHeld => ?_)
      clear hK K
      try go_frame
      generalize (x1.alloc (.cells zeroCells 30)) = x2 at *
      generalize x1.heap.size = gb at *
    case' n13 => refine wpAnyH_ready (rs := [4, 5]) (by kernel_rfl) (by simp) (AllReadyH.cons (o := ⟨some 5, _, _, _, _, _⟩) rfl (fun K hK => ?n134) (AllReadyH.cons (o := ⟨some 6, _, _, _, _, _⟩) rfl (fun K hK => ?n135) AllReadyH.nil))
    case' n14 => refine wpAnyH_ready (rs := [3, 5]) (by kernel_rfl) (by simp) (AllReadyH.cons (o := ⟨some 25, _, _, _, _, _⟩) rfl (fun K hK => ?n143) (AllReadyH.cons (o := ⟨some 6, _, _, _, _, _⟩) rfl (fun K hK => ?n145) AllReadyH.nil))
    case' n15 => refine wpAnyH_ready (rs := [3, 4]) (by kernel_rfl) (by simp) (AllReadyH.cons (o := ⟨some 25, _, _, _, _, _⟩) rfl (fun K hK => ?n153) (AllReadyH.cons (o := ⟨some 5, _, _, _, _, _⟩) rfl (fun K hK => ?n154) AllReadyH.nil))
    case' n41 => refine wpAnyH_ready (rs := [3, 5]) (by kernel_rfl) (by simp) (AllReadyH.cons (o := ⟨some 25, _, _, _, _, _⟩) rfl (fun K hK => ?n413) (AllReadyH.cons (o := ⟨some 6, _, _, _, _, _⟩) rfl (fun K hK => ?n415) AllReadyH.nil))
    case' n45 => refine wpAnyH_ready (rs := [1]) (by kernel_rfl) (by simp) (AllReadyH.cons (o := ⟨some 23, _, _, _, _, _⟩) rfl (fun K hK => ?_) AllReadyH.nil)
    case' n51 => refine wpAnyH_ready (rs := [3, 4]) (by kernel_rfl) (by simp) (AllReadyH.cons (o := ⟨some 25, _, _, _, _, _⟩) rfl (fun K hK => ?n513) (AllReadyH.cons (o := ⟨some 5, _, _, _, _, _⟩) rfl (fun K hK => ?n514) AllReadyH.nil))
    case' n54 => refine wpAnyH_ready (rs := [1]) (by kernel_rfl) (by simp) (AllReadyH.cons (o := ⟨some 23, _, _, _, _, _⟩) rfl (fun K hK => ?_) AllReadyH.nil)
    case' n45 | n54 =>
      go_simp
      (with_reducible refine (HC.out x2 (W3.trans (s2.mono W3.size))).mono ?_)
      rintro e x3 ⟨B1, m1, d1, B2, m2, d2, rfl, -, -, ca1, -, -, ca2, hb3⟩
      have s3 := s2.trans (hb3.mono s2.size)
      have z3 : x2.heap.size ≤ x3.heap.size := hb3.size
      try replace cb1 := (cb1.keep HsRel.kept fun p hp => only_keep (hb3.cell hp)).more HsRel.kept hb3.size
      try replace cb2 := (cb2.keep PnRel.kept fun p hp => only_keep (hb3.cell hp)).more PnRel.kept hb3.size
      try replace ba := ba.below hb3 ba.lt
      try replace bb := bb.below hb3 bb.lt
      refine hK.out _ _ ⟨b03.below s3 b03.lt, b13.below s3 b13.lt⟩ (fun hHeld => ?_)
      clear hK K
      try go_frame
    case' n143 | n153 | n413 | n513 =>
      go_simp
      (with_reducible refine (HD.out x2 (W3.trans (s2.mono W3.size))).mono ?_)
      rintro e x3 ⟨B3, m3, d3, B4, m4, d4, rfl, -, -, cb1, -, -, cb2, hb3⟩
      have s3 := s2.trans (hb3.mono s2.size)
      have z3 : x2.heap.size ≤ x3.heap.size := hb3.size
      try replace ca1 := (ca1.keep HsRel.kept fun p hp => only_keep (hb3.cell hp)).more HsRel.kept hb3.size
      try replace ca2 := (ca2.keep PnRel.kept fun p hp => only_keep (hb3.cell hp)).more PnRel.kept hb3.size
      try replace ba := ba.below hb3 ba.lt
      try replace bb := bb.below hb3 bb.lt
      refine hK.out _ _ ⟨b03.below s3 b03.lt, b13.below s3 b13.lt⟩ (fun hHeld => ?_)
      clear hK K
      try go_frame
    case' n134 | n154 | n514 =>
      go_simp
      have hb3 : Below x2.heap.size x2 (x2.alloc (.cells zeroCells 30)) := by go_grown
      have s3 := s2.trans (hb3.mono s2.size)
      have z3 : x2.heap.size < (x2.alloc (.cells zeroCells 30)).heap.size := by simp
      have ba := Blk.new x2 30 zeroCells
      try replace ca1 := (ca1.keep HsRel.kept fun p hp => only_keep (hb3.cell hp)).more HsRel.kept hb3.size
      try replace ca2 := (ca2.keep PnRel.kept fun p hp => only_keep (hb3.cell hp)).more PnRel.kept hb3.size
      try replace cb1 := (cb1.keep HsRel.kept fun p hp => only_keep (hb3.cell hp)).more HsRel.kept hb3.size
      try replace cb2 := (cb2.keep PnRel.kept fun p hp => only_keep (hb3.cell hp)).more PnRel.kept hb3.size
      try replace bb := bb.below hb3 bb.lt
      refine hK.out _ _ ⟨b03.below s3 b03.lt, b13.below s3 b13.lt⟩ (fun hHeld => ?_)
      clear hK K
      try go_frame
      generalize (x2.alloc (.cells zeroCells 30)) = x3 at *
      generalize x2.heap.size = ga at *
    case' n135 | n145 | n415 =>
      go_simp
      have hb3 : Below x2.heap.size x2 (x2.alloc (.cells zeroCells 30)) := by go_grown
      have s3 := s2.trans (hb3.mono s2.size)
      have z3 : x2.heap.size < (x2.alloc (.cells zeroCells 30)).heap.size := by simp
      have bb := Blk.new x2 30 zeroCells
      try replace ca1 := (ca1.keep HsRel.kept fun p hp => only_keep (hb3.cell hp)).more HsRel.kept hb3.size
      try replace ca2 := (ca2.keep PnRel.kept fun p hp => only_keep (hb3.cell hp)).more PnRel.kept hb3.size
      try replace cb1 := (cb1.keep HsRel.kept fun p hp => only_keep (hb3.cell hp)).more HsRel.kept hb3.size
      try replace cb2 := (cb2.keep PnRel.kept fun p hp => only_keep (hb3.cell hp)).more PnRel.kept hb3.size
      try replace ba := ba.below hb3 ba.lt
      refine hK.out _ _ ⟨b03.below s3 b03.lt, b13.below s3 b13.lt⟩ (fun hHeld => ?_)
      clear hK K
      try go_frame
      generalize (x2.alloc (.cells zeroCells 30)) = x3 at *
      generalize x2.heap.size = gb at *
    case' n134 => refine wpAnyH_ready (rs := [5]) (by kernel_rfl) (by simp) (AllReadyH.cons (o := ⟨some 6, _, _, _, _, _⟩) rfl (fun K hK => ?_) AllReadyH.nil)
    case' n135 => refine wpAnyH_ready (rs := [4]) (by kernel_rfl) (by simp) (AllReadyH.cons (o := ⟨some 5, _, _, _, _, _⟩) rfl (fun K hK => ?_) AllReadyH.nil)
    case' n143 => refine wpAnyH_ready (rs := [5]) (by kernel_rfl) (by simp) (AllReadyH.cons (o := ⟨some 6, _, _, _, _, _⟩) rfl (fun K hK => ?_) AllReadyH.nil)
    case' n145 => refine wpAnyH_ready (rs := [3]) (by kernel_rfl) (by simp) (AllReadyH.cons (o := ⟨some 25, _, _, _, _, _⟩) rfl (fun K hK => ?_) AllReadyH.nil)
    case' n153 => refine wpAnyH_ready (rs := [4]) (by kernel_rfl) (by simp) (AllReadyH.cons (o := ⟨some 5, _, _, _, _, _⟩) rfl (fun K hK => ?_) AllReadyH.nil)
    case' n154 => refine wpAnyH_ready (rs := [3]) (by kernel_rfl) (by simp) (AllReadyH.cons (o := ⟨some 25, _, _, _, _, _⟩) rfl (fun K hK => ?_) AllReadyH.nil)
    case' n413 => refine wpAnyH_ready (rs := [5]) (by kernel_rfl) (by simp) (AllReadyH.cons (o := ⟨some 6, _, _, _, _, _⟩) rfl (fun K hK => ?_) AllReadyH.nil)
    case' n415 => refine wpAnyH_ready (rs := [3]) (by kernel_rfl) (by simp) (AllReadyH.cons (o := ⟨some 25, _, _, _, _, _⟩) rfl (fun K hK => ?_) AllReadyH.nil)
    case' n45 => refine wpAnyH_ready (rs := [3]) (by kernel_rfl) (by simp) (AllReadyH.cons (o := ⟨some 25, _, _, _, _, _⟩) rfl (fun K hK => ?_) AllReadyH.nil)
    case' n513 => refine wpAnyH_ready (rs := [4]) (by kernel_rfl) (by simp) (AllReadyH.cons (o := ⟨some 5, _, _, _, _, _⟩) rfl (fun K hK => ?_) AllReadyH.nil)
    case' n514 => refine wpAnyH_ready (rs := [3]) (by kernel_rfl) (by simp) (AllReadyH.cons (o := ⟨some 25, _, _, _, _, _⟩) rfl (fun K hK => ?_) AllReadyH.nil)
    case' n54 => refine wpAnyH_ready (rs := [3]) (by kernel_rfl) (by simp) (AllReadyH.cons (o := ⟨some 25, _, _, _, _, _⟩) rfl (fun K hK => ?_) AllReadyH.nil)
    case' n145 | n154 | n415 | n45 | n514 | n54 =>
      go_simp
      (with_reducible refine (HD.out x3 (W3.trans (s3.mono W3.size))).mono ?_)
      rintro e x4 ⟨B3, m3, d3, B4, m4, d4, rfl, -, -, cb1, -, -, cb2, hb4⟩
      have s4 := s3.trans (hb4.mono s3.size)
      have z4 : x3.heap.size ≤ x4.heap.size := hb4.size
      try replace ca1 := (ca1.keep HsRel.kept fun p hp => only_keep (hb4.cell hp)).more HsRel.kept hb4.size
      try replace ca2 := (ca2.keep PnRel.kept fun p hp => only_keep (hb4.cell hp)).more PnRel.kept hb4.size
      try replace ba := ba.below hb4 ba.lt
      try replace bb := bb.below hb4 bb.lt
      refine hK.out _ _ ⟨b03.below s4 b03.lt, b13.below s4 b13.lt⟩ (fun hHeld => ?_)
      clear hK K
      try go_frame
    case' n135 | n153 | n513 =>
      go_simp
      have hb4 : Below x3.heap.size x3 (x3.alloc (.cells zeroCells 30)) := by go_grown
      have s4 := s3.trans (hb4.mono s3.size)
      have z4 : x3.heap.size < (x3.alloc (.cells zeroCells 30)).heap.size := by simp
      have ba := Blk.new x3 30 zeroCells
      try replace ca1 := (ca1.keep HsRel.kept fun p hp => only_keep (hb4.cell hp)).more HsRel.kept hb4.size
      try replace ca2 := (ca2.keep PnRel.kept fun p hp => only_keep (hb4.cell hp)).more PnRel.kept hb4.size
      try replace cb1 := (cb1.keep HsRel.kept fun p hp => only_keep (hb4.cell hp)).more HsRel.kept hb4.size
      try replace cb2 := (cb2.keep PnRel.kept fun p hp => only_keep (hb4.cell hp)).more PnRel.kept hb4.size
      try replace bb := bb.below hb4 bb.lt
      refine hK.out _ _ ⟨b03.below s4 b03.lt, b13.below s4 b13.lt⟩ (fun hHeld => ?_)
      clear hK K
      try go_frame
      generalize (x3.alloc (.cells zeroCells 30)) = x4 at *
      generalize x3.heap.size = ga at *
    case' n134 | n143 | n413 =>
      go_simp
      have hb4 : Below x3.heap.size x3 (x3.alloc (.cells zeroCells 30)) := by go_grown
      have s4 := s3.trans (hb4.mono s3.size)
      have z4 : x3.heap.size < (x3.alloc (.cells zeroCells 30)).heap.size := by simp
      have bb := Blk.new x3 30 zeroCells
      try replace ca1 := (ca1.keep HsRel.kept fun p hp => only_keep (hb4.cell hp)).more HsRel.kept hb4.size
      try replace ca2 := (ca2.keep PnRel.kept fun p hp => only_keep (hb4.cell hp)).more PnRel.kept hb4.size
      try replace cb1 := (cb1.keep HsRel.kept fun p hp => only_keep (hb4.cell hp)).more HsRel.kept hb4.size
      try replace cb2 := (cb2.keep PnRel.kept fun p hp => only_keep (hb4.cell hp)).more PnRel.kept hb4.size
      try replace ba := ba.below hb4 ba.lt
      refine hK.out _ _ ⟨b03.below s4 b03.lt, b13.below s4 b13.lt⟩ (fun hHeld => ?_)
      clear hK K
      try go_frame
      generalize (x3.alloc (.cells zeroCells 30)) = x4 at *
      generalize x3.heap.size = gb at *
    all_goals
      refine wpAnyH_store_rowE (i := 6) (by kernel_rfl) rfl rfl _ _ _ rfl ga (a.arr (.slice B1 m1 d1) (.slice B2 m2 d2)) (by kernel_rfl) (by kernel_rfl) _ _ ba (by kernel_rfl) rfl (by kernel_rfl) ⟨(b03.below s4 l0).setRow_far _ (by omega), (b13.below s4 l1).setRow_far _ (by omega)⟩ ?_
      intro x5 hx5
      have bb5 : Blk x5 gb 30 zeroCells := by rw [hx5]; exact bb.setRow_far _ (by omega)
      have b05 : Blk x5 w.heap.size 30 (a.arr (.slice A1 n1 c1) (.slice A2 n2 c2)) := by rw [hx5]; exact (b03.below s4 l0).setRow_far _ (by omega)
      have b15 : Blk x5 (w.heap.size + 1) 30 (b.arr (.slice A3 n3 c3) (.slice A4 n4 c4)) := by rw [hx5]; exact (b13.below s4 l1).setRow_far _ (by omega)
      go_frame
      refine wpAnyH_store_rowE (i := 7) (by kernel_rfl) rfl rfl _ _ _ rfl gb (b.arr (.slice B3 m3 d3) (.slice B4 m4 d4)) (by kernel_rfl) (by kernel_rfl) _ _ bb5 (by kernel_rfl) rfl (by kernel_rfl) ⟨b05.setRow_far _ (by omega), b15.setRow_far _ (by omega)⟩ ?_
      intro x6 hx6
      go_frame
      refine wpAnyH_done (by kernel_rfl) ?_ _
      have hR : CopyTwo a b w3 (.pointer (some ⟨ga, 0, none⟩)) (.pointer (some ⟨gb, 0, none⟩)) x6 := by
        subst hx6 hx5
        exact ⟨ga, gb, _, _, _, _, _, _, _, _, _, _, _, _, rfl, rfl, (ba.setRow _).setRow_far _ (by omega), bb5.setRow _, ca1.held2 HsRel.kept HsRel.mono (by omega) (by omega) (by omega), ca2.held2 PnRel.kept PnRel.mono (by omega) (by omega) (by omega), cb1.held2 HsRel.kept HsRel.mono (by omega) (by omega) (by omega), cb2.held2 PnRel.kept PnRel.mono (by omega) (by omega) (by omega), below_setRow (below_setRow s4 (by omega) _) (by omega) _⟩
      have HR := Lib.hid hR
      clear hR hx5 hx6 bb5 b05 b15 ba bb ca1 ca2 cb1 cb2
      go_wp2_with fail
      go_meet
      case rel => exact HR.out
  case rest =>
    obtain ⟨ga, gb, B1, m1, d1, B2, m2, d2, B3, m3, d3, B4, m4, d4, rfl, rfl, ba, bb, r1, r2, r3, r4, hbc⟩ := hcut
    have b04 := b03.below hbc b03.lt
    have b14 := b13.below hbc b13.lt
    have W4 := W3.trans (hbc.mono W3.size)
    clear b03 b13 hbc HC HD
    obtain ⟨g1, z0, z1, z2, z3, z4, z5, z6, z7, z8, z9, z10, z11⟩ := ba.dozen
    obtain ⟨g2, u0, u1, u2, u3, u4, u5, u6, u7, u8, u9, u10, u11⟩ := bb.dozen
    go_wp2_with fail
    refine (HJ.out B1 B2 B3 B4 m1 m2 m3 m4 d1 d2 d3 d4 wc r1 r2 r3 r4).mono ?_
    rintro e w5 ⟨B5, m5, d5, B6, m6, d6, rfl, r5, r6, hb5⟩
    clear z0 z1 z2 z3 z4 z5 z6 z7 z8 z9 z10 z11 u0 u1 u2 u3 u4 u5 u6 u7 u8 u9 u10 u11 g1 g2 HJ
    have hX5 : Below w5.heap.size w5 (w5.alloc (.cells (S.arr (.slice B5 m5 d5) (.slice B6 m6 d6)) 30)) := by go_grown
    have bS := Blk.new w5 30 (S.arr (.slice B5 m5 d5) (.slice B6 m6 d6))
    go_upto_region 7 with (first
      | (refine wpList_store_new rfl 30 _ _ rfl _ rfl rfl _ _ (by kernel_rfl) (by kernel_rfl) (by kernel_rfl) ?_))
    have h56 := hb5.trans (hX5.mono hb5.size)
    replace r1 := (r1.below HsRel.kept h56).more HsRel.kept h56.size
    replace r2 := (r2.below PnRel.kept h56).more PnRel.kept h56.size
    replace r3 := (r3.below HsRel.kept h56).more HsRel.kept h56.size
    replace r4 := (r4.below PnRel.kept h56).more PnRel.kept h56.size
    replace r5 := (r5.below HsRel.kept hX5).more HsRel.kept hX5.size
    replace r6 := (r6.below PnRel.kept hX5).more PnRel.kept hX5.size
    replace ba := ba.below h56 ba.lt
    replace bb := bb.below h56 bb.lt
    have b06 := b04.below h56 b04.lt
    have b16 := b14.below h56 b14.lt
    have W6 := W4.trans (h56.mono W4.size)
    clear b04 b14 W4 h56 hX5 hb5
    generalize (w5.alloc (.cells (S.arr (.slice B5 m5 d5) (.slice B6 m6 d6)) 30)) = w6 at *
    generalize w5.heap.size = gS at *
    obtain ⟨g1, z0, z1, z2, z3, z4, z5, z6, z7, z8, z9, z10, z11⟩ := b06.dozen
    obtain ⟨g2, u0, u1, u2, u3, u4, u5, u6, u7, u8, u9, u10, u11⟩ := b16.dozen
    go_wp2_with fail
    refine (HK.out A1 A2 A3 A4 n1 n2 n3 n4 c1 c2 c3 c4 w6 ((h1.below HsRel.kept W6).more HsRel.kept W6.size) ((h2.below PnRel.kept W6).more PnRel.kept W6.size) ((h3.below HsRel.kept W6).more HsRel.kept W6.size) ((h4.below PnRel.kept W6).more PnRel.kept W6.size)).mono ?_
    rintro e w7 ⟨B7, m7, d7, B8, m8, d8, rfl, r7, r8, hb7⟩
    clear z0 z1 z2 z3 z4 z5 z6 z7 z8 z9 z10 z11 u0 u1 u2 u3 u4 u5 u6 u7 u8 u9 u10 u11 g1 g2 HK
    have hX7 : Below w7.heap.size w7 (w7.alloc (.cells (S.arr (.slice B7 m7 d7) (.slice B8 m8 d8)) 30)) := by go_grown
    have bT := Blk.new w7 30 (S.arr (.slice B7 m7 d7) (.slice B8 m8 d8))
    go_upto_region 8 with (first
      | (refine wpList_store_new rfl 30 _ _ rfl _ rfl rfl _ _ (by kernel_rfl) (by kernel_rfl) (by kernel_rfl) ?_))
    have h78 := hb7.trans (hX7.mono hb7.size)
    replace r1 := (r1.below HsRel.kept h78).more HsRel.kept h78.size
    replace r2 := (r2.below PnRel.kept h78).more PnRel.kept h78.size
    replace r3 := (r3.below HsRel.kept h78).more HsRel.kept h78.size
    replace r4 := (r4.below PnRel.kept h78).more PnRel.kept h78.size
    replace r5 := (r5.below HsRel.kept h78).more HsRel.kept h78.size
    replace r6 := (r6.below PnRel.kept h78).more PnRel.kept h78.size
    replace r7 := (r7.below HsRel.kept hX7).more HsRel.kept hX7.size
    replace r8 := (r8.below PnRel.kept hX7).more PnRel.kept hX7.size
    replace ba := ba.below h78 ba.lt
    replace bb := bb.below h78 bb.lt
    replace bS := bS.below h78 bS.lt
    have b08 := b06.below h78 b06.lt
    have b18 := b16.below h78 b16.lt
    have W8 := W6.trans (h78.mono W6.size)
    clear b06 b16 W6 h78 hX7 hb7
    generalize (w7.alloc (.cells (S.arr (.slice B7 m7 d7) (.slice B8 m8 d8)) 30)) = w8 at *
    generalize w7.heap.size = gT at *
    have e5 := r5.1
    have e6 := r6.1
    have e1 := r1.1
    have e2 := r2.1
    have e3 := r3.1
    have e4 := r4.1
    have f1 := HSm.out.1.1.1
    have f2 := HSm.out.1.2.1
    have f3 := HSm.out.2.1.1
    have f4 := HSm.out.2.2.1
    have f5 := HSS.out.1
    have f6 := HSS.out.2
    have HS1 := Lib.hid (fun w' (hb : Below w8.heap.size w8 w') => state_same S B5 B6 B7 B8 m5 m6 m7 m8 d5 d6 d7 d8 w' ((r5.below HsRel.kept hb).more HsRel.kept hb.size) ((r6.below PnRel.kept hb).more PnRel.kept hb.size) ((r7.below HsRel.kept hb).more HsRel.kept hb.size) ((r8.below PnRel.kept hb).more PnRel.kept hb.size) (by unfold maxLen; omega) (by unfold maxLen; omega))
    have HS2 := Lib.hid (fun w' (hb : Below w8.heap.size w8 w') => state_same a B1 B2 A1 A2 m1 m2 n1 n2 d1 d2 c1 c2 w' ((r1.below HsRel.kept hb).more HsRel.kept hb.size) ((r2.below PnRel.kept hb).more PnRel.kept hb.size) ((h1.below HsRel.kept (W8.trans (hb.mono W8.size))).more HsRel.kept (W8.trans (hb.mono W8.size)).size) ((h2.below PnRel.kept (W8.trans (hb.mono W8.size))).more PnRel.kept (W8.trans (hb.mono W8.size)).size) (by unfold maxLen; omega) (by unfold maxLen; omega))
    have HS3 := Lib.hid (fun w' (hb : Below w8.heap.size w8 w') => state_same b B3 B4 A3 A4 m3 m4 n3 n4 d3 d4 c3 c4 w' ((r3.below HsRel.kept hb).more HsRel.kept hb.size) ((r4.below PnRel.kept hb).more PnRel.kept hb.size) ((h3.below HsRel.kept (W8.trans (hb.mono W8.size))).more HsRel.kept (W8.trans (hb.mono W8.size)).size) ((h4.below PnRel.kept (W8.trans (hb.mono W8.size))).more PnRel.kept (W8.trans (hb.mono W8.size)).size) (by unfold maxLen; omega) (by unfold maxLen; omega))
    clear e1 e2 e3 e4 e5 e6 f1 f2 f3 f4 f5 f6 r1 r2 r3 r4 r5 r6 r7 r8 h1 h2 h3 h4 hn1 hn2 hn3 hn4 HSS HSm
    go_wp2_with (go_at_call 5; fail)
    refine (first_any _).mono ?_
    rintro e wb ⟨rfl, hbb⟩
    have bSb := bS.below hbb bS.lt
    have bTb := bT.below hbb bT.lt
    obtain ⟨i1, z0, z1, z2, z3, z4, z5, z6, z7, z8, z9, z10, z11⟩ := bSb.dozen
    obtain ⟨i2, u0, u1, u2, u3, u4, u5, u6, u7, u8, u9, u10, u11⟩ := bTb.dozen
    go_wp2_with fail
    refine (HS1.out _ hbb).mono ?_
    rintro e wd ⟨rfl, hbd⟩
    have hbbd := hbb.trans (hbd.mono hbb.size)
    clear z0 z1 z2 z3 z4 z5 z6 z7 z8 z9 z10 z11 u0 u1 u2 u3 u4 u5 u6 u7 u8 u9 u10 u11 i1 i2 bSb bTb HS1 hbd
    have bad := ba.below hbbd ba.lt
    have b0d := b08.below hbbd b08.lt
    obtain ⟨i1, z0, z1, z2, z3, z4, z5, z6, z7, z8, z9, z10, z11⟩ := bad.dozen
    obtain ⟨i2, u0, u1, u2, u3, u4, u5, u6, u7, u8, u9, u10, u11⟩ := b0d.dozen
    go_wp2_with fail
    refine (HS2.out _ hbbd).mono ?_
    rintro e we ⟨rfl, hbe⟩
    have hbbe := hbbd.trans (hbe.mono hbbd.size)
    clear z0 z1 z2 z3 z4 z5 z6 z7 z8 z9 z10 z11 u0 u1 u2 u3 u4 u5 u6 u7 u8 u9 u10 u11 i1 i2 bad b0d HS2 hbe
    have bbe := bb.below hbbe bb.lt
    have b1e := b18.below hbbe b18.lt
    obtain ⟨i1, z0, z1, z2, z3, z4, z5, z6, z7, z8, z9, z10, z11⟩ := bbe.dozen
    obtain ⟨i2, u0, u1, u2, u3, u4, u5, u6, u7, u8, u9, u10, u11⟩ := b1e.dozen
    go_wp2_with fail
    refine (HS3.out _ hbbe).mono ?_
    rintro e wf ⟨rfl, hbf⟩
    go_wp2
    go_ret
    exact ⟨rfl, W8.trans ((hbbe.trans (hbf.mono hbbe.size)).mono W8.size)⟩
theorem rejoins_any (oka : a.r.ok) (okb : b.r.ok) (h1 : Sl HsRel 2 w w.heap.size A1 n1 a.h) (h2 : Sl PnRel 8 w w.heap.size A2 n2 a.p) (h3 : Sl HsRel 2 w w.heap.size A3 n3 b.h) (h4 : Sl PnRel 8 w w.heap.size A4 n4 b.p) (hn1 : n1 ≤ maxLen) (hn2 : n2 ≤ maxLen) (hn3 : n3 ≤ maxLen) (hn4 : n4 ≤ maxLen) :
    Calls Tryz.prog 3 #[.agg (a.arr (.slice A1 n1 c1) (.slice A2 n2 c2)), .agg (b.arr (.slice A3 n3 c3) (.slice A4 n4 c4))] w fun e w' => e = .returned (.bool true) ∧ Below w.heap.size w w' := by
  by_cases ha : weighS 20000 a ≤ 20000
  · by_cases hb : weighS 20000 b ≤ 20000
    · exact rejoins_in oka okb h1 h2 h3 h4 hn1 hn2 hn3 hn4 ha hb
    · exact rejoins_out h1 h2 h3 h4 hn1 hn2 hn3 hn4 (.inr ⟨decide_eq_true ha, decide_eq_false hb⟩)
  · exact rejoins_out h1 h2 h3 h4 hn1 hn2 hn3 hn4 (.inl (decide_eq_false ha))
end
end Go.Proofs.YtipacjbegfingaaGreat
