/- The document's Rejoin where both states may be and meet. -/
import Derived.Test.YtipacjbegfingaaGreatYabb
import Derived.Test.YtipacjbegfingaaGreatYadf
import Derived.Test.YtipacjbegfingaaGreatYadh
namespace Go.Proofs.YtipacjbegfingaaGreat
set_option linter.unusedVariables false
open Go.RowKit Fl
attribute [local go_sem] run_store_float

def KB (Na g Ga : Nat) : Nat → Bool := fun k => decide (Na ≤ k) && decide (k ≠ g) && decide (k ≠ Ga)
theorem KB_iff {Na g Ga k : Nat} : KB Na g Ga k = true ↔ Na ≤ k ∧ k ≠ g ∧ k ≠ Ga := by unfold KB; simp only [Bool.and_eq_true, decide_eq_true_eq, and_assoc]
theorem KB_not {Na g Ga k : Nat} (h : k < Na ∨ k = g ∨ k = Ga) : KB Na g Ga k = false := by
  cases e : KB Na g Ga k
  · rfl
  · rw [KB_iff] at e; omega
def RRejR (l r : Stt) (S1 S2 S3 S4 : Value) (B2 : Option Addr) (bz Na g Ga Gb : Nat) (w wl : World) (i : Value) (wr : World) : Prop :=
  ∃ k : Nat, k ≤ r.p.length ∧ i = .int .i64 (k : Int) ∧ ((r.p.take k).all fun p => l.p.any fun x => alikeP x p) = true ∧ Blk wr (w.heap.size + 1 + 1) 30 zeroCells ∧ Blk wr Ga 30 (l.arr S1 S2) ∧ Blk wr Gb 30 (r.arr S3 S4) ∧ PRow (KB Na g Ga) g B2 wr (stP l.p (r.p.take k)) ∧
    (∀ j, bz ≤ j → j < Na → wr.heap[j]? = wl.heap[j]?) ∧ (∀ j, Ga < j → j < Gb → wr.heap[j]? = wl.heap[j]?) ∧ Below w.heap.size w wr ∧ wl.heap.size ≤ wr.heap.size
def RInn (P : List Pn) (p : Pn) (w0 : World) (z i : Value) (wr : World) : Prop :=
  ∃ k : Nat, k ≤ P.length ∧ i = .int .i64 (k : Int) ∧ ((∀ (j : Nat) (y : Pn), j < k → P[j]? = some y → alikeP y p = false) ∧ z = .int .i64 (-1) ∨ ∃ (j : Nat) (y : Pn), j < k ∧ P[j]? = some y ∧ alikeP y p = true ∧ z = .int .i64 (j : Int)) ∧ Below w0.heap.size w0 wr
theorem inn_no {P : List Pn} {p y : Pn} {z : Value} {k : Nat} (h : (∀ (j : Nat) (y : Pn), j < k → P[j]? = some y → alikeP y p = false) ∧ z = .int .i64 (-1) ∨ ∃ (j : Nat) (y : Pn), j < k ∧ P[j]? = some y ∧ alikeP y p = true ∧ z = .int .i64 (j : Int)) (hy : P[k]? = some y) (hn : alikeP y p = false) :
    (∀ (j : Nat) (y : Pn), j < k + 1 → P[j]? = some y → alikeP y p = false) ∧ z = .int .i64 (-1) ∨ ∃ (j : Nat) (y : Pn), j < k + 1 ∧ P[j]? = some y ∧ alikeP y p = true ∧ z = .int .i64 (j : Int) := by
  rcases h with ⟨h, e⟩ | ⟨j, u, h1, h2⟩
  · refine .inl ⟨fun j u hj hu => ?_, e⟩
    by_cases hjk : j < k
    · exact h j u hjk hu
    · obtain rfl : j = k := by omega
      rw [hy] at hu; injection hu with hu; rw [← hu]; exact hn
  · exact .inr ⟨j, u, by omega, h2⟩
section
variable {l r : Stt} {A1 A2 A3 A4 : Option Addr} {n1 n2 n3 n4 c1 c2 c3 c4 : Nat} {w : World}
set_option maxRecDepth 100000 in
set_option maxHeartbeats 8000000 in
theorem rrejoin_c (hok : l.r.ok) (hok2 : r.r.ok) (h1 : Sl HsRel 2 w w.heap.size A1 n1 l.h) (h2 : Sl PnRel 8 w w.heap.size A2 n2 l.p) (h3 : Sl HsRel 2 w w.heap.size A3 n3 r.h) (h4 : Sl PnRel 8 w w.heap.size A4 n4 r.p) (hH : SmallH l.h) (hQ : SmallP l.p) (hH2 : SmallH r.h) (hQ2 : SmallP r.p) (hm : mayS l = true) (hm2 : mayS r = true) (hgo : l.r.hi = r.r.lo ∧ 1 ≤ l.r.ep ∧ l.r.id ≠ r.r.id) (S : Stt) (E : Int) (hB : ((r.p.all fun p => l.p.any fun x => alikeP x p) = true → S = rejS l r ∧ E = 0) ∧ ((r.p.all fun p => l.p.any fun x => alikeP x p) = false → S = zeroS ∧ E = 14)) :
    Calls Tryz.prog 9 #[.agg (l.arr (.slice A1 n1 c1) (.slice A2 n2 c2)), .agg (r.arr (.slice A3 n3 c3) (.slice A4 n4 c4))] w (RejPost w S E) := by
  have HP := Lib.hid (⟨mayS_pair hm, mayS_pair hm2, hB⟩ : (l.p.Pairwise fun a b => a.t ≠ b.t) ∧ (r.p.Pairwise fun a b => a.t ≠ b.t) ∧ ((r.p.all fun p => l.p.any fun x => alikeP x p) = true → S = rejS l r ∧ E = 0) ∧ ((r.p.all fun p => l.p.any fun x => alikeP x p) = false → S = zeroS ∧ E = 14))
  have HG := Lib.hid hgo
  clear hB hgo
  have hX : Below w.heap.size w (((w.alloc (.cells (l.arr (.slice A1 n1 c1) (.slice A2 n2 c2)) 30)).alloc (.cells (r.arr (.slice A3 n3 c3) (.slice A4 n4 c4)) 30)).alloc (.cells zeroCells 30)) := by go_grown
  have b0 : Blk (((w.alloc (.cells (l.arr (.slice A1 n1 c1) (.slice A2 n2 c2)) 30)).alloc (.cells (r.arr (.slice A3 n3 c3) (.slice A4 n4 c4)) 30)).alloc (.cells zeroCells 30)) w.heap.size 30 (l.arr (.slice A1 n1 c1) (.slice A2 n2 c2)) := ((Blk.new _ _ _).alloc _).alloc _
  have b1 : Blk (((w.alloc (.cells (l.arr (.slice A1 n1 c1) (.slice A2 n2 c2)) 30)).alloc (.cells (r.arr (.slice A3 n3 c3) (.slice A4 n4 c4)) 30)).alloc (.cells zeroCells 30)) (w.heap.size + 1) 30 (r.arr (.slice A3 n3 c3) (.slice A4 n4 c4)) := (Blk.new' _ _ (by simp)).alloc _
  have b2 : Blk (((w.alloc (.cells (l.arr (.slice A1 n1 c1) (.slice A2 n2 c2)) 30)).alloc (.cells (r.arr (.slice A3 n3 c3) (.slice A4 n4 c4)) 30)).alloc (.cells zeroCells 30)) (w.heap.size + 1 + 1) 30 zeroCells := Blk.new' _ _ (by simp)
  have hs1 := fun w' (hb : Below w.heap.size w w') => rstateMay_any l A1 A2 n1 n2 c1 c2 w' hok ((h1.below HsRel.kept hb).more HsRel.kept hb.size) ((h2.below PnRel.kept hb).more PnRel.kept hb.size) hH hQ
  have hs2 := fun w' (hb : Below w.heap.size w w') => rstateMay_any r A3 A4 n3 n4 c3 c4 w' hok2 ((h3.below HsRel.kept hb).more HsRel.kept hb.size) ((h4.below PnRel.kept hb).more PnRel.kept hb.size) hH2 hQ2
  rw [hm] at hs1
  rw [hm2] at hs2
  clear hm hm2
  go_enter Tryz.func9, Tryz.ntmps9
  go_upto_region 1 with fail
  generalize (((w.alloc (.cells (l.arr (.slice A1 n1 c1) (.slice A2 n2 c2)) 30)).alloc (.cells (r.arr (.slice A3 n3 c3) (.slice A4 n4 c4)) 30)).alloc (.cells zeroCells 30)) = W at *
  obtain ⟨g0, z0, z1, z2, z3, z4, z5, z6, z7, z8, z9, z10, z11⟩ := b0.dozen
  go_wp2_with fail
  refine (hs1 _ hX).mono ?_
  rintro e w1 ⟨rfl, hb1⟩
  have b1' := b1.below hb1 b1.lt
  have b2' := b2.below hb1 b2.lt
  have b0' := b0.below hb1 b0.lt
  have hY := hX.trans (hb1.mono hX.size)
  clear z0 z1 z2 z3 z4 z5 z6 z7 z8 z9 z10 z11 g0 b0 b1 b2 hs1
  obtain ⟨g0, z0, z1, z2, z3, z4, z5, z6, z7, z8, z9, z10, z11⟩ := b1'.dozen
  go_wp2_with fail
  refine (hs2 _ hY).mono ?_
  rintro e w2 ⟨rfl, hb2⟩
  have b3' := b2'.below hb2 b2'.lt
  have d0 := b0'.below hb2 b0'.lt
  have d1 := b1'.below hb2 b1'.lt
  have hZ := hY.trans (hb2.mono hY.size)
  clear z0 z1 z2 z3 z4 z5 z6 z7 z8 z9 z10 z11 g0 b0' b1' b2' hs2 hX hY hb1 hb2
  obtain ⟨e, e2, e3⟩ := HG.out
  have hbt := fun w => rbits l.r.hi r.r.lo w
  have q1 : ((l.r.hi : Int) == (r.r.lo : Int)) = true := by simp [e]
  have q2 : decide (l.r.ep < 1) = false := decide_eq_false (by omega)
  have q3 : (l.r.id == r.r.id) = false := by simp [e3]
  have hep : IntKind.i64.wrap (l.r.ep - 1) = l.r.ep - 1 := by have := hok.2.1; unfold i64ok at *; rw [IntKind.wrap_i64]; omega
  have HE := Lib.hid hep
  rw [q1] at hbt
  clear e q1 e2 e3 hep
  obtain ⟨g0, z0, z1, z2, z3, z4, z5, z6, z7, z8, z9, z10, z11⟩ := d0.dozen
  have y0 : w2.cell? ⟨w.heap.size + 1, 0, none⟩ = some (.int .i64 r.r.id) := d1.cell 0
  have y2 : w2.cell? ⟨w.heap.size + 1, 2, none⟩ = some (.float .f64 r.r.lo) := d1.cell 2
  have l1 := d1.lt
  go_upto_region 5 with ((with_reducible refine (hbt _).mono ?_); rintro e w3 ⟨rfl, rfl⟩)
  go_wp2_with fail
  refine (copyS_row l A1 A2 n1 n2 c1 c2 w2 ((h1.below HsRel.kept hZ).more HsRel.kept hZ.size) ((h2.below PnRel.kept hZ).more PnRel.kept hZ.size) hH hQ).mono ?_
  rintro e wa ⟨B1, m1, d1', v4, Na, rfl, hm1, hd1, ha1, ha2, hN1, hN2, hba⟩
  clear z0 z1 z2 z3 z4 z5 z6 z7 z8 z9 z10 z11 g0 y0 y2 l1 hbt q2 q3
  obtain ⟨B2, q2, rfl, hq2, hq2m⟩ := ha2.form1
  obtain ⟨g, hrow, hgb⟩ := PRow.of_pair ha2
  have e0 := d0.below hba d0.lt
  have e1 := d1.below hba d1.lt
  have e4 := b3'.below hba b3'.lt
  have W3 := hZ.trans (hba.mono hZ.size)
  have hbz : w.heap.size + 1 + 1 < w2.heap.size := b3'.lt
  clear d0 d1 b3' hba ha2 hZ
  have hX : Below wa.heap.size wa (wa.alloc (.cells (l.arr (.slice B1 m1 d1') (.slice B2 l.p.length q2)) 30)) := by go_grown
  have bA := Blk.new wa 30 (l.arr (.slice B1 m1 d1') (.slice B2 l.p.length q2))
  go_upto_region 6 with (first
    | (refine wpList_store_new rfl 30 _ _ rfl _ rfl rfl _ _ (by kernel_rfl) (by kernel_rfl) (by kernel_rfl) ?_))
  have hrow1 := hrow.below hX
  have ha3 := (ha1.keep HsRel.kept fun p hp => only_keep (hX.cell hp)).more HsRel.kept hX.size
  have f1 := e1.below hX e1.lt
  have f4 := e4.below hX e4.lt
  have W4 := W3.trans (hX.mono W3.size)
  have hsA : (wa.alloc (.cells (l.arr (.slice B1 m1 d1') (.slice B2 l.p.length q2)) 30)).heap.size = wa.heap.size + 1 := by simp
  generalize (wa.alloc (.cells (l.arr (.slice B1 m1 d1') (.slice B2 l.p.length q2)) 30)) = wA at *
  clear e0 e1 e4 W3 hX ha1 hrow
  have HA := Lib.hid hsA
  have hsA' : wa.heap.size < wA.heap.size := by omega
  clear hsA
  generalize wa.heap.size = Ga at *
  generalize w2.heap.size = bz at *
  obtain ⟨g0, z0, z1, z2, z3, z4, z5, z6, z7, z8, z9, z10, z11⟩ := f1.dozen
  go_wp2_with fail
  refine (copyS_low r A3 A4 n3 n4 c3 c4 wA ((h3.below HsRel.kept W4).more HsRel.kept W4.size) ((h4.below PnRel.kept W4).more PnRel.kept W4.size) hH2 hQ2).mono ?_
  rintro e wb ⟨B3, m3, d3, B4, m4, d4, rfl, hm3, hd3, hb3, hm4, hd4, hb4, hbb⟩
  clear z0 z1 z2 z3 z4 z5 z6 z7 z8 z9 z10 z11 g0
  have hrow2 := hrow1.below hbb
  have ha4 := (ha3.keep HsRel.kept fun p hp => only_keep (hbb.cell hp)).more HsRel.kept hbb.size
  have bA2 := bA.below hbb bA.lt
  have g4 := f4.below hbb f4.lt
  have W5 := W4.trans (hbb.mono W4.size)
  have hsB := hbb.size
  clear hrow1 ha3 bA f1 f4 W4 hbb
  have hX : Below wb.heap.size wb (wb.alloc (.cells (r.arr (.slice B3 m3 d3) (.slice B4 m4 d4)) 30)) := by go_grown
  have bB := Blk.new wb 30 (r.arr (.slice B3 m3 d3) (.slice B4 m4 d4))
  go_upto_region 8 with (first
    | (refine wpList_store_new rfl 30 _ _ rfl _ rfl rfl _ _ (by kernel_rfl) (by kernel_rfl) (by kernel_rfl) ?_))
  have hR := hrow2.below hX
  have hHa := (ha4.keep HsRel.kept fun p hp => only_keep (hX.cell hp)).more HsRel.kept hX.size
  have hHb := (hb3.keep HsRel.kept fun p hp => only_keep (hX.cell hp)).more HsRel.kept hX.size
  have hPb := (hb4.keep PnRel.kept fun p hp => only_keep (hX.cell hp)).more PnRel.kept hX.size
  have bA := bA2.below hX bA2.lt
  have bZ := g4.below hX g4.lt
  have W6 := W5.trans (hX.mono W5.size)
  have hBl := bB.lt
  clear hrow2 ha4 hb3 hb4 bA2 g4 W5 hX
  generalize (wb.alloc (.cells (r.arr (.slice B3 m3 d3) (.slice B4 m4 d4)) 30)) = wl at *
  generalize wb.heap.size = Gb at *
  rw [HA.out] at hHb hPb
  have hGG : Ga < Gb := by omega
  have hHa := Lib.hid hHa
  have hHb := Lib.hid hHb
  have HQ := Lib.hid (⟨hQ, hQ2, hH, hH2⟩ : SmallP l.p ∧ SmallP r.p ∧ SmallH l.h ∧ SmallH r.h)
  have hm4' : m4 ≤ 1000000 := by have := hQ2.1; have := hPb.1; omega
  have hlp : l.p.length ≤ 1000000 := hQ.1
  have HPb := Lib.hid hPb
  have HL4 := Lib.hid hPb.1
  clear h1 h2 h3 h4 hQ hQ2 hH hH2 hok hok2 hPb hsA' hsB HA
  go_loopw [8] (fun i wr => RRejR l r (.slice B1 m1 d1') (.slice B2 l.p.length q2) (.slice B3 m3 d3) (.slice B4 m4 d4) B2 bz Na g Ga Gb w wl i wr) (fun i _ => m4 - (intOf i).toNat)
  case atStart => exact ⟨0, Nat.zero_le _, rfl, rfl, bZ, bA, bB, by rw [List.take_zero, stP_nil]; exact hR, fun _ _ _ => rfl, fun _ _ _ => rfl, W6, Nat.le_refl _⟩
  case round =>
    clear bZ bA bB hR W6
    obtain ⟨k, hk, rfl, hall, bZ, bA, bB, hR, hA1, hA2, W, hS⟩ := hrel
    have HALL := Lib.hid hall
    have HA1 := Lib.hid hA1
    have HA2 := Lib.hid hA2
    clear hall hA1 hA2
    have x11 : wr.cell? ⟨Gb, 11, none⟩ = some (.slice B4 m4 d4) := bB.cell 11
    have l4 := bB.lt
    by_cases hlt : k < m4
    · have hcw := HPb.out.keep PnRel.kept fun p _ => only_same (K := rng (Ga + 1) Gb) (w' := wr) (w := wl) (fun k hk => HA2.out k (by rw [rng_iff] at hk; omega) (rng_iff.1 hk).2) p
      obtain ⟨bd, p, A5, n5, c5, A6, n6, c6, rfl, ha, hbk, hpt, hps, d0, d1, d2, d3, d4', d5, d6, d7, hn5, hc5, hs5, hn6, hc6, hs6⟩ := hcw.pn hlt
      have hbr := rng_iff.1 (only_cell d0).1
      replace hbr : Ga + 1 ≤ (bd.add (k * 8)).block ∧ (bd.add (k * 8)).block < Gb := hbr
      have d0 := (only_cell d0).2
      have d1 := (only_cell d1).2
      have d2 := (only_cell d2).2
      have d3 := (only_cell d3).2
      have d4' := (only_cell d4').2
      have d5 := (only_cell d5).2
      have d6 := (only_cell d6).2
      have d7 := (only_cell d7).2
      have HS6 := Lib.hid hs6
      have hs5 := hs5.mono KyRel.mono fun p u _ h => (only_cell h).2
      have hs6 := hs6.mono WtRel.mono fun p u _ h => (only_cell h).2
      have hbk' : (bd.add (k * 8)).block < wr.heap.size := by omega
      have hd1 : decide ((k : Int) < (m4 : Int)) = true := decide_eq_true (by omega)
      have hk0 : (0 : Int) ≤ (k : Int) := by omega
      have hk1 : (k : Int) < (m4 : Int) := by omega
      have hka := List.getElem?_eq_some_iff.1 ha
      have HPm := Lib.hid (List.mem_of_getElem? ha)
      have HTk := Lib.hid (show r.p.take (k + 1) = r.p.take k ++ [p] by rw [List.take_add_one, ha]; rfl)
      have HNe := Lib.hid (fun y hy => by
        obtain ⟨j, hj⟩ := List.mem_iff_getElem?.1 hy
        have hjk : j < k := by
          have := (List.getElem?_eq_some_iff.1 hj).1
          rw [List.length_take] at this; omega
        rw [List.getElem?_take_of_lt hjk] at hj
        obtain ⟨hj1, hj2⟩ := List.getElem?_eq_some_iff.1 hj
        have := List.pairwise_iff_getElem.1 HP.out.2.1 j k hj1 hka.1 hjk
        rwa [hj2, hka.2] at this : ∀ y ∈ r.p.take k, y.t ≠ p.t)
      have HKr := Lib.hid hka.1
      clear ha hka hcw x11 hpt hps
      obtain ⟨P, hP⟩ : ∃ P, P = stP l.p (r.p.take k) := ⟨_, rfl⟩
      rw [← hP] at hR
      have HPd := Lib.hid hP
      have HPl := Lib.hid (show P.length = l.p.length by rw [hP, stP_len])
      clear hP
      have x11 : wr.cell? ⟨Gb, 11, none⟩ = some (.slice (some bd) m4 d4) := bB.cell 11
      go_upto_region 12 with fail
      obtain ⟨w0, rfl⟩ : ∃ w0, w0 = wr := ⟨_, rfl⟩
      clear x11
      go_loopw [9, 10] (fun z i wr => RInn P p w0 z i wr) (fun _ i _ => l.p.length - (intOf i).toNat)
      case atStart => exact ⟨0, Nat.zero_le _, rfl, .inl ⟨fun j y h _ => absurd h (Nat.not_lt_zero _), rfl⟩, Below.refl _ _⟩
      case round =>
        obtain ⟨k2, hk2, rfl, hz, hbi⟩ := hrel
        have hsi := hbi.size
        by_cases hlt2 : k2 < l.p.length
        · obtain ⟨y, hy⟩ : ∃ y, P[k2]? = some y := ⟨_, List.getElem?_eq_getElem (by have := HPl.out; omega)⟩
          obtain ⟨Ay, ny, cy, Az, nz, cz, hB2, hgl, y0, y1, y2, y3, y4, y5, -, -, -, -, -, -, -, -, -⟩ := (hR.below hbi).get hy
          subst hB2
          have HY := Lib.hid hy
          have HZ := Lib.hid hz
          have HBI := Lib.hid hbi
          have e0 := (hbi.cell (p := (bd.add (k * 8))) (by exact hbk')).trans d0
          have e1 := (hbi.cell (p := ⟨(bd.add (k * 8)).block, (bd.add (k * 8)).off + 1, none⟩) (by exact hbk')).trans d1
          have e2 := (hbi.cell (p := ⟨(bd.add (k * 8)).block, (bd.add (k * 8)).off + 2, none⟩) (by exact hbk')).trans d2
          have e3 := (hbi.cell (p := ⟨(bd.add (k * 8)).block, (bd.add (k * 8)).off + 3, none⟩) (by exact hbk')).trans d3
          have e4 := (hbi.cell (p := ⟨(bd.add (k * 8)).block, (bd.add (k * 8)).off + 4, none⟩) (by exact hbk')).trans d4'
          have e5 := (hbi.cell (p := ⟨(bd.add (k * 8)).block, (bd.add (k * 8)).off + 5, none⟩) (by exact hbk')).trans d5
          have xa : wr.cell? ⟨Ga, 11, none⟩ = some (.slice (some ⟨g, 0, none⟩) l.p.length q2) := (bA.below hbi bA.lt).cell 11
          have xb : wr.cell? ⟨Gb, 11, none⟩ = some (.slice (some bd) m4 d4) := (bB.below hbi bB.lt).cell 11
          have la := (bA.below hbi bA.lt).lt
          have lb := (bB.below hbi bB.lt).lt
          have hbk2 : (bd.add (k * 8)).block < wr.heap.size := by omega
          have hd2 : decide ((k2 : Int) < (l.p.length : Int)) = true := decide_eq_true (by omega)
          have hj0 : (0 : Int) ≤ (k2 : Int) := by omega
          have hj1 : (k2 : Int) < (l.p.length : Int) := by omega
          have HLp := Lib.hid (show k2 + 1 ≤ P.length by have := HPl.out; omega)
          have hr1 := fun w => txn_run y.t p.t w
          have hr2 := fun w => spE_run y.s p.s w
          have HAk := Lib.hid (show alikeP y p = (decide (y.t = p.t) && decide (y.s = p.s)) from rfl)
          clear hy hz hbi d0 d1 d2 d3 d4' d5 d6 d7 bA bB bZ hR hs5 hs6
          generalize decide (y.t = p.t) = u1 at *
          generalize decide (y.s = p.s) = u2 at *
          cases u1 <;> cases u2
          all_goals
            go_wp2_with fail
            go_quiet (fail)
            have hb' := HBI.out.trans ((⟨rfl, rfl, rfl, Nat.le_refl _, fun _ _ => rfl⟩ : Below wr.heap.size wr (wr.drewN nq)).mono hsi)
            clear e0 e1 e2 e3 e4 e5 y0 y1 y2 y3 y4 y5 xa xb
            generalize wr.drewN nq = wq at *
            go_wp2
            go_roundw
            case rel =>
              first
                | exact ⟨k2 + 1, HLp.out, by go_num, inn_no HZ.out HY.out (HAk.out.trans rfl), hb'⟩
                | exact ⟨k2 + 1, HLp.out, by go_num, .inr ⟨k2, y, Nat.lt_succ_self _, HY.out, HAk.out.trans rfl, rfl⟩, hb'⟩
            case measure => simp [intOf]; omega
        · have hd2 : decide ((k2 : Int) < (l.p.length : Int)) = false := decide_eq_false (by omega)
          have f0 := (hbi.cell (p := (bd.add (k * 8))) (by exact hbk')).trans d0
          have f6 := (hbi.cell (p := ⟨(bd.add (k * 8)).block, (bd.add (k * 8)).off + 6, none⟩) (by exact hbk')).trans d6
          have f7 := (hbi.cell (p := ⟨(bd.add (k * 8)).block, (bd.add (k * 8)).off + 7, none⟩) (by exact hbk')).trans d7
          replace bZ := bZ.below hbi bZ.lt
          replace bA := bA.below hbi bA.lt
          replace bB := bB.below hbi bB.lt
          replace hR := hR.below hbi
          replace W := W.trans (hbi.mono W.size)
          have HA1 := Lib.hid (fun j h5 h6 => (hbi.block j (by omega)).trans (HA1.out j h5 h6) : ∀ j, bz ≤ j → j < Na → wr.heap[j]? = wl.heap[j]?)
          have HA2 := Lib.hid (fun j h5 h6 => (hbi.block j (by omega)).trans (HA2.out j h5 h6) : ∀ j, Ga < j → j < Gb → wr.heap[j]? = wl.heap[j]?)
          have HS0 := Lib.hid hS
          replace hS : wl.heap.size ≤ wr.heap.size := by omega
          have xa := bA.cell 11
          simp only [List.getElem?_toArray, List.getElem?_cons_succ, List.getElem?_cons_zero] at xa
          have la := bA.lt
          clear d0 d1 d2 d3 d4' d5 d6 d7 f0
          rcases hz with ⟨hno, rfl⟩ | ⟨j, y, hjk, hy, hal, rfl⟩
          · have hfl : (r.p.all fun p => l.p.any fun x => alikeP x p) = false := by
              cases e : r.p.all fun p => l.p.any fun x => alikeP x p
              · rfl
              · obtain ⟨x, hx, hax⟩ := List.any_eq_true.1 (List.all_eq_true.1 e p HPm.out)
                obtain ⟨j, hj⟩ := List.mem_iff_getElem?.1 hx
                have hjl := (List.getElem?_eq_some_iff.1 hj).1
                have hPj : P[j]? = some (joinP x ((r.p.take k).find? fun q => decide (q.t = x.t))) := by rw [HPd.out]; unfold stP; rw [List.getElem?_map, hj]; rfl
                have h9 := hno j _ (by omega) hPj
                rw [alikeP_ts (joinP_ts _ _).1 (joinP_ts _ _).2, hax] at h9
                cases h9
            have HSE := Lib.hid (HP.out.2.2.2 hfl)
            clear hfl hno
            have hbZ := W.size
            go_wp2_with (first
              | (guard_target =~ wpList _ _ _ _ _ _; refine wpList_store_row rfl 30 _ _ rfl (w.heap.size + 1 + 1) zeroCells (by kernel_rfl) (by kernel_rfl) _ _ bZ (by kernel_rfl) (by kernel_rfl) (by kernel_rfl) ?_))
            (try simp only [Exit.inBlock, Exit.then])
            refine post_cell_tmp rfl (by rfl) (bZ.setRow zeroCells) rfl rfl (by kernel_rfl) ?_
            rw [HSE.out.1, HSE.out.2]
            exact RejPost.zero (below_setRow W (by omega) _)
          · obtain ⟨wi, rfl⟩ : ∃ wi, wi = wr := ⟨_, rfl⟩
            have hjl : j < l.p.length := by have := (List.getElem?_eq_some_iff.1 hy).1; have := HPl.out; omega
            obtain ⟨hNg, hgG⟩ := hgb (by omega)
            obtain ⟨x, hx, hxt, hxs⟩ := stP_get (l := l.p) (m := r.p.take k) (i := j) (y := y) (by rw [← HPd.out]; exact hy)
            have hax : alikeP x p = true := by rw [← alikeP_ts hxt hxs]; exact hal
            obtain ⟨i1, i2⟩ := stP_snoc HP.out.1 HNe.out hx hax
            obtain rfl : y = x := by rw [← HPd.out, hy] at i1; injection i1
            have HI := Lib.hid (show stP l.p (r.p.take (k + 1)) = P.set j ⟨y.t, y.s, mergeL id y.r p.r, mergeL Wt.key y.w p.w⟩ by rw [HTk.out, i2, ← HPd.out])
            have hym := List.mem_of_getElem? hx
            have hyq := HQ.out.1.2 y hym
            have hyw := hyq.2
            have hpq := HQ.out.2.1.2 p HPm.out
            have HAny := Lib.hid (show (l.p.any fun x => alikeP x p) = true from List.any_eq_true.2 ⟨y, hym, hax⟩)
            have hd5 : decide ((j : Int) < 0) = false := by simp
            have hj0 : (0 : Int) ≤ (j : Int) := by omega
            have hj1 : (j : Int) < (l.p.length : Int) := by omega
            clear i1 i2 hx hxt hxs hax hym hal
            have hyj := hy
            obtain ⟨Ay, ny, cy, Az, nz, cz, hB2, lg, -, -, -, -, -, -, yo, yw, -, -, -, -, -, ky, kw⟩ := hR.get hyj
            subst hB2
            have xa : wi.cell? ⟨Ga, 11, none⟩ = some (.slice (some ⟨g, 0, none⟩) l.p.length q2) := bA.cell 11
            have xb : wi.cell? ⟨Gb, 11, none⟩ = some (.slice (some bd) m4 d4) := bB.cell 11
            have la := bA.lt
            have lb := bB.lt
            have lp : (bd.add (k * 8)).block < wi.heap.size := by omega
            have xp : wi.cell? ⟨(bd.add (k * 8)).block, (bd.add (k * 8)).off + 6, none⟩ = some (.slice A5 n5 c5) := f6
            have ky := ky.mono KyRel.mono fun p u _ h => (only_cell h).2
            have kp := (hs5.keep KyRel.kept fun p hp => hbi.cell (by have := HS0.out; omega)).more KyRel.kept (show wl.heap.size ≤ wi.heap.size by omega)
            have hny : ny ≤ 1000000 := by have := ky.1; omega
            have hn5' : n5 ≤ 1000000 := by have := hs5.1; omega
            have hn6' : n6 ≤ 1000000 := by have := hs6.1; omega
            have F7 := Lib.hid f7
            have HBI := Lib.hid hbi
            have HSA := Lib.hid hS
            clear hs5 hs6 f6 f7 kw yw hyq
            go_upto_region 18 with fail
            have s0 : Below wi.heap.size wi wi.drew := (Below.refl _ _).drew
            have hT := rmerge_s Ay A5 ny n5 cy c5 y.r p.r wi.drew (ky.below KyRel.kept s0) (kp.below KyRel.kept s0) (by omega) (by omega)
            have KM := Lib.hid (fun u hu => by
              rcases (merge_mem _ _ _ (Nat.le_refl _) u).1 hu with h | h
              · exact Sl.all_ok ky u h
              · exact Sl.all_ok kp u h : ∀ u ∈ mergeL id y.r p.r, u.size ≤ 140737488351232)
            generalize hM : mergeL id y.r p.r = M1 at *
            have HM1 := Lib.hid hM
            clear hM ky kp
            refine wp_region_held_drew (S := fun w' => w'.cell? ⟨Ga, 11, none⟩ = some (.slice (some ⟨g, 0, none⟩) l.p.length q2) ∧ w'.cell? ⟨Gb, 11, none⟩ = some (.slice (some bd) m4 d4) ∧ w'.cell? ⟨(bd.add (k * 8)).block, (bd.add (k * 8)).off + 6, none⟩ = some (.slice A5 n5 c5)) (by kernel_rfl) ⟨xa, xb, xp⟩ (fun hHeld => ?_)
            refine t0 0 94 ?_
            go_frame
            refine t0 1 95 ?_
            go_frame
            refine t0 2 96 ?_
            go_frame
            refine t0 3 97 ?_
            go_frame
            refine t0 4 98 ?_
            go_frame
            refine t0 5 99 ?_
            go_frame
            refine t0 6 100 ?_
            go_frame
            refine t0 7 101 ?_
            go_frame
            refine t0 9 103 ?_
            go_frame
            refine t0 10 104 ?_
            go_frame
            refine t0 11 105 ?_
            go_frame
            refine t0 12 106 ?_
            go_frame
            refine t0 13 107 ?_
            go_frame
            refine t0 14 108 ?_
            go_frame
            have yy : wi.drew.cell? ⟨g, j * 8 + 6, none⟩ = some (.slice Ay ny cy) := yo
            refine wpAnyH_ready (rs := [8]) (by kernel_rfl) (by simp) (AllReadyH.cons (o := ⟨some 102, _, _, _, _, _⟩) rfl (fun K hK => ?_) AllReadyH.nil)
            go_simp
            refine hK.out _ _ hHeld (fun hHeld => ?_)
            clear hK K
            try go_frame
            clear yy
            refine wpAnyH_ready (rs := [15]) (by kernel_rfl) (by simp) (AllReadyH.cons (o := ⟨some 109, _, _, _, _, _⟩) rfl (fun K hK => ?_) AllReadyH.nil)
            go_simp
            (with_reducible refine hT.mono ?_)
            rintro e w5 ⟨v5, rfl, o5, hb5⟩
            obtain ⟨D5, e5, rfl, he5, he5m⟩ := o5.form
            have s5 := s0.trans (hb5.mono (Nat.le_refl _))
            clear hT hb5 he5 he5m
            refine hK.out _ _ ⟨(s5.cell (by exact la)).trans xa, (s5.cell (by exact lb)).trans xb, (s5.cell (by exact lp)).trans xp⟩ (fun hHeld => ?_)
            clear hK K
            try go_frame
            refine t0 16 110 ?_
            go_frame
            refine t0 17 111 ?_
            go_frame
            have yy : w5.cell? ⟨g, j * 8 + 6, none⟩ = some (.slice Ay ny cy) := (s5.cell (by exact lg)).trans yo
            have ff : w5.frozen? ⟨g, j * 8 + 6, none⟩ = false := by
              obtain ⟨_, _, _, _, _, _, _, _, _, _, _, _, _, _, _, _, hf, _⟩ := (hR.below s5).get hyj
              exact hf _
            refine wpAnyH_ready (rs := [18]) (by kernel_rfl) (by simp) (AllReadyH.cons (o := ⟨none, _, _, _, _, _⟩) rfl (fun K hK => ?_) AllReadyH.nil)
            go_simp
            refine hK.out _ _ ⟨(World.cell?_of_block (Below.heap_setCell _ _ _ _ (by show Ga ≠ g; omega))).trans ((s5.cell (by exact la)).trans xa), (World.cell?_of_block (Below.heap_setCell _ _ _ _ (by show Gb ≠ g; omega))).trans ((s5.cell (by exact lb)).trans xb), (World.cell?_of_block (Below.heap_setCell _ _ _ _ (by show (bd.add (k * 8)).block ≠ g; omega))).trans ((s5.cell (by exact lp)).trans xp)⟩ (fun hHeld => ?_)
            clear hK K
            try go_frame
            refine wpAnyH_done (by kernel_rfl) ?_ _
            have hz5 : wi.heap.size ≤ w5.heap.size := s5.size
            have hv5 := OwnL.inn (K := KB Na g Ga) (by omega) ky_len o5 KM.out (fun q h5 h6 => KB_iff.2 (by have : wi.heap.size ≤ q := h5; omega))
            have R1 := (hR.below s5).turn (a' := ⟨y.t, y.s, M1, y.w⟩) (v := .slice D5 M1.length e5) (o := 6) hyj (by omega) rfl rfl (fun h => ⟨rfl, hv5⟩) (fun h => absurd h (by omega))
            have bZ1 := (bZ.below s5 bZ.lt).far (p := ⟨g, j * 8 + 6, none⟩) (by show w.heap.size + 1 + 1 ≠ g; omega) (.slice D5 M1.length e5)
            have bA1 := (bA.below s5 bA.lt).far (p := ⟨g, j * 8 + 6, none⟩) (by show Ga ≠ g; omega) (.slice D5 M1.length e5)
            have bB1 := (bB.below s5 bB.lt).far (p := ⟨g, j * 8 + 6, none⟩) (by show Gb ≠ g; omega) (.slice D5 M1.length e5)
            have W1 := (W.trans (s5.mono W.size)).setCell (p := ⟨g, j * 8 + 6, none⟩) (by show w.heap.size ≤ g; omega) (.slice D5 M1.length e5)
            have hsz1 : (w5.setCell ⟨g, j * 8 + 6, none⟩ (.slice D5 M1.length e5)).heap.size = w5.heap.size := by simp [World.setCell]
            have hk1 : ∀ q, q < wi.heap.size → q ≠ g → (w5.setCell ⟨g, j * 8 + 6, none⟩ (.slice D5 M1.length e5)).heap[q]? = wi.heap[q]? := fun q h5 h6 => (Below.heap_setCell _ _ _ _ (by exact h6)).trans (s5.block q h5)
            have HK1 := Lib.hid hk1
            have hS1 : wl.heap.size ≤ (w5.setCell ⟨g, j * 8 + 6, none⟩ (.slice D5 M1.length e5)).heap.size := by omega
            have lp1 : (bd.add (k * 8)).block < (w5.setCell ⟨g, j * 8 + 6, none⟩ (.slice D5 M1.length e5)).heap.size := by omega
            clear hk1 hsz1 hv5 s5 o5 hz5 KM yo yy ff xa xb xp s0 hHeld bZ bA bB W hS la lb lp lg hR
            generalize (w5.setCell ⟨g, j * 8 + 6, none⟩ (.slice D5 M1.length e5)) = w18 at *
            go_upto_region 19 with fail
            have hyj1 : (P.set j ⟨y.t, y.s, M1, y.w⟩)[j]? = some ⟨y.t, y.s, M1, y.w⟩ := List.getElem?_set_self (by have := HPl.out; omega)
            obtain ⟨Az, nz, cz, Ay, ny, cy, -, lg, -, -, -, -, -, -, -, yo, -, -, -, -, -, -, ky⟩ := R1.get hyj1
            have xa : w18.cell? ⟨Ga, 11, none⟩ = some (.slice (some ⟨g, 0, none⟩) l.p.length q2) := bA1.cell 11
            have xb : w18.cell? ⟨Gb, 11, none⟩ = some (.slice (some bd) m4 d4) := bB1.cell 11
            have la := bA1.lt
            have lb := bB1.lt
            have lp := lp1
            have xp : w18.cell? ⟨(bd.add (k * 8)).block, (bd.add (k * 8)).off + 7, none⟩ = some (.slice A6 n6 c6) := (show w18.cell? ⟨(bd.add (k * 8)).block, (bd.add (k * 8)).off + 7, none⟩ = wi.cell? ⟨(bd.add (k * 8)).block, (bd.add (k * 8)).off + 7, none⟩ from World.cell?_of_block (HK1.out (bd.add (k * 8)).block (by omega) (by omega))).trans F7.out
            have ky := ky.mono WtRel.mono fun p u _ h => (only_cell h).2
            have kp := ((HS6.out.keep WtRel.kept fun p _ => only_same (K := rng (Ga + 1) Gb) (w' := w18) (w := w0) (fun q hq => by rw [rng_iff] at hq; exact (HK1.out q (by omega) (by omega)).trans (HBI.out.block q (by have := HS0.out; omega))) p).mono WtRel.mono fun p u _ h => (only_cell h).2).more WtRel.kept (show wl.heap.size ≤ w18.heap.size from hS1)
            have hny : ny ≤ 1000000 := by have h5 : y.w.length = ny := ky.1; have := hyw; omega
            have bZ := bZ1
            have bA := bA1
            have bB := bB1
            have W := W1
            have hS := hS1
            have HSB := Lib.hid hS1
            clear bZ1 bA1 bB1 W1 hS1 lp1
            have s0 : Below w18.heap.size w18 w18.drew := (Below.refl _ _).drew
            have hT := rmerge_w Ay A6 ny n6 cy c6 y.w p.w w18.drew (ky.below WtRel.kept s0) (kp.below WtRel.kept s0) (by omega) (by omega)
            have KM := Lib.hid (fun u hu => by
              rcases (merge_mem _ _ _ (Nat.le_refl _) u).1 hu with h | h
              · exact Sl.all_ok ky u h
              · exact Sl.all_ok kp u h : ∀ u ∈ mergeL Wt.key y.w p.w, Wt.ok u)
            generalize hM : mergeL Wt.key y.w p.w = M2 at *
            have HM2 := Lib.hid hM
            clear hM ky kp
            refine wp_region_held_drew (S := fun w' => w'.cell? ⟨Ga, 11, none⟩ = some (.slice (some ⟨g, 0, none⟩) l.p.length q2) ∧ w'.cell? ⟨Gb, 11, none⟩ = some (.slice (some bd) m4 d4) ∧ w'.cell? ⟨(bd.add (k * 8)).block, (bd.add (k * 8)).off + 7, none⟩ = some (.slice A6 n6 c6)) (by kernel_rfl) ⟨xa, xb, xp⟩ (fun hHeld => ?_)
            refine t0 0 112 ?_
            go_frame
            refine t0 1 113 ?_
            go_frame
            refine t0 2 114 ?_
            go_frame
            refine t0 3 115 ?_
            go_frame
            refine t0 4 116 ?_
            go_frame
            refine t0 5 117 ?_
            go_frame
            refine t0 6 118 ?_
            go_frame
            refine t0 7 119 ?_
            go_frame
            refine t0 9 121 ?_
            go_frame
            refine t0 10 122 ?_
            go_frame
            refine t0 11 123 ?_
            go_frame
            refine t0 12 124 ?_
            go_frame
            refine t0 13 125 ?_
            go_frame
            refine t0 14 126 ?_
            go_frame
            have yy : w18.drew.cell? ⟨g, j * 8 + 7, none⟩ = some (.slice Ay ny cy) := yo
            refine wpAnyH_ready (rs := [8]) (by kernel_rfl) (by simp) (AllReadyH.cons (o := ⟨some 120, _, _, _, _, _⟩) rfl (fun K hK => ?_) AllReadyH.nil)
            go_simp
            refine hK.out _ _ hHeld (fun hHeld => ?_)
            clear hK K
            try go_frame
            clear yy
            refine wpAnyH_ready (rs := [15]) (by kernel_rfl) (by simp) (AllReadyH.cons (o := ⟨some 127, _, _, _, _, _⟩) rfl (fun K hK => ?_) AllReadyH.nil)
            go_simp
            (with_reducible refine hT.mono ?_)
            rintro e w5 ⟨v5, rfl, o5, hb5⟩
            obtain ⟨D5, e5, rfl, he5, he5m⟩ := o5.form
            have s5 := s0.trans (hb5.mono (Nat.le_refl _))
            clear hT hb5 he5 he5m
            refine hK.out _ _ ⟨(s5.cell (by exact la)).trans xa, (s5.cell (by exact lb)).trans xb, (s5.cell (by exact lp)).trans xp⟩ (fun hHeld => ?_)
            clear hK K
            try go_frame
            refine t0 16 128 ?_
            go_frame
            refine t0 17 129 ?_
            go_frame
            have yy : w5.cell? ⟨g, j * 8 + 7, none⟩ = some (.slice Ay ny cy) := (s5.cell (by exact lg)).trans yo
            have ff : w5.frozen? ⟨g, j * 8 + 7, none⟩ = false := by
              obtain ⟨_, _, _, _, _, _, _, _, _, _, _, _, _, _, _, _, hf, _⟩ := (R1.below s5).get hyj1
              exact hf _
            refine wpAnyH_ready (rs := [18]) (by kernel_rfl) (by simp) (AllReadyH.cons (o := ⟨none, _, _, _, _, _⟩) rfl (fun K hK => ?_) AllReadyH.nil)
            go_simp
            refine hK.out _ _ ⟨(World.cell?_of_block (Below.heap_setCell _ _ _ _ (by show Ga ≠ g; omega))).trans ((s5.cell (by exact la)).trans xa), (World.cell?_of_block (Below.heap_setCell _ _ _ _ (by show Gb ≠ g; omega))).trans ((s5.cell (by exact lb)).trans xb), (World.cell?_of_block (Below.heap_setCell _ _ _ _ (by show (bd.add (k * 8)).block ≠ g; omega))).trans ((s5.cell (by exact lp)).trans xp)⟩ (fun hHeld => ?_)
            clear hK K
            try go_frame
            refine wpAnyH_done (by kernel_rfl) ?_ _
            have hz5 : w18.heap.size ≤ w5.heap.size := s5.size
            have hv5 := OwnL.inn (K := KB Na g Ga) (by omega) wt_len o5 KM.out (fun q h5 h6 => KB_iff.2 (by have : w18.heap.size ≤ q := h5; omega))
            have R2 := (R1.below s5).turn (a' := ⟨y.t, y.s, M1, M2⟩) (v := .slice D5 M2.length e5) (o := 7) hyj1 (by omega) rfl rfl (fun h => absurd h (by omega)) (fun h => ⟨rfl, hv5⟩)
            have bZ2 := (bZ.below s5 bZ.lt).far (p := ⟨g, j * 8 + 7, none⟩) (by show w.heap.size + 1 + 1 ≠ g; omega) (.slice D5 M2.length e5)
            have bA2 := (bA.below s5 bA.lt).far (p := ⟨g, j * 8 + 7, none⟩) (by show Ga ≠ g; omega) (.slice D5 M2.length e5)
            have bB2 := (bB.below s5 bB.lt).far (p := ⟨g, j * 8 + 7, none⟩) (by show Gb ≠ g; omega) (.slice D5 M2.length e5)
            have W2 := (W.trans (s5.mono W.size)).setCell (p := ⟨g, j * 8 + 7, none⟩) (by show w.heap.size ≤ g; omega) (.slice D5 M2.length e5)
            have hsz2 : (w5.setCell ⟨g, j * 8 + 7, none⟩ (.slice D5 M2.length e5)).heap.size = w5.heap.size := by simp [World.setCell]
            have hk2 : ∀ q, q < w18.heap.size → q ≠ g → (w5.setCell ⟨g, j * 8 + 7, none⟩ (.slice D5 M2.length e5)).heap[q]? = w18.heap[q]? := fun q h5 h6 => (Below.heap_setCell _ _ _ _ (by exact h6)).trans (s5.block q h5)
            have HK2 := Lib.hid hk2
            have hS2 : wl.heap.size ≤ (w5.setCell ⟨g, j * 8 + 7, none⟩ (.slice D5 M2.length e5)).heap.size := by omega
            have lp2 : (bd.add (k * 8)).block < (w5.setCell ⟨g, j * 8 + 7, none⟩ (.slice D5 M2.length e5)).heap.size := by omega
            clear hk2 hsz2 hv5 s5 o5 hz5 KM yo yy ff xa xb xp s0 hHeld bZ bA bB W hS la lb lp lg R1
            generalize (w5.setCell ⟨g, j * 8 + 7, none⟩ (.slice D5 M2.length e5)) = w19 at *
            have HS2 := Lib.hid hS2

            go_wp2
            go_roundw
            case rel =>
              refine ⟨k + 1, HKr.out, by go_num, ?_, bZ2, bA2, bB2, ?_, fun q h5 h6 => ?_, fun q h5 h6 => ?_, W2, hS2⟩
              · rw [HTk.out, List.all_append, HALL.out]; simp [HAny.out]
              · rw [HI.out, ← set_set_pn (a := ⟨y.t, y.s, M1, y.w⟩)]
                exact R2
              · exact (HK2.out q (by have := HSB.out; omega) (by omega)).trans ((HK1.out q (by have := HSA.out; omega) (by omega)).trans (HA1.out q h5 h6))
              · exact (HK2.out q (by have := HSB.out; omega) (by omega)).trans ((HK1.out q (by have := HSA.out; omega) (by omega)).trans (HA2.out q h5 h6))
            case measure => simp [intOf]; omega
    · have hd1 : decide ((k : Int) < (m4 : Int)) = false := decide_eq_false (by omega)
      have hkn : r.p.take k = r.p := List.take_of_length_le (by have := HL4.out; omega)
      have hall := HALL.out
      rw [hkn] at hR hall
      have HSE := Lib.hid (HP.out.2.2.1 hall)
      clear hkn hall
      have xa : wr.cell? ⟨Ga, 10, none⟩ = some (.slice B1 m1 d1') := bA.cell 10
      have xb : wr.cell? ⟨Gb, 10, none⟩ = some (.slice B3 m3 d3) := bB.cell 10
      have la := bA.lt
      have lb := bB.lt
      have kA := ((hHa.out.keep HsRel.kept fun p _ => only_same (K := rng bz Na) (w' := wr) (w := wl) (fun q hq => HA1.out q (rng_iff.1 hq).1 (rng_iff.1 hq).2) p).more HsRel.kept hS).wide (K' := fun q => rng bz Na q || rng (Ga + 1) Gb q) HsRel.mono fun q hq => by simp [hq]
      have kB := ((hHb.out.keep HsRel.kept fun p _ => only_same (K := rng (Ga + 1) Gb) (w' := wr) (w := wl) (fun q hq => HA2.out q (by rw [rng_iff] at hq; omega) (rng_iff.1 hq).2) p).more HsRel.kept hS).wide (K' := fun q => rng bz Na q || rng (Ga + 1) Gb q) HsRel.mono fun q hq => by simp [hq]
      have hH := rmergeH_low (fun q => rng bz Na q || rng (Ga + 1) Gb q) B1 B3 m1 m3 d1' d3 l.h r.h wr (fun q hq => by rw [Bool.or_eq_true, rng_iff, rng_iff] at hq; omega) kA kB (by have := kA.1; have := HQ.out.2.2.1.1; omega) (by have := kB.1; have := HQ.out.2.2.2.1; omega)
      clear kA kB
      go_wp2_with fail
      refine hH.mono ?_
      rintro e w5 ⟨v5, rfl, o5, hb5⟩
      obtain ⟨Av, nv, cv, rfl, hnv, hcv, hsv⟩ := o5
      have hv0 : HdRel HsRel 2 (only (orB (fun q => rng bz Na q || rng (Ga + 1) Gb q) wr.heap.size) w5) w5.heap.size (.slice Av nv cv) (mergeL Hs.key l.h r.h) := ⟨Av, nv, cv, rfl, hnv, hcv, hsv⟩
      have HV := Lib.hid hv0
      have KV := Lib.hid (fun q hq => by
        unfold orB at hq
        simp only [Bool.or_eq_true, rng_iff, decide_eq_true_eq] at hq
        omega : ∀ q, orB (fun q => rng bz Na q || rng (Ga + 1) Gb q) wr.heap.size q = true → q ≠ Ga ∧ q ≠ w.heap.size + 1 + 1)
      have bA5 := bA.below hb5 la
      have bB5 := bB.below hb5 lb
      have bZ5 := bZ.below hb5 bZ.lt
      have R5 := hR.below hb5
      have W5 := W.trans (hb5.mono W.size)
      have HGg := Lib.hid (fun h0 e => by have := hgb (by rw [stP_len] at h0; exact h0); omega : 0 < (stP l.p r.p).length → Ga ≠ g)
      have HZg := Lib.hid (fun h0 e => by have := hgb (by rw [stP_len] at h0; exact h0); omega : 0 < (stP l.p r.p).length → w.heap.size + 1 + 1 ≠ g)
      have kGa := KB_not (Na := Na) (g := g) (Ga := Ga) (k := Ga) (.inr (.inr rfl))
      have kZ := KB_not (Na := Na) (g := g) (Ga := Ga) (k := w.heap.size + 1 + 1) (.inl (by omega))
      have y10 : w5.cell? ⟨Ga, 10, none⟩ = some (.slice B1 m1 d1') := bA5.cell 10
      have f10 := bA5.frozen 10
      have l5 := bA5.lt
      have lg1 : w.heap.size + 1 + 1 < Ga := by omega
      have lg2 : w.heap.size ≤ Ga := by omega
      clear xa xb la lb hH hsv hnv hcv hv0 bA bB bZ hR W hb5 hS
      go_upto_region 21 with fail
      have bA6 : Blk (w5.setCell ⟨Ga, 10, none⟩ (.slice Av nv cv)) Ga 30 (l.arr (.slice Av nv cv) (.slice B2 l.p.length q2)) := bA5.set_ 10 _
      have bB6 := bB5.far (p := ⟨Ga, 10, none⟩) (by show Gb ≠ Ga; omega) (.slice Av nv cv)
      have bZ6 := bZ5.far (p := ⟨Ga, 10, none⟩) (by show w.heap.size + 1 + 1 ≠ Ga; omega) (.slice Av nv cv)
      have R6 := R5.other (b := Ga) (o := 10) HGg.out kGa (.slice Av nv cv)
      have W6' := W5.setCell (p := ⟨Ga, 10, none⟩) lg2 (.slice Av nv cv)
      have H6 := Lib.hid (HV.out.stay (w' := w5.setCell ⟨Ga, 10, none⟩ (.slice Av nv cv)) HsRel.kept fun q hq => Below.heap_setCell _ _ _ _ (KV.out q hq).1)
      have s6 : (w5.setCell ⟨Ga, 10, none⟩ (.slice Av nv cv)).heap.size = w5.heap.size := by simp [World.setCell]
      have S6 := Lib.hid s6
      clear bA5 bB5 bZ5 R5 W5 y10 f10 l5 s6
      generalize (w5.setCell ⟨Ga, 10, none⟩ (.slice Av nv cv)) = w6 at *
      have y1 : w6.cell? ⟨Ga, 1, none⟩ = some (.int .i64 l.r.ep) := bA6.cell 1
      have f1 := bA6.frozen 1
      have l6 := bA6.lt
      have hep := HE.out
      go_upto_region 22 with fail
      have bA7 : Blk (w6.setCell ⟨Ga, 1, none⟩ (.int .i64 (l.r.ep - 1))) Ga 30 (stArr ⟨l.r.id, l.r.ep - 1, l.r.lo, l.r.hi⟩ l.f l.c (.slice Av nv cv) (.slice B2 l.p.length q2)) := bA6.set_ 1 _
      have bB7 := bB6.far (p := ⟨Ga, 1, none⟩) (by show Gb ≠ Ga; omega) (.int .i64 (l.r.ep - 1))
      have bZ7 := bZ6.far (p := ⟨Ga, 1, none⟩) (by show w.heap.size + 1 + 1 ≠ Ga; omega) (.int .i64 (l.r.ep - 1))
      have R7 := R6.other (b := Ga) (o := 1) HGg.out kGa (.int .i64 (l.r.ep - 1))
      have W7' := W6'.setCell (p := ⟨Ga, 1, none⟩) lg2 (.int .i64 (l.r.ep - 1))
      have H7 := Lib.hid (H6.out.stay (w' := w6.setCell ⟨Ga, 1, none⟩ (.int .i64 (l.r.ep - 1))) HsRel.kept fun q hq => Below.heap_setCell _ _ _ _ (KV.out q hq).1)
      have s7 : (w6.setCell ⟨Ga, 1, none⟩ (.int .i64 (l.r.ep - 1))).heap.size = w6.heap.size := by simp [World.setCell]
      have S7 := Lib.hid (s7.trans S6.out)
      clear bA6 bB6 bZ6 R6 W6' y1 f1 l6 s7 hep
      generalize (w6.setCell ⟨Ga, 1, none⟩ (.int .i64 (l.r.ep - 1))) = w7 at *
      have y3 : w7.cell? ⟨Gb, 3, none⟩ = some (.float .f64 r.r.hi) := bB7.cell 3
      have y3' : w7.cell? ⟨Ga, 3, none⟩ = some (.float .f64 l.r.hi) := bA7.cell 3
      have f3 := bA7.frozen 3
      have l7 := bA7.lt
      have l7' := bB7.lt
      go_upto_region 23 with fail
      have bA8 : Blk (w7.setCell ⟨Ga, 3, none⟩ (.float .f64 r.r.hi)) Ga 30 (stArr ⟨l.r.id, l.r.ep - 1, l.r.lo, r.r.hi⟩ l.f l.c (.slice Av nv cv) (.slice B2 l.p.length q2)) := bA7.set_ 3 _
      have bZ8 := bZ7.far (p := ⟨Ga, 3, none⟩) (by show w.heap.size + 1 + 1 ≠ Ga; omega) (.float .f64 r.r.hi)
      have R8 := R7.other (b := Ga) (o := 3) HGg.out kGa (.float .f64 r.r.hi)
      have W8' := W7'.setCell (p := ⟨Ga, 3, none⟩) lg2 (.float .f64 r.r.hi)
      have H8 := Lib.hid (H7.out.stay (w' := w7.setCell ⟨Ga, 3, none⟩ (.float .f64 r.r.hi)) HsRel.kept fun q hq => Below.heap_setCell _ _ _ _ (KV.out q hq).1)
      have s8 : (w7.setCell ⟨Ga, 3, none⟩ (.float .f64 r.r.hi)).heap.size = w7.heap.size := by simp [World.setCell]
      have S8 := Lib.hid (s8.trans S7.out)
      clear bA7 bB7 bZ7 R7 W7' y3 y3' f3 l7 l7' s8
      generalize (w7.setCell ⟨Ga, 3, none⟩ (.float .f64 r.r.hi)) = w8 at *
      obtain ⟨g0, z0, z1, z2, z3, z4, z5, z6, z7, z8, z9, z10, z11⟩ := bA8.dozen
      go_wp2_with (first
        | (guard_target =~ wpList _ _ _ _ _ _; refine wpList_store_row rfl 30 _ _ rfl (w.heap.size + 1 + 1) (stArr ⟨l.r.id, l.r.ep - 1, l.r.lo, r.r.hi⟩ l.f l.c (.slice Av nv cv) (.slice B2 l.p.length q2)) (by kernel_rfl) (by kernel_rfl) _ _ bZ8 (by kernel_rfl) (by kernel_rfl) (by kernel_rfl) ?_))
      (try simp only [Exit.inBlock, Exit.then])
      refine post_cell_tmp rfl (by rfl) (bZ8.setRow (stArr ⟨l.r.id, l.r.ep - 1, l.r.lo, r.r.hi⟩ l.f l.c (.slice Av nv cv) (.slice B2 l.p.length q2))) rfl rfl (by kernel_rfl) ?_
      rw [HSE.out.1, HSE.out.2]
      refine ⟨_, _, rfl, ?_, ?_, below_setRow W8' (by omega) _⟩
      · exact (H8.out.stay HsRel.kept fun q hq => setRow_other _ _ _ _ (KV.out q hq).2).out HsRel.kept HsRel.mono (by rw [size_setRow, S8.out]; exact Nat.le_refl _)
      · have R9 := (R8.row (cs := stArr ⟨l.r.id, l.r.ep - 1, l.r.lo, r.r.hi⟩ l.f l.c (.slice Av nv cv) (.slice B2 l.p.length q2)) HZg.out kZ).sl
        rw [stP_len] at R9
        exact ⟨B2, l.p.length, q2, rfl, hq2, hq2m, R9⟩
end
end Go.Proofs.YtipacjbegfingaaGreat
