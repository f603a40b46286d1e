/- The walk of the document's Divide where the split is good; Divide, whatever the state. -/
import Derived.Test.YtipacjbegfingaaEr
namespace Go.Proofs.Ytipacjbegfingaa
set_option linter.unusedVariables false
open Go.RowKit Fl
attribute [local go_sem] run_store_float

def RDiv1 (s : Stt) (S1 S2 : Value) (sl su : Rg) (q st : Sp) (x : Nat) (w : World) (bz G : Nat) (wc : World) (i : Value) (wr : World) : Prop :=
  ∃ (k : Nat) (v1 v2 : Value), k ≤ s.h.length ∧ i = .int .i64 (k : Int) ∧ Blk wr (w.heap.size + 1 + 1 + 1) 30 zeroCells ∧ Blk wr (w.heap.size + 1 + 1 + 1 + 1) 30 zeroCells ∧
    Blk wr G 30 (s.arr S1 S2) ∧ Blk wr (G + 1) 30 (stArr sl s.f s.c v1 (.slice none 0 0)) ∧ Blk wr (G + 1 + 1) 30 (stArr su q st v2 (.slice none 0 0)) ∧
    PairK HsRel 76 2 (G + 3) (rng bz G) wr v1 v2 (hsF (fun k => belowB k x) (s.h.take k)) (hsF (fun k => !belowB k x) (s.h.take k)) ∧ (∀ j, bz ≤ j → j < G → wr.heap[j]? = wc.heap[j]?) ∧ Below w.heap.size w wr ∧ G + 3 ≤ wr.heap.size
def RDiv2 (s : Stt) (S1 S2 : Value) (sl su : Rg) (q st : Sp) (x : Nat) (w : World) (bz G : Nat) (v1 v2 : Value) (N : Nat) (w1 : World) (i : Value) (wr : World) : Prop :=
  ∃ (k : Nat) (v3 v4 : Value), k ≤ s.p.length ∧ i = .int .i64 (k : Int) ∧ Blk wr (w.heap.size + 1 + 1 + 1) 30 zeroCells ∧ Blk wr (w.heap.size + 1 + 1 + 1 + 1) 30 zeroCells ∧
    Blk wr G 30 (s.arr S1 S2) ∧ Blk wr (G + 1) 30 (stArr sl s.f s.c v1 v3) ∧ Blk wr (G + 1 + 1) 30 (stArr su q st v2 v4) ∧
    Pair PnRel 47 8 N wr v3 v4 ((s.p.take k).map (pnF fun k => belowB k x)) (((s.p.take k).map (pnF fun k => !belowB k x)).filter fullP) ∧ (∀ j, bz ≤ j → j < N → (j < G ∨ G + 3 ≤ j) → wr.heap[j]? = w1.heap[j]?) ∧ Below w.heap.size w wr ∧ N ≤ wr.heap.size

set_option maxRecDepth 100000 in
set_option maxHeartbeats 16000000 in
theorem rdivide_d (s : Stt) (A1 A2 : Option Addr) (n1 n2 c1 c2 : Nat) (x : Nat) (k : Int) (st fl : Sp) (w : World) (hok : s.r.ok) (hx : x < 18446744073709551616) (h1 : Sl HsRel 2 w w.heap.size A1 n1 s.h) (h2 : Sl PnRel 8 w w.heap.size A2 n2 s.p) (hH : SmallH s.h) (hQ : SmallP s.p) (hm : mayS s = true) (h4 : st.may = true) (h5 : fl.may = true) (hE : splitE s.r x k = 0) :
    Calls Try.prog 11 #[.agg (s.arr (.slice A1 n1 c1) (.slice A2 n2 c2)), .float .f64 x, .int .i64 k, st.val, fl.val] w (DivPostS w (leftS s x k) (rightS s x k st fl) 0) := by
  obtain ⟨i0, hi0, hz0, hz1, hz2⟩ := info_parts hs_info
  obtain ⟨i1, hi1, iz0, iz1, iz2⟩ := info_parts pn_info
  have hst := fun w' (hb : Below w.heap.size w w') => rstateMay_any s A1 A2 n1 n2 c1 c2 w' hok ((h1.below HsRel.kept hb).more HsRel.kept hb.size) ((h2.below PnRel.kept hb).more PnRel.kept hb.size) hH hQ
  have hs := fun w => rhmay_any st w
  have hq := fun w => rhmay_any fl w
  have hsp := fun w => rsplit_any s.r x k w hok hx
  rw [hm] at hst
  rw [h4] at hs
  rw [h5] at hq
  rw [hE] at hsp
  have HL := Lib.hid (show leftS s x k = ⟨splitL s.r x k, s.f, s.c, hsF (fun k => belowB k x) s.h, s.p.map (pnF fun k => belowB k x)⟩ from rfl)
  have HR := Lib.hid (show rightS s x k st fl = ⟨splitU s.r x k, fl, st, hsF (fun k => !belowB k x) s.h, (s.p.map (pnF fun k => !belowB k x)).filter fullP⟩ from rfl)
  generalize leftS s x k = LS at *
  generalize rightS s x k st fl = RS at *
  clear hm h4 h5 hE
  generalize splitL s.r x k = sl at *
  generalize splitU s.r x k = su at *
  go_enter Try.func11, Try.ntmps11
  go_upto_region 8 with (first
    | ((with_reducible refine (hst _ (by go_grown)).mono ?_); rintro e w1 ⟨rfl, hb⟩
       obtain ⟨⟨b0, b1, b2, b3, b4⟩, hb0⟩ := five _ _ _ _ _ _ _ _ _ _ (by simp) hb
       have l4 := b4.lt
       obtain ⟨g2, s0, s1, s2⟩ := b1.three
       obtain ⟨g3, q0, q1, q2⟩ := b2.three
       obtain ⟨g0, z0, z1, z2, z3, z4, z5, z6, z7, z8, z9, z10, z11⟩ := b0.dozen
       clear hb)
    | ((with_reducible refine (hs _).mono ?_); rintro e w3 ⟨rfl, hb3⟩
       have b2 := b2.below hb3 b2.lt
       obtain ⟨g3, q0, q1, q2⟩ := b2.three)
    | ((with_reducible refine (hq _).mono ?_); rintro e w4 ⟨rfl, hb4⟩
       have b0 := b0.below hb3 b0.lt
       have b0 := b0.below hb4 b0.lt
       obtain ⟨g0, z0, z1, z2, z3, z4, z5, z6, z7, z8, z9, z10, z11⟩ := b0.dozen)
    | ((with_reducible refine (hsp _).mono ?_); rintro e w2 ⟨rfl, hb2⟩
       have hb0 := (hb0.trans (hb3.mono hb0.size))
       have hb0 := (hb0.trans (hb4.mono hb0.size))
       have hb0 := (hb0.trans (hb2.mono hb0.size))
       have b0' := b0.below hb2 b0.lt
       have b1 := (b1.below hb3 b1.lt)
       have b1 := b1.below hb4 b1.lt
       have b1' := b1.below hb2 b1.lt
       have b2 := b2.below hb4 b2.lt
       have b2' := b2.below hb2 b2.lt
       have b3 := (b3.below hb3 b3.lt)
       have b3 := b3.below hb4 b3.lt
       have b3' := b3.below hb2 b3.lt
       have b4 := (b4.below hb3 b4.lt)
       have b4 := b4.below hb4 b4.lt
       have b4' := b4.below hb2 b4.lt))
  have b0 := (b0'.alloc (.cells #[.int .i64 sl.id, .int .i64 sl.ep, .float .f64 sl.lo, .float .f64 sl.hi] 24)).alloc (.cells #[.int .i64 su.id, .int .i64 su.ep, .float .f64 su.lo, .float .f64 su.hi] 24)
  have b1 := (b1'.alloc (.cells #[.int .i64 sl.id, .int .i64 sl.ep, .float .f64 sl.lo, .float .f64 sl.hi] 24)).alloc (.cells #[.int .i64 su.id, .int .i64 su.ep, .float .f64 su.lo, .float .f64 su.hi] 24)
  have b2 := (b2'.alloc (.cells #[.int .i64 sl.id, .int .i64 sl.ep, .float .f64 sl.lo, .float .f64 sl.hi] 24)).alloc (.cells #[.int .i64 su.id, .int .i64 su.ep, .float .f64 su.lo, .float .f64 su.hi] 24)
  have b3 := (b3'.alloc (.cells #[.int .i64 sl.id, .int .i64 sl.ep, .float .f64 sl.lo, .float .f64 sl.hi] 24)).alloc (.cells #[.int .i64 su.id, .int .i64 su.ep, .float .f64 su.lo, .float .f64 su.hi] 24)
  have b4 := (b4'.alloc (.cells #[.int .i64 sl.id, .int .i64 sl.ep, .float .f64 sl.lo, .float .f64 sl.hi] 24)).alloc (.cells #[.int .i64 su.id, .int .i64 su.ep, .float .f64 su.lo, .float .f64 su.hi] 24)
  have r13 := (Blk.new w2 24 #[.int .i64 sl.id, .int .i64 sl.ep, .float .f64 sl.lo, .float .f64 sl.hi]).alloc (.cells #[.int .i64 su.id, .int .i64 su.ep, .float .f64 su.lo, .float .f64 su.hi] 24)
  have r14 := Blk.new' (w := w2.alloc (.cells #[.int .i64 sl.id, .int .i64 sl.ep, .float .f64 sl.lo, .float .f64 sl.hi] 24)) (g := w2.heap.size + 1) 24 #[.int .i64 su.id, .int .i64 su.ep, .float .f64 su.lo, .float .f64 su.hi] (by simp)
  have hbz : Below w.heap.size w ((w2.alloc (.cells #[.int .i64 sl.id, .int .i64 sl.ep, .float .f64 sl.lo, .float .f64 sl.hi] 24)).alloc (.cells #[.int .i64 su.id, .int .i64 su.ep, .float .f64 su.lo, .float .f64 su.hi] 24)) := by
    refine hb0.alloc ?_ _ |>.alloc ?_ _
    · have := b4'.lt; omega
    · have := b4'.lt; simp; omega
  have hgz : w.heap.size + 1 + 1 + 1 + 1 < w2.heap.size := b4'.lt
  have hgw : w2.heap.size + 2 ≤ ((w2.alloc (.cells #[.int .i64 sl.id, .int .i64 sl.ep, .float .f64 sl.lo, .float .f64 sl.hi] 24)).alloc (.cells #[.int .i64 su.id, .int .i64 su.ep, .float .f64 su.lo, .float .f64 su.hi] 24)).heap.size := by simp
  generalize ((w2.alloc (.cells #[.int .i64 sl.id, .int .i64 sl.ep, .float .f64 sl.lo, .float .f64 sl.hi] 24)).alloc (.cells #[.int .i64 su.id, .int .i64 su.ep, .float .f64 su.lo, .float .f64 su.hi] 24)) = wz at *
  generalize w2.heap.size = g13 at *
  clear b0' b1' b2' b3' b4' hb2 hb3 hb4 s0 s1 s2 q0 q1 q2 z0 z1 z2 z3 z4 z5 z6 z7 z8 z9 z10 z11 g0 g2 g3 hb0 l4 hst hs hq hsp
  obtain ⟨g0, z0, z1, z2, z3, z4, z5, z6, z7, z8, z9, z10, z11⟩ := b0.dozen
  have hC := copyS_low s A1 A2 n1 n2 c1 c2 wz ((h1.below HsRel.kept hbz).more HsRel.kept hbz.size) ((h2.below PnRel.kept hbz).more PnRel.kept hbz.size) hH hQ
  go_wp2_with (go_at_call 9; fail)
  refine hC.mono ?_
  rintro e wc ⟨B1, m1, d1, B2, m2, d2, rfl, hmd1, hd1m, hc1, hmd2, hd2m, hc2, hbc⟩
  have hzc := hbc.size
  clear z0 z1 z2 z3 z4 z5 z6 z7 z8 z9 z10 z11 g0 hC
  have b0 := b0.below hbc b0.lt
  have b1 := b1.below hbc b1.lt
  have b2 := b2.below hbc b2.lt
  have b3 := b3.below hbc b3.lt
  have b4 := b4.below hbc b4.lt
  have r13 := r13.below hbc r13.lt
  have r14 := r14.below hbc r14.lt
  have hbd := hbz.trans (hbc.mono hbz.size)
  generalize hbze : wz.heap.size = bz at *
  clear hbc hbz
  go_upto_region 9 with (refine wpList_store_new rfl 30 _ _ rfl _ rfl rfl _ _ (by kernel_rfl) (by kernel_rfl) (by kernel_rfl) ?_)
  have bS := Blk.new wc 30 (s.arr (.slice B1 m1 d1) (.slice B2 m2 d2))
  have b0 := b0.alloc (.cells (s.arr (.slice B1 m1 d1) (.slice B2 m2 d2)) 30)
  have b1 := b1.alloc (.cells (s.arr (.slice B1 m1 d1) (.slice B2 m2 d2)) 30)
  have b2 := b2.alloc (.cells (s.arr (.slice B1 m1 d1) (.slice B2 m2 d2)) 30)
  have b3 := b3.alloc (.cells (s.arr (.slice B1 m1 d1) (.slice B2 m2 d2)) 30)
  have b4 := b4.alloc (.cells (s.arr (.slice B1 m1 d1) (.slice B2 m2 d2)) 30)
  have r13 := r13.alloc (.cells (s.arr (.slice B1 m1 d1) (.slice B2 m2 d2)) 30)
  have r14 := r14.alloc (.cells (s.arr (.slice B1 m1 d1) (.slice B2 m2 d2)) 30)
  have hbd := hbd.alloc (by omega) (.cells (s.arr (.slice B1 m1 d1) (.slice B2 m2 d2)) 30)
  have hwd : (wc.alloc (.cells (s.arr (.slice B1 m1 d1) (.slice B2 m2 d2)) 30)).heap.size = wc.heap.size + 1 := by simp
  have hcd : ∀ j, bz ≤ j → j < wc.heap.size → (wc.alloc (.cells (s.arr (.slice B1 m1 d1) (.slice B2 m2 d2)) 30)).heap[j]? = wc.heap[j]? := fun j _ hj => Below.heap_alloc _ _ _ hj
  obtain ⟨wd, hwde⟩ : ∃ wd, wd = wc.alloc (.cells (s.arr (.slice B1 m1 d1) (.slice B2 m2 d2)) 30) := ⟨_, rfl⟩
  rw [← hwde] at bS b0 b1 b2 b3 b4 r13 r14 hbd hwd hcd ⊢
  clear hwde
  have HWD := Lib.hid hwd
  have hwl : wc.heap.size < wd.heap.size := by omega
  clear hwd
  obtain ⟨g1, s0, s1, s2⟩ := b1.three
  obtain ⟨g2, q0, q1, q2⟩ := b2.three
  obtain ⟨g0, z0, z1, z2, z3, z4, z5, z6, z7, z8, z9, z10, z11⟩ := b0.dozen
  obtain ⟨g13', x0, x1, x2, x3, -⟩ := r13.four
  obtain ⟨g14', y0, y1, y2, y3, -⟩ := r14.four
  go_upto_region 12 with (refine wpList_store_new rfl 30 _ _ rfl _ rfl rfl _ _ (by kernel_rfl) (by kernel_rfl) (by kernel_rfl) ?_)
  have b3z := (b3.alloc (.cells (nilCells sl s.f s.c) 30)).alloc (.cells (nilCells su fl st) 30)
  have b4z := (b4.alloc (.cells (nilCells sl s.f s.c) 30)).alloc (.cells (nilCells su fl st) 30)
  have bSz := (bS.alloc (.cells (nilCells sl s.f s.c) 30)).alloc (.cells (nilCells su fl st) 30)
  have b17 := (Blk.new wd 30 (nilCells sl s.f s.c)).alloc (.cells (nilCells su fl st) 30)
  have b18 := Blk.new' (w := wd.alloc (.cells (nilCells sl s.f s.c) 30)) (g := wd.heap.size + 1) 30 (nilCells su fl st) (by rw [World.size_alloc])
  have hbf := (hbd.alloc (by omega) (.cells (nilCells sl s.f s.c) 30)).alloc (by simp; omega) (.cells (nilCells su fl st) 30)
  have hgy : wc.heap.size + 3 ≤ ((wd.alloc (.cells (nilCells sl s.f s.c) 30)).alloc (.cells (nilCells su fl st) 30)).heap.size := by have := HWD.out; simp; omega
  have hcy : ∀ j, bz ≤ j → j < wc.heap.size → ((wd.alloc (.cells (nilCells sl s.f s.c) 30)).alloc (.cells (nilCells su fl st) 30)).heap[j]? = wc.heap[j]? := fun j hj hj2 => (Below.heap_alloc _ _ _ (by simp; omega)).trans ((Below.heap_alloc _ _ _ (by omega)).trans (hcd j hj hj2))
  have hps : (wd.alloc (.cells (nilCells sl s.f s.c) 30)).heap.size = wd.heap.size + 1 := by simp
  have hwd := HWD.out
  rw [hwd] at b17 b18 ⊢
  clear hps HWD hwl
  generalize (wd.alloc (.cells (nilCells sl s.f s.c) 30)).alloc (.cells (nilCells su fl st) 30) = wy at *
  generalize hGe : wc.heap.size = G at *
  have hlc1 := hc1.1
  have hlc2 := hc2.1
  have hm1 : m1 ≤ 1000000 := Nat.le_trans (by omega) hH.1
  have hm2 : m2 ≤ 1000000 := Nat.le_trans (by omega) hQ.1
  have hge1 : m1 ≤ s.h.length := by omega
  have hle1 : s.h.length ≤ m1 := by omega
  have hge2 : m2 ≤ s.p.length := by omega
  have hle2 : s.p.length ≤ m2 := by omega
  clear hlc1 hlc2
  clear b0 b1 b2 b3 b4 r13 r14 z0 z1 z2 z3 z4 z5 z6 z7 z8 z9 z10 z11 x0 x1 x2 x3 y0 y1 y2 y3 s0 s1 s2 q0 q1 q2 g0 g1 g2 g13' g14' bS hcd hbd hwd
  obtain ⟨g0, -, -, -, -, -, -, -, -, -, -, z10, z11⟩ := bSz.dozen
  have hbG : w.heap.size + 1 + 1 + 1 + 1 < bz := by omega
  have hbzG : bz ≤ G := hzc
  clear hgz hgw hzc hbze
  go_loopw [19] (fun i wr => RDiv1 s (.slice B1 m1 d1) (.slice B2 m2 d2) sl su fl st x w bz G wc i wr) (fun i _ => m1 - (intOf i).toNat)
  case atStart => exact ⟨0, _, _, by omega, rfl, b3z, b4z, bSz, b17, b18, PairK.nil _, hcy, hbf, hgy⟩
  case round =>
    clear b3z b4z bSz b17 b18 hcy hbf hgy z10 z11 g0
    obtain ⟨k, v1, v2, hk, rfl, b3, b4, bS, b17, b18, hp, hcr, hb, hgy⟩ := hrel
    have hzz := hb.size
    obtain ⟨B3, q1, rfl, hq1, hq1m⟩ := hp.1.form
    obtain ⟨B4, q2, rfl, hq2, hq2m⟩ := hp.2.1.form
    have hf1 := hsF_le (fun k => belowB k x) s.h k
    have hf2 := hsF_le (fun k => !belowB k x) s.h k
    obtain ⟨l0, -, -, -, -, -, -, -, -, -, -, z10, z11⟩ := bS.dozen
    by_cases hlt : k < m1
    · have hcw := hc1.keep HsRel.kept fun p _ => only_same (K := rng bz G) (w' := wr) (w := wc) (fun k hk => hcr k (rng_iff.1 hk).1 (rng_iff.1 hk).2) p
      obtain ⟨ad, a, A', n', c', rfl, ha, hbk, hkz, d0, d1', hn', hc', hsv⟩ := hcw.hs hlt
      have d0 := (only_cell d0).2
      have d1' := (only_cell d1').2
      have hbk : (ad.add (k * 2)).block < wr.heap.size := by omega
      have hd1 : decide ((k : Int) < (m1 : Int)) = true := by simp; omega
      have hk0 : (0 : Int) ≤ (k : Int) := by omega
      have hk1 : (k : Int) < (m1 : Int) := by omega
      have S1 := Lib.hid (hsF_snoc (fun k => belowB k x) ha)
      have S2 := Lib.hid (hsF_snoc (fun k => !belowB k x) ha)
      clear ha
      generalize hsF (fun k => belowB k x) (s.h.take k) = L1 at *
      generalize hsF (fun k => !belowB k x) (s.h.take k) = L2 at *
      have hX : Below wr.heap.size wr (wr.alloc (.cells #[.string a.key, .slice A' n' c'] 76)).drew := ((Below.refl _ _).alloc (Nat.le_refl _) _).drew
      have hKl : ∀ k, rng bz G k = true → k < G + 3 := fun k hk => by rw [rng_iff] at hk; omega
      have pX := hp.below HsRel.kept hX (fun k hk => by rw [rng_iff] at hk; omega)
      have hin : Inn HsRel (rng bz G) (wr.alloc (.cells #[.string a.key, .slice A' n' c'] 76)).drew [.string a.key, .slice A' n' c'] a :=
        HsRel.kept.2 _ _ _ _ _ (HsRel.kept.1 _ _ _ _ _ (show HsRel (only (rng bz G) wr) G [.string a.key, .slice A' n' c'] a from ⟨_, rfl, hkz, _, _, _, rfl, hn', hc', hsv⟩) fun p hp => only_same (K := rng bz G) (fun k hk => hX.block k (by rw [rng_iff] at hk; omega)) p) (by have := hX.size; omega)
      have HI := Lib.hid hin
      have hone : ∀ u ∈ [Value.string a.key, Value.slice A' n' c'], u.oneCell' = true := by
        intro u hu
        simp only [List.mem_cons, List.not_mem_nil, or_false] at hu
        rcases hu with rfl | rfl <;> rfl
      have HO := Lib.hid hone
      have hrd0 := (reads_new' wr 76 [.string a.key, .slice A' n' c'] 2 rfl).drew
      have hof := fun w => rbelow_any a.key x w (reach_max hkz)
      clear hone hin hsv hp hcw
      cases hbel : belowB a.key x
      · rw [hbel] at hof
        have T1 := Lib.hid (show hsF (fun k => belowB k x) (s.h.take (k + 1)) = L1 by have := S1.out; simpa [hbel] using this)
        have T2 := Lib.hid (show hsF (fun k => !belowB k x) (s.h.take (k + 1)) = L2 ++ [a] by have := S2.out; simpa [hbel] using this)
        clear hbel
        go_upto_region 16 with ((with_reducible refine (hof _).mono ?_); rintro e w5 ⟨rfl, rfl⟩)
        have y10 := b18.cell 10
        simp only [List.getElem?_toArray, List.getElem?_cons_succ, List.getElem?_cons_zero] at y10
        have lg := b18.lt
        have lg2 : G + 1 + 1 < wr.heap.size + 1 := by omega
        obtain ⟨xs, hown0, hpush⟩ := PairK.own1 HsRel.kept pX.symm hKl (by have := hX.size; omega)
        have HP := Lib.hid hpush
        clear hpush
        go_wp2
        go_region_law (refine step_append_any _ rfl (.tmp 90) (.tmp 96) _ rfl (G + 3) 76 i0 _ 2 40 Try.underlying27 hi0 hz0 hz1 hz2 rfl (by omega) (.slice B4 L2.length q2) _ xs (by simp [Act.eval]) hown0 _ (some ⟨wr.heap.size, 0, none⟩) 1 1 [.string a.key, .slice A' n' c'] (by simp [Act.eval]) hrd0 HO.out (by unfold maxLen; omega) (by omega) (by simp; omega) ?_; intro v3 w3 hown3 hg3 hat3; have e10 := (b18.below hX lg).grown hg3 (pX.symm.ne1 (by omega)); have z1 := e10.cell 10; simp only [List.getElem?_toArray, List.getElem?_cons_succ, List.getElem?_cons_zero] at z1; have f1 := e10.frozen 10; obtain ⟨A6, q6, rfl, hq6, hq6m⟩ := own_form hown3)
        all_goals
          have hsz3 := hg3.size
          have hXs := hX.size
          have hpp := HP.out _ a w3 _ rfl HI.out hown3 hg3 hat3
          have hpf := hpp.symm.far HsRel.kept (p := ⟨G + 1 + 1, 10, none⟩) (by simp) (fun k hk => by rw [rng_iff] at hk; simp; omega) (.slice A6 (L2.length + 1) q6)
          have hbw := ((hb.trans (hX.mono hzz)).grown hg3 (by omega) (fun q hq => by have := (hown0.lt q hq).1; omega)).setCell (p := ⟨G + 1 + 1, 10, none⟩) (by simp; omega) (.slice A6 (L2.length + 1) q6)
          have hgr : ∀ {g : Nat} {t : TypeId} {cs : Array Value}, Blk wr g t cs → g < G + 3 → g ≠ G + 1 + 1 → Blk (w3.setCell ⟨G + 1 + 1, 10, none⟩ (.slice A6 (L2.length + 1) q6)) g t cs := fun hB hlt hne => ((hB.below hX hB.lt).grown hg3 (pX.symm.ne1 hlt)).far hne _
          have hcz : ∀ j, bz ≤ j → j < G → (w3.setCell ⟨G + 1 + 1, 10, none⟩ (.slice A6 (L2.length + 1) q6)).heap[j]? = wc.heap[j]? := fun j hj hj2 => (Below.heap_setCell _ _ _ _ (by simp; omega)).trans ((hg3.block j (by omega) (pX.symm.ne1 (by omega))).trans ((hX.block j (by omega)).trans (hcr j hj hj2)))
          go_wp2
          go_roundw
          case rel =>
            refine ⟨k + 1, _, _, by omega, by go_num, hgr b3 (by omega) (by omega), hgr b4 (by omega) (by omega), hgr bS (by omega) (by omega), hgr b17 (by omega) (by omega), e10.set_ 10 _, ?_, hcz, hbw, by simp; omega⟩
            rw [T1.out, T2.out]
            exact hpf
          case measure => simp [intOf]; omega
      · rw [hbel] at hof
        have T1 := Lib.hid (show hsF (fun k => belowB k x) (s.h.take (k + 1)) = L1 ++ [a] by have := S1.out; simpa [hbel] using this)
        have T2 := Lib.hid (show hsF (fun k => !belowB k x) (s.h.take (k + 1)) = L2 by have := S2.out; simpa [hbel] using this)
        clear hbel
        go_upto_region 15 with ((with_reducible refine (hof _).mono ?_); rintro e w5 ⟨rfl, rfl⟩)
        have y10 := b17.cell 10
        simp only [List.getElem?_toArray, List.getElem?_cons_succ, List.getElem?_cons_zero] at y10
        have lg := b17.lt
        have lg2 : G + 1 < wr.heap.size + 1 := by omega
        obtain ⟨xs, hown0, hpush⟩ := PairK.own1 HsRel.kept pX hKl (by have := hX.size; omega)
        have HP := Lib.hid hpush
        clear hpush
        go_wp2
        go_region_law (refine step_append_any _ rfl (.tmp 80) (.tmp 86) _ rfl (G + 3) 76 i0 _ 2 40 Try.underlying27 hi0 hz0 hz1 hz2 rfl (by omega) (.slice B3 L1.length q1) _ xs (by simp [Act.eval]) hown0 _ (some ⟨wr.heap.size, 0, none⟩) 1 1 [.string a.key, .slice A' n' c'] (by simp [Act.eval]) hrd0 HO.out (by unfold maxLen; omega) (by omega) (by simp; omega) ?_; intro v3 w3 hown3 hg3 hat3; have e10 := (b17.below hX lg).grown hg3 (pX.ne1 (by omega)); have z1 := e10.cell 10; simp only [List.getElem?_toArray, List.getElem?_cons_succ, List.getElem?_cons_zero] at z1; have f1 := e10.frozen 10; obtain ⟨A6, q6, rfl, hq6, hq6m⟩ := own_form hown3)
        all_goals
          have hsz3 := hg3.size
          have hXs := hX.size
          have hpp := HP.out _ a w3 _ rfl HI.out hown3 hg3 hat3
          have hpf := hpp.far HsRel.kept (p := ⟨G + 1, 10, none⟩) (by simp) (fun k hk => by rw [rng_iff] at hk; simp; omega) (.slice A6 (L1.length + 1) q6)
          have hbw := ((hb.trans (hX.mono hzz)).grown hg3 (by omega) (fun q hq => by have := (hown0.lt q hq).1; omega)).setCell (p := ⟨G + 1, 10, none⟩) (by simp; omega) (.slice A6 (L1.length + 1) q6)
          have hgr : ∀ {g : Nat} {t : TypeId} {cs : Array Value}, Blk wr g t cs → g < G + 3 → g ≠ G + 1 → Blk (w3.setCell ⟨G + 1, 10, none⟩ (.slice A6 (L1.length + 1) q6)) g t cs := fun hB hlt hne => ((hB.below hX hB.lt).grown hg3 (pX.ne1 hlt)).far hne _
          have hcz : ∀ j, bz ≤ j → j < G → (w3.setCell ⟨G + 1, 10, none⟩ (.slice A6 (L1.length + 1) q6)).heap[j]? = wc.heap[j]? := fun j hj hj2 => (Below.heap_setCell _ _ _ _ (by simp; omega)).trans ((hg3.block j (by omega) (pX.ne1 (by omega))).trans ((hX.block j (by omega)).trans (hcr j hj hj2)))
          go_wp2
          go_roundw
          case rel =>
            refine ⟨k + 1, _, _, by omega, by go_num, hgr b3 (by omega) (by omega), hgr b4 (by omega) (by omega), hgr bS (by omega) (by omega), e10.set_ 10 _, hgr b18 (by omega) (by omega), ?_, hcz, hbw, by simp; omega⟩
            rw [T1.out, T2.out]
            exact hpf
          case measure => simp [intOf]; omega
    · have hd1 : decide ((k : Int) < (m1 : Int)) = false := decide_eq_false (by omega)
      have he : s.h.take k = s.h := List.take_of_length_le (by omega)
      rw [he] at hp hf1 hf2 hq1 hq2 b17 b18
      clear he
      have hv1 := hp.1.held (K' := fun j => rng bz G j || rng (G + 3) wr.heap.size j) HsRel.mono (by omega) (fun j hj => by simp only [hj, Bool.true_or]) (fun j hj => by have := hp.1.lt j hj; rw [Bool.or_eq_true]; exact .inr (rng_iff.2 this))
      have hv2 := hp.2.1.held (K' := fun j => rng bz G j || rng (G + 3) wr.heap.size j) HsRel.mono (by omega) (fun j hj => by simp only [hj, Bool.true_or]) (fun j hj => by have := hp.2.1.lt j hj; rw [Bool.or_eq_true]; exact .inr (rng_iff.2 this))
      generalize hsF (fun k => belowB k x) s.h = L1 at *
      generalize hsF (fun k => !belowB k x) s.h = L2 at *
      clear hp hc1
      go_wp2
      obtain ⟨w1, rfl⟩ : ∃ w1, w1 = wr := ⟨_, rfl⟩
      clear z10 z11 l0
      have hw1 : Below w.heap.size w w1 := hb
      go_loopw [20] (fun i wr => RDiv2 s (.slice B1 m1 d1) (.slice B2 m2 d2) sl su fl st x w bz G (.slice B3 L1.length q1) (.slice B4 L2.length q2) w1.heap.size w1 i wr) (fun i _ => m2 - (intOf i).toNat)
      case atStart => exact ⟨0, _, _, by omega, rfl, b3, b4, bS, b17, b18, Pair.nil _, fun _ _ _ _ => rfl, hb, Nat.le_refl _⟩
      case round =>
        clear b3 b4 bS b17 b18 hb hzz
        obtain ⟨k2, v3, v4, hk2, rfl, b3, b4, bS, b17, b18, hp, hsm, hb, hN⟩ := hrel
        have hzz := hb.size
        obtain ⟨B5, q3, rfl, hq3, hq3m⟩ := hp.form1
        obtain ⟨B6, q4, rfl, hq4, hq4m⟩ := hp.form2
        have hf3 : ((s.p.take k2).map (pnF fun k => belowB k x)).length ≤ k2 := by simp; omega
        have hf4 : (((s.p.take k2).map (pnF fun k => !belowB k x)).filter fullP).length ≤ k2 := Nat.le_trans (List.length_filter_le _ _) (by simp; omega)
        obtain ⟨l0, -, -, -, -, -, -, -, -, -, -, -, z11⟩ := bS.dozen
        by_cases hlt : k2 < m2
        · have hcw := hc2.keep PnRel.kept fun p _ => only_same (K := rng bz G) (w' := wr) (w := wc) (fun k hk => by rw [rng_iff] at hk; exact (hsm k hk.1 (by omega) (.inl hk.2)).trans (hcr k hk.1 hk.2)) p
          obtain ⟨ad, a, A3, n3, c3, A4, n4, c4, rfl, ha, hbk, hxt, hxs, d0, d1', d2', d3, d4, d5, d6, d7, hn3, hc3, hs3, hn4, hc4, hs4⟩ := hcw.pn hlt
          have d0 := (only_cell d0).2
          have d1' := (only_cell d1').2
          have d2' := (only_cell d2').2
          have d3 := (only_cell d3).2
          have d4 := (only_cell d4).2
          have d5 := (only_cell d5).2
          have d6 := (only_cell d6).2
          have d7 := (only_cell d7).2
          have hs3 := (hs3.mono KyRel.mono fun p u _ h => (only_cell h).2).more KyRel.kept (show G ≤ wr.heap.size by omega)
          have hs4 := (hs4.mono WtRel.mono fun p u _ h => (only_cell h).2).more WtRel.kept (show G ≤ wr.heap.size by omega)
          have hbk : (ad.add (k2 * 8)).block < wr.heap.size := by omega
          have hd2 : decide ((k2 : Int) < (m2 : Int)) = true := decide_eq_true (by omega)
          have hk0 : (0 : Int) ≤ (k2 : Int) := by omega
          have hk1 : (k2 : Int) < (m2 : Int) := by omega
          have hsml := hQ.2 a (List.mem_of_getElem? ha)
          have hl3 := hs3.1
          have hl4 := hs4.1
          have S1 := Lib.hid (map_snoc (fun k => belowB k x) ha)
          have S2 := Lib.hid (full_snoc (fun k => !belowB k x) ha)
          have hr3 : n3 ≤ 1000000 := by omega
          have hr4 : n4 ≤ 1000000 := by omega
          clear ha hl3 hl4 hsml hcw
          generalize (s.p.take k2).map (pnF fun k => belowB k x) = P1 at *
          generalize ((s.p.take k2).map (pnF fun k => !belowB k x)).filter fullP = P2 at *
          go_upto_region 20 with fail
          refine wp_region_held_drew (S := fun W => Below wr.heap.size wr W) (by kernel_rfl) (Below.refl _ _).drew (fun hHeld => ?_)
          refine wpAnyH_take (i := 0) (oi := ⟨some 106, _, _, _, _, _⟩) (v := .pointer (some ⟨G, 11, none⟩)) rfl (by kernel_rfl) (by kernel_rfl) (by kernel_rfl) (fun _ _ _ h => h) (Or.inl ⟨by kernel_rfl, fun W hSw => by clear hSw; go_simp⟩) hHeld ?_
          go_frame
          refine wpAnyH_take (i := 1) (oi := ⟨some 107, _, _, _, _, _⟩) (v := .slice (some ad) m2 d2) rfl (by kernel_rfl) (by kernel_rfl) (by kernel_rfl) (fun _ _ _ h => h) (Or.inl ⟨by kernel_rfl, fun W hSw => by have y0 := (hSw.cell (p := ⟨G, 11, none⟩) l0).trans z11; clear hSw; go_simp⟩) hHeld ?_
          go_frame
          refine wpAnyH_take (i := 2) (oi := ⟨some 108, _, _, _, _, _⟩) (v := .int .i64 (k2 : Int)) rfl (by kernel_rfl) (by kernel_rfl) (by kernel_rfl) (fun _ _ _ h => h) (Or.inl ⟨by kernel_rfl, fun W hSw => by clear hSw; go_simp⟩) hHeld ?_
          go_frame
          refine wpAnyH_take (i := 3) (oi := ⟨some 109, _, _, _, _, _⟩) (v := ?vA3) rfl (by kernel_rfl) (by kernel_rfl) (by kernel_rfl) (fun _ _ _ h => h) (Or.inl ⟨by kernel_rfl, ?hA3⟩) hHeld ?rA3
          case hA3 =>
            intro W hSw
            clear hSw
            go_simp
            try with_reducible rfl
          go_frame
          refine wpAnyH_take (i := 4) (oi := ⟨some 110, _, _, _, _, _⟩) (v := ?vA4) rfl (by kernel_rfl) (by kernel_rfl) (by kernel_rfl) (fun _ _ _ h => h) (Or.inl ⟨by kernel_rfl, ?hA4⟩) hHeld ?rA4
          case hA4 =>
            intro W hSw
            clear hSw
            go_simp
            try with_reducible rfl
          go_frame
          refine wpAnyH_take (i := 5) (oi := ⟨some 111, _, _, _, _, _⟩) (v := .agg #[.int .i64 a.t.c, .int .i64 a.t.l, .int .i64 a.t.s]) rfl (by kernel_rfl) (by kernel_rfl) (by kernel_rfl) (fun _ _ _ h => h) (Or.inl ⟨by kernel_rfl, fun W hSw => by have y0 := (hSw.cell (p := ad.add (k2 * 8)) hbk).trans d0; have y1 := (hSw.cell (p := ⟨(ad.add (k2 * 8)).block, (ad.add (k2 * 8)).off + 1, none⟩) hbk).trans d1'; have y2 := (hSw.cell (p := ⟨(ad.add (k2 * 8)).block, (ad.add (k2 * 8)).off + 2, none⟩) hbk).trans d2'; clear hSw; go_simp⟩) hHeld ?_
          go_frame
          refine wpAnyH_take (i := 6) (oi := ⟨some 112, _, _, _, _, _⟩) (v := .pointer (some ⟨G, 11, none⟩)) rfl (by kernel_rfl) (by kernel_rfl) (by kernel_rfl) (fun _ _ _ h => h) (Or.inl ⟨by kernel_rfl, fun W hSw => by clear hSw; go_simp⟩) hHeld ?_
          go_frame
          refine wpAnyH_take (i := 7) (oi := ⟨some 113, _, _, _, _, _⟩) (v := .slice (some ad) m2 d2) rfl (by kernel_rfl) (by kernel_rfl) (by kernel_rfl) (fun _ _ _ h => h) (Or.inl ⟨by kernel_rfl, fun W hSw => by have y0 := (hSw.cell (p := ⟨G, 11, none⟩) l0).trans z11; clear hSw; go_simp⟩) hHeld ?_
          go_frame
          refine wpAnyH_take (i := 8) (oi := ⟨some 114, _, _, _, _, _⟩) (v := .int .i64 (k2 : Int)) rfl (by kernel_rfl) (by kernel_rfl) (by kernel_rfl) (fun _ _ _ h => h) (Or.inl ⟨by kernel_rfl, fun W hSw => by clear hSw; go_simp⟩) hHeld ?_
          go_frame
          refine wpAnyH_take (i := 9) (oi := ⟨some 115, _, _, _, _, _⟩) (v := ?vA9) rfl (by kernel_rfl) (by kernel_rfl) (by kernel_rfl) (fun _ _ _ h => h) (Or.inl ⟨by kernel_rfl, ?hA9⟩) hHeld ?rA9
          case hA9 =>
            intro W hSw
            clear hSw
            go_simp
            try with_reducible rfl
          go_frame
          refine wpAnyH_take (i := 10) (oi := ⟨some 116, _, _, _, _, _⟩) (v := ?vA10) rfl (by kernel_rfl) (by kernel_rfl) (by kernel_rfl) (fun _ _ _ h => h) (Or.inl ⟨by kernel_rfl, ?hA10⟩) hHeld ?rA10
          case hA10 =>
            intro W hSw
            clear hSw
            go_simp
            try with_reducible rfl
          go_frame
          refine wpAnyH_take (i := 11) (oi := ⟨some 117, _, _, _, _, _⟩) (v := .agg #[.int .i64 a.s.w, .int .i64 a.s.l, .int .i64 a.s.n]) rfl (by kernel_rfl) (by kernel_rfl) (by kernel_rfl) (fun _ _ _ h => h) (Or.inl ⟨by kernel_rfl, fun W hSw => by have y0 := (hSw.cell (p := ⟨(ad.add (k2 * 8)).block, (ad.add (k2 * 8)).off + 3, none⟩) hbk).trans d3; have y1 := (hSw.cell (p := ⟨(ad.add (k2 * 8)).block, (ad.add (k2 * 8)).off + 4, none⟩) hbk).trans d4; have y2 := (hSw.cell (p := ⟨(ad.add (k2 * 8)).block, (ad.add (k2 * 8)).off + 5, none⟩) hbk).trans d5; clear hSw; go_simp⟩) hHeld ?_
          go_frame
          refine wpAnyH_take (i := 12) (oi := ⟨some 118, _, _, _, _, _⟩) (v := .agg (a.arr (.slice none 0 0) (.slice none 0 0))) rfl (by kernel_rfl) (by kernel_rfl) (by kernel_rfl) (fun _ _ _ h => h) (Or.inl ⟨by kernel_rfl, fun W hSw => by clear hSw; go_simp⟩) hHeld ?_
          go_frame
          have hbA : Below wr.heap.size wr (wr.drew.alloc (.cells zeroPn 47)) := (Below.refl _ _).drew.alloc (Nat.le_refl _) _
          refine wpAnyH_alloc (i := 13) (by kernel_rfl) rfl rfl _ rfl (.cells zeroPn 47) (alloc_pn _ _ rfl _) hbA ?_
          go_frame
          have hbB : Below wr.heap.size wr ((wr.drew.alloc (.cells zeroPn 47)).setRow wr.drew.heap.size (a.arr (.slice none 0 0) (.slice none 0 0))) := below_setRow hbA (Nat.le_refl _) _
          have i21 : Blk ((wr.drew.alloc (.cells zeroPn 47)).setRow wr.drew.heap.size (a.arr (.slice none 0 0) (.slice none 0 0))) wr.heap.size 47 (a.arr (.slice none 0 0) (.slice none 0 0)) := (Blk.new wr.drew 47 zeroPn).setRow _
          have hz5 : ((wr.drew.alloc (.cells zeroPn 47)).setRow wr.drew.heap.size (a.arr (.slice none 0 0) (.slice none 0 0))).heap.size = wr.heap.size + 1 := by rw [size_setRow]; simp
          refine wpAnyH_store_rowE (i := 14) (by kernel_rfl) rfl rfl _ _ _ rfl wr.drew.heap.size (a.arr (.slice none 0 0) (.slice none 0 0)) (by kernel_rfl) (by kernel_rfl) _ zeroPn (Blk.new wr.drew _ _) (by kernel_rfl) rfl (by kernel_rfl) hbB ?_
          intro w5 hw5
          rw [← hw5] at hbB i21 hz5
          go_frame
          refine wpAnyH_done (by kernel_rfl) ?_ _
          clear hw5 hbA hHeld
          have HZ5 := Lib.hid hz5
          have lw5 : wr.heap.size < w5.heap.size := by omega
          clear hz5
          obtain ⟨l21, j0, j1, j2, j3, j4, j5, j6, j7⟩ := i21.eight
          go_upto_region 22 with (refine wpList_store_new rfl 47 _ _ rfl _ rfl rfl _ _ (by kernel_rfl) (by kernel_rfl) (by kernel_rfl) ?_)
          have hbC := hbB.alloc hbB.size (.cells (a.arr (.slice none 0 0) (.slice none 0 0)) 47)
          replace i21 := i21.alloc (.cells (a.arr (.slice none 0 0) (.slice none 0 0)) 47)
          have i22 := Blk.new w5 47 (a.arr (.slice none 0 0) (.slice none 0 0))
          have lw5' : w5.heap.size ≤ wr.heap.size + 1 := by rw [HZ5.out]; exact Nat.le_refl _
          have lw6 : w5.heap.size < (w5.alloc (.cells (a.arr (.slice none 0 0) (.slice none 0 0)) 47)).heap.size := by rw [World.size_alloc]; omega
          clear HZ5 hbB l21 j0 j1 j2 j3 j4 j5 j6 j7
          generalize (w5.alloc (.cells (a.arr (.slice none 0 0) (.slice none 0 0)) 47)) = w6 at *
          generalize w5.heap.size = g22 at *
          clear w5
          have bS6 := bS.below hbC bS.lt
          obtain ⟨l0', -, -, -, -, -, -, -, -, -, -, -, z11'⟩ := bS6.dozen
          have hbk6 : (ad.add (k2 * 8)).block < w6.heap.size := by have := hbC.size; omega
          have x6 := (hbC.cell (p := ⟨(ad.add (k2 * 8)).block, (ad.add (k2 * 8)).off + 6, none⟩) hbk).trans d6
          go_wp2_with (go_at_call 39; fail)
          refine (rtexts_any _ _ _ _ _ w6 ((hs3.below KyRel.kept hbC).more KyRel.kept hbC.size) hr3).mono ?_
          rintro e w7 ⟨v1, v2, rfl, o1, o3, -, hb7⟩
          have hz7 := hb7.size
          have c21 := i21.below hb7 i21.lt
          have c22 := i22.below hb7 i22.lt
          obtain ⟨D1, e1, rfl, he1, he1m⟩ := o1.form
          obtain ⟨D3, e3, rfl, he3, he3m⟩ := o3.form
          have hb8 : Below wr.heap.size wr w7 := hbC.trans (hb7.mono hbC.size)
          have l21 := c21.lt
          have l22 := c22.lt
          have f21 := c21.frozen 6
          have f22 := c22.frozen 6
          have y21 := c21.cell 6
          have y22 := c22.cell 6
          simp only [List.getElem?_toArray, List.getElem?_cons_succ, List.getElem?_cons_zero] at y21 y22
          clear i21 i22 bS6 l0' z11' hbk6 x6 hbC
          go_upto_region 23 with fail
          have e21 : Blk (w7.setCell ⟨wr.heap.size, 6, none⟩ (.slice D1 (keysL a.r x).length e1)) wr.heap.size 47 (a.arr (.slice D1 (keysL a.r x).length e1) (.slice none 0 0)) := c21.set_ 6 _
          have i21 : Blk ((w7.setCell ⟨wr.heap.size, 6, none⟩ (.slice D1 (keysL a.r x).length e1)).setCell ⟨g22, 6, none⟩ (.slice D3 (keysR a.r x).length e3)) wr.heap.size 47 (a.arr (.slice D1 (keysL a.r x).length e1) (.slice none 0 0)) := e21.far (by simp; omega) _
          have e22 := c22.far (p := ⟨wr.heap.size, 6, none⟩) (by simp; omega) (.slice D1 (keysL a.r x).length e1)
          have i22 : Blk ((w7.setCell ⟨wr.heap.size, 6, none⟩ (.slice D1 (keysL a.r x).length e1)).setCell ⟨g22, 6, none⟩ (.slice D3 (keysR a.r x).length e3)) g22 47 (a.arr (.slice D3 (keysR a.r x).length e3) (.slice none 0 0)) := e22.set_ 6 _
          have hbC : Below wr.heap.size wr ((w7.setCell ⟨wr.heap.size, 6, none⟩ (.slice D1 (keysL a.r x).length e1)).setCell ⟨g22, 6, none⟩ (.slice D3 (keysR a.r x).length e3)) := (hb8.setCell (by simp) _).setCell (by simp; omega) _
          have hz8 : w7.heap.size ≤ ((w7.setCell ⟨wr.heap.size, 6, none⟩ (.slice D1 (keysL a.r x).length e1)).setCell ⟨g22, 6, none⟩ (.slice D3 (keysR a.r x).length e3)).heap.size := by simp
          replace o1 := (o1.set_far (p := ⟨wr.heap.size, 6, none⟩) (by simp <;> omega) (.slice D1 (keysL a.r x).length e1)).set_far (p := ⟨g22, 6, none⟩) (by simp <;> omega) (.slice D3 (keysR a.r x).length e3)
          replace o3 := (o3.set_far (p := ⟨wr.heap.size, 6, none⟩) (by simp <;> omega) (.slice D1 (keysL a.r x).length e1)).set_far (p := ⟨g22, 6, none⟩) (by simp <;> omega) (.slice D3 (keysR a.r x).length e3)
          clear c21 c22 e21 e22 l21 l22 f21 f22 y21 y22 hb8
          generalize ((w7.setCell ⟨wr.heap.size, 6, none⟩ (.slice D1 (keysL a.r x).length e1)).setCell ⟨g22, 6, none⟩ (.slice D3 (keysR a.r x).length e3)) = w8 at *
          replace o1 := o1.mono_base (base' := g22 + 1) (by omega)
          replace o3 := o3.mono_base (base' := g22 + 1) (by omega)
          have hq6 : g22 < w8.heap.size := by omega
          clear hb7 hz7 hz8 lw6
          clear w7 w6
          have bS6 := bS.below hbC bS.lt
          obtain ⟨l0', -, -, -, -, -, -, -, -, -, -, -, z11'⟩ := bS6.dozen
          have hbk6 : (ad.add (k2 * 8)).block < w8.heap.size := by have := hbC.size; omega
          have x7 := (hbC.cell (p := ⟨(ad.add (k2 * 8)).block, (ad.add (k2 * 8)).off + 7, none⟩) hbk).trans d7
          go_wp2_with (go_at_call 24; fail)
          refine (rhalve_any _ _ _ _ _ w8 ((hs4.below WtRel.kept hbC).more WtRel.kept hbC.size) hr4).mono ?_
          rintro e w7 ⟨v1, v2, rfl, o2, o4, -, hb7⟩
          have hz7 := hb7.size
          replace o1 := o1.below hb7
          replace o3 := o3.below hb7
          have c21 := i21.below hb7 i21.lt
          have c22 := i22.below hb7 i22.lt
          obtain ⟨D2, e2, rfl, he2, he2m⟩ := o2.form
          obtain ⟨D4, e4, rfl, he4, he4m⟩ := o4.form
          have hb8 : Below wr.heap.size wr w7 := hbC.trans (hb7.mono hbC.size)
          have l21 := c21.lt
          have l22 := c22.lt
          have f21 := c21.frozen 7
          have f22 := c22.frozen 7
          have y21 := c21.cell 7
          have y22 := c22.cell 7
          simp only [List.getElem?_toArray, List.getElem?_cons_succ, List.getElem?_cons_zero] at y21 y22
          clear i21 i22 bS6 l0' z11' hbk6 x7 hbC
          go_upto_region 24 with fail
          have e21 : Blk (w7.setCell ⟨wr.heap.size, 7, none⟩ (.slice D2 (halveL a.w x).length e2)) wr.heap.size 47 (a.arr (.slice D1 (keysL a.r x).length e1) (.slice D2 (halveL a.w x).length e2)) := c21.set_ 7 _
          have i21 : Blk ((w7.setCell ⟨wr.heap.size, 7, none⟩ (.slice D2 (halveL a.w x).length e2)).setCell ⟨g22, 7, none⟩ (.slice D4 (halveR a.w x).length e4)) wr.heap.size 47 (a.arr (.slice D1 (keysL a.r x).length e1) (.slice D2 (halveL a.w x).length e2)) := e21.far (by simp; omega) _
          have e22 := c22.far (p := ⟨wr.heap.size, 7, none⟩) (by simp; omega) (.slice D2 (halveL a.w x).length e2)
          have i22 : Blk ((w7.setCell ⟨wr.heap.size, 7, none⟩ (.slice D2 (halveL a.w x).length e2)).setCell ⟨g22, 7, none⟩ (.slice D4 (halveR a.w x).length e4)) g22 47 (a.arr (.slice D3 (keysR a.r x).length e3) (.slice D4 (halveR a.w x).length e4)) := e22.set_ 7 _
          have hbC : Below wr.heap.size wr ((w7.setCell ⟨wr.heap.size, 7, none⟩ (.slice D2 (halveL a.w x).length e2)).setCell ⟨g22, 7, none⟩ (.slice D4 (halveR a.w x).length e4)) := (hb8.setCell (by simp) _).setCell (by simp; omega) _
          have hz8 : w7.heap.size ≤ ((w7.setCell ⟨wr.heap.size, 7, none⟩ (.slice D2 (halveL a.w x).length e2)).setCell ⟨g22, 7, none⟩ (.slice D4 (halveR a.w x).length e4)).heap.size := by simp
          replace o1 := (o1.set_far (p := ⟨wr.heap.size, 7, none⟩) (by simp <;> omega) (.slice D2 (halveL a.w x).length e2)).set_far (p := ⟨g22, 7, none⟩) (by simp <;> omega) (.slice D4 (halveR a.w x).length e4)
          replace o3 := (o3.set_far (p := ⟨wr.heap.size, 7, none⟩) (by simp <;> omega) (.slice D2 (halveL a.w x).length e2)).set_far (p := ⟨g22, 7, none⟩) (by simp <;> omega) (.slice D4 (halveR a.w x).length e4)
          replace o2 := (o2.set_far (p := ⟨wr.heap.size, 7, none⟩) (by simp <;> omega) (.slice D2 (halveL a.w x).length e2)).set_far (p := ⟨g22, 7, none⟩) (by simp <;> omega) (.slice D4 (halveR a.w x).length e4)
          replace o4 := (o4.set_far (p := ⟨wr.heap.size, 7, none⟩) (by simp <;> omega) (.slice D2 (halveL a.w x).length e2)).set_far (p := ⟨g22, 7, none⟩) (by simp <;> omega) (.slice D4 (halveR a.w x).length e4)
          clear c21 c22 e21 e22 l21 l22 f21 f22 y21 y22 hb8
          generalize ((w7.setCell ⟨wr.heap.size, 7, none⟩ (.slice D2 (halveL a.w x).length e2)).setCell ⟨g22, 7, none⟩ (.slice D4 (halveR a.w x).length e4)) = w6 at *
          have hz6'' : g22 + 1 ≤ w6.heap.size := by omega
          replace o1 : OwnL keyCells 9 1 (wr.heap.size + 1) w6 (.slice D1 (pnL a x).r.length e1) (pnL a x).r := o1.mono_base (by omega)
          replace o3 : OwnL keyCells 9 1 (wr.heap.size + 1) w6 (.slice D3 (pnR a x).r.length e3) (pnR a x).r := o3.mono_base (by omega)
          replace o2 : OwnL Wt.cells 96 4 (wr.heap.size + 1) w6 (.slice D2 (pnL a x).w.length e2) (pnL a x).w := o2.mono_base (by omega)
          replace o4 : OwnL Wt.cells 96 4 (wr.heap.size + 1) w6 (.slice D4 (pnR a x).w.length e4) (pnR a x).w := o4.mono_base (by omega)
          have i22' : Blk w6 wr.heap.size 47 ((pnL a x).arr (.slice D1 (pnL a x).r.length e1) (.slice D2 (pnL a x).w.length e2)) := i21
          have i23 : Blk w6 g22 47 ((pnR a x).arr (.slice D3 (pnR a x).r.length e3) (.slice D4 (pnR a x).w.length e4)) := i22
          replace he1 : (pnL a x).r.length ≤ e1 := he1
          replace he2 : (pnL a x).w.length ≤ e2 := he2
          replace he3 : (pnR a x).r.length ≤ e3 := he3
          replace he4 : (pnR a x).w.length ≤ e4 := he4
          clear i21 i22
          have i22 := i22'
          clear i22'
          have k1 : ∀ k ∈ (pnL a x).r, k.size ≤ 140737488351232 := fun k hk => Sl.all_ok hs3 k (List.mem_filter.1 hk).1
          have k2' : ∀ k ∈ (pnL a x).w, Wt.ok k := fun k hk => Sl.all_ok hs4 k (List.mem_filter.1 hk).1
          have k3 : ∀ k ∈ (pnR a x).r, k.size ≤ 140737488351232 := fun k hk => Sl.all_ok hs3 k (List.mem_filter.1 hk).1
          have k4 : ∀ k ∈ (pnR a x).w, Wt.ok k := fun k hk => Sl.all_ok hs4 k (List.mem_filter.1 hk).1
          have K1 := Lib.hid k1
          have K2 := Lib.hid k2'
          have K3 := Lib.hid k3
          have K4 := Lib.hid k4
          have m1 : (pnR a x).r.length ≤ 1000000 := Nat.le_trans (List.length_filter_le _ _) (by have := hs3.1; omega)
          have m2 : (pnR a x).w.length ≤ 1000000 := Nat.le_trans (List.length_filter_le _ _) (by have := hs4.1; omega)
          have t1 : (pnL a x).t.ok := hxt
          have t2 : (pnL a x).s.ok := hxs
          have t3 : (pnR a x).t.ok := hxt
          have t4 : (pnR a x).s.ok := hxs
          have S1 : RowKit.Hid ((s.p.take (k2 + 1)).map (pnF fun k => belowB k x) = P1 ++ [pnL a x]) := S1
          have S2 : RowKit.Hid (((s.p.take (k2 + 1)).map (pnF fun k => !belowB k x)).filter fullP = if fullP (pnR a x) then P2 ++ [pnR a x] else P2) := S2
          clear k1 k2' k3 k4
          generalize pnL a x = y at *
          generalize pnR a x = z at *
          have hb6 : Below wr.heap.size wr w6 := hbC
          clear hbC hs3 hs4 d0 d1' d2' d3 d4 d5 d6 d7 hb7 hz7 hz8 hq6
          clear w7 w8
          have hf6 := hb6.size
          have b3 := b3.below hb6 b3.lt
          have b4 := b4.below hb6 b4.lt
          have bS := bS.below hb6 bS.lt
          have b17 := b17.below hb6 b17.lt
          have b18 := b18.below hb6 b18.lt
          have hp6 := hp.below PnRel.kept PnRel.mono hb6
          have hX := (Below.refl w6.heap.size w6).alloc (Nat.le_refl _) (.cells (y.arr (.slice D1 y.r.length e1) (.slice D2 y.w.length e2)) 47)
          have hrd0 := reads_new' w6 47 (y.cs (.slice D1 y.r.length e1) (.slice D2 y.w.length e2)) 8 rfl
          have hsz0 : (w6.alloc (.cells (y.arr (.slice D1 y.r.length e1) (.slice D2 y.w.length e2)) 47)).heap.size = w6.heap.size + 1 := by simp
          have hK : ∀ k, wr.heap.size + 1 ≤ k → k < (w6.alloc (.cells (y.arr (.slice D1 y.r.length e1) (.slice D2 y.w.length e2)) 47)).heap.size → freeB w1.heap.size (w6.alloc (.cells (y.arr (.slice D1 y.r.length e1) (.slice D2 y.w.length e2)) 47)).heap.size (.slice B5 P1.length q3) (.slice B6 P2.length q4) k = true := hp.fresh (by omega) (by omega) (by omega)
          have hin : Inn PnRel (freeB w1.heap.size (w6.alloc (.cells (y.arr (.slice D1 y.r.length e1) (.slice D2 y.w.length e2)) 47)).heap.size (.slice B5 P1.length q3) (.slice B6 P2.length q4)) (w6.alloc (.cells (y.arr (.slice D1 y.r.length e1) (.slice D2 y.w.length e2)) 47)) (y.cs (.slice D1 y.r.length e1) (.slice D2 y.w.length e2)) y :=
            ⟨_, _, rfl, t1, t2, OwnL.inn (by omega) ky_len (o1.below hX) K1.out hK, OwnL.inn (by omega) wt_len (o2.below hX) K2.out hK⟩
          have HI := Lib.hid hin
          have HS0 := Lib.hid hsz0
          have pX := hp6.below PnRel.kept PnRel.mono hX
          obtain ⟨xs, hown0, hpush⟩ := Pair.own1 PnRel.kept PnRel.mono pX
          have HP := Lib.hid hpush
          have y11 := b17.cell 11
          simp only [List.getElem?_toArray, List.getElem?_cons_succ, List.getElem?_cons_zero] at y11
          have lg := b17.lt
          have lg2 : (G + 1) < w6.heap.size + 1 := by omega
          obtain ⟨l22, j0, j1, j2, j3, j4, j5, j6, j7⟩ := i22.eight
          clear hpush hin hK hsz0
          go_upto_region 25 with (first
            | (at_builtin
               refine wpList_append_any _ rfl (.tmp 147) (.tmp 149) _ rfl w1.heap.size 47 i1 _ 8 96 Try.underlying28 hi1 iz0 iz1 iz2 rfl (by omega) (.slice B5 P1.length q3) _ xs (by rfl) hown0 _ (some ⟨w6.heap.size, 0, none⟩) 1 1 (y.cs (.slice D1 y.r.length e1) (.slice D2 y.w.length e2)) (by rfl)
                 hrd0 (pn_one y _ _ _ _ _ _) (by unfold maxLen; omega) (by omega) (by simp; omega) ?_
               intro v3 w3 hown3 hg3 hat3
               have e17 := (b17.alloc (.cells (y.arr (.slice D1 y.r.length e1) (.slice D2 y.w.length e2)) 47)).grown hg3 (pX.ne1 (by omega))
               have z11 := e17.cell 11
               simp only [List.getElem?_toArray, List.getElem?_cons_succ, List.getElem?_cons_zero] at z11
               have f11 := e17.frozen 11
               obtain ⟨A6, q6, rfl, hq6, hq6m⟩ := own_form hown3))
          have hrow : ∀ g, (g < w1.heap.size ∨ wr.heap.size ≤ g) → some g ≠ (Value.slice B5 P1.length q3).ownBlock := fun g hg e => by have := hp.1.lt g e.symm; omega
          have hsz3 := hg3.size
          rw [World.size_alloc] at hsz3
          have hXs := HS0.out
          have hd3 : ∀ k, (Value.slice D3 z.r.length e3).ownBlock = some k → wr.heap.size + 1 ≤ k ∧ k < w6.heap.size := World.ownsRow.lt o3
          have hd4 : ∀ k, (Value.slice D4 z.w.length e4).ownBlock = some k → wr.heap.size + 1 ≤ k ∧ k < w6.heap.size := World.ownsRow.lt o4
          have hd3' : ∀ k, (Value.slice D3 z.r.length e3).ownBlock = some k → (Value.slice A6 (P1.length + 1) q6).ownBlock ≠ some k := fun k e e9 => by
            have h8 := hd3 k e
            rcases hat3 with h9 | h9
            · have := hp.1.lt k (h9.symm.trans e9); omega
            · rw [h9, World.size_alloc] at e9; injection e9 with e9; omega
          have hd4' : ∀ k, (Value.slice D4 z.w.length e4).ownBlock = some k → (Value.slice A6 (P1.length + 1) q6).ownBlock ≠ some k := fun k e e9 => by
            have h8 := hd4 k e
            rcases hat3 with h9 | h9
            · have := hp.1.lt k (h9.symm.trans e9); omega
            · rw [h9, World.size_alloc] at e9; injection e9 with e9; omega
          have hd3s : ∀ k, (Value.slice D3 z.r.length e3).ownBlock = some k → (Value.slice B6 P2.length q4).ownBlock ≠ some k := fun k e e9 => by have := hd3 k e; have := hp.2.1.lt k e9; omega
          have hd4s : ∀ k, (Value.slice D4 z.w.length e4).ownBlock = some k → (Value.slice B6 P2.length q4).ownBlock ≠ some k := fun k e e9 => by have := hd4 k e; have := hp.2.1.lt k e9; omega
          have hpp := (HP.out _ y w3 _ rfl HI.out hown3 hg3 hat3).far PnRel.kept PnRel.mono (p := ⟨(G + 1), 11, none⟩) (by simp; omega) (.slice A6 (P1.length + 1) q6)
          have hheap : ∀ g, (g < w1.heap.size ∨ wr.heap.size ≤ g) → g ≠ (G + 1) → g < w6.heap.size → (w3.setCell ⟨(G + 1), 11, none⟩ (.slice A6 (P1.length + 1) q6)).heap[g]? = w6.heap[g]? := fun g h8 h9 h10 => app_step hX hg3 (hrow g h8) h9 h10
          have b3 : Blk _ _ _ _ := (hheap _ (by omega) (by omega) b3.lt).trans b3
          have b4 : Blk _ _ _ _ := (hheap _ (by omega) (by omega) b4.lt).trans b4
          have bS : Blk _ _ _ _ := (hheap _ (by omega) (by omega) bS.lt).trans bS
          have b18 : Blk _ _ _ _ := (hheap _ (by omega) (by omega) b18.lt).trans b18
          have i23 : Blk _ _ _ _ := (hheap _ (by omega) (by omega) i23.lt).trans i23
          have b17' : Blk (w3.setCell ⟨(G + 1), 11, none⟩ (.slice A6 (P1.length + 1) q6)) (G + 1) 30 (stArr sl s.f s.c (.slice B3 L1.length q1) (.slice A6 (P1.length + 1) q6)) := e17.set_ 11 _
          have o3 : OwnL _ _ _ _ _ _ _ := owns_same o3 (fun k h8 h9 => hheap k (by omega) (by omega) h9)
          have o4 : OwnL _ _ _ _ _ _ _ := owns_same o4 (fun k h8 h9 => hheap k (by omega) (by omega) h9)
          have hXX : Below w.heap.size w (w6.alloc (.cells (y.arr (.slice D1 y.r.length e1) (.slice D2 y.w.length e2)) 47)) := hb.trans ((hb6.trans (hX.mono hf6)).mono hzz)
          have hbw := (hXX.grown hg3 hXX.size (fun q hq => by have := (hown0.lt q hq).1; have := hw1.size; omega)).setCell (p := ⟨(G + 1), 11, none⟩) (by simp; omega) (.slice A6 (P1.length + 1) q6)
          have hsm8 : ∀ j, bz ≤ j → j < w1.heap.size → (j < G ∨ G + 3 ≤ j) → (w3.setCell ⟨(G + 1), 11, none⟩ (.slice A6 (P1.length + 1) q6)).heap[j]? = w1.heap[j]? := fun j h8 h9 h10 => (hheap j (by omega) (by omega) (by omega)).trans ((hb6.block j (by omega)).trans (hsm j h8 h9 h10))
          have hz8 : (w3.setCell ⟨(G + 1), 11, none⟩ (.slice A6 (P1.length + 1) q6)).heap.size = w3.heap.size := by simp [World.setCell]
          have hz8' : w6.heap.size ≤ (w3.setCell ⟨(G + 1), 11, none⟩ (.slice A6 (P1.length + 1) q6)).heap.size := by omega
          clear hz8 hp hp6 hX hrd0 pX hown0 hg3 hat3 hrow hheap b17 e17 z11 f11 y11 lg lg2 j0 j1 j2 j3 j4 j5 j6 j7 l22 i22 o1 o2 HP HI HS0 hXs hXX hsz3 hb6 hsm hown3 hb
          generalize (w3.setCell ⟨(G + 1), 11, none⟩ (.slice A6 (P1.length + 1) q6)) = w8 at *
          clear w3
          obtain ⟨l23, j0, j1, j2, j3, j4, j5, j6, j7⟩ := i23.eight
          by_cases hz : fullP z = true
          · have hzz0 : 0 < z.r.length + z.w.length := by unfold fullP at hz; simpa using hz
            have hzd : decide ((0 : Int) < (z.r.length : Int) + (z.w.length : Int)) = true := by simp; omega
            have T2 := Lib.hid (show ((s.p.take (k2 + 1)).map (pnF fun k => !belowB k x)).filter fullP = P2 ++ [z] by have := S2.out; rw [if_pos hz] at this; exact this)
            clear hz S2
            have hX := (Below.refl w8.heap.size w8).alloc (Nat.le_refl _) (.cells (z.arr (.slice D3 z.r.length e3) (.slice D4 z.w.length e4)) 47)
            have hrd0 := reads_new' w8 47 (z.cs (.slice D3 z.r.length e3) (.slice D4 z.w.length e4)) 8 rfl
            have hsz0 : (w8.alloc (.cells (z.arr (.slice D3 z.r.length e3) (.slice D4 z.w.length e4)) 47)).heap.size = w8.heap.size + 1 := by simp
            have pX := (hpp.below PnRel.kept PnRel.mono hX).symm
            have hin : Inn PnRel (freeB w1.heap.size (w8.alloc (.cells (z.arr (.slice D3 z.r.length e3) (.slice D4 z.w.length e4)) 47)).heap.size (.slice B6 P2.length q4) (.slice A6 (P1.length + 1) q6)) (w8.alloc (.cells (z.arr (.slice D3 z.r.length e3) (.slice D4 z.w.length e4)) 47)) (z.cs (.slice D3 z.r.length e3) (.slice D4 z.w.length e4)) z :=
              ⟨_, _, rfl, t3, t4, OwnL.inn2 (by omega) ky_len (o3.below hX) K3.out (fun k e => freeB_iff.2 ⟨by have := hd3 k e; omega, by have := hd3 k e; omega, hd3s k e, hd3' k e⟩),
                OwnL.inn2 (by omega) wt_len (o4.below hX) K4.out (fun k e => freeB_iff.2 ⟨by have := hd4 k e; omega, by have := hd4 k e; omega, hd4s k e, hd4' k e⟩)⟩
            have HI := Lib.hid hin
            have HS0 := Lib.hid hsz0
            obtain ⟨xs, hown0, hpush⟩ := Pair.own1 PnRel.kept PnRel.mono pX
            have HP := Lib.hid hpush
            have y11 := b18.cell 11
            simp only [List.getElem?_toArray, List.getElem?_cons_succ, List.getElem?_cons_zero] at y11
            have lg := b18.lt
            have lg2 : (G + 1 + 1) < w8.heap.size + 1 := by omega
            clear hpush hin hsz0 hd3 hd4 hd3' hd4' hd3s hd4s o3 o4
            go_wp2_with (first
              | (at_builtin
                 refine wpList_append_any _ rfl (.tmp 161) (.tmp 163) _ rfl w1.heap.size 47 i1 _ 8 96 Try.underlying28 hi1 iz0 iz1 iz2 rfl (by omega) (.slice B6 P2.length q4) _ xs (by rfl) hown0 _ (some ⟨w8.heap.size, 0, none⟩) 1 1 (z.cs (.slice D3 z.r.length e3) (.slice D4 z.w.length e4)) (by rfl)
                   hrd0 (pn_one z _ _ _ _ _ _) (by unfold maxLen; omega) (by omega) (by simp; omega) ?_
                 intro v3 w3 hown3 hg3 hat3
                 have e18 := (b18.alloc (.cells (z.arr (.slice D3 z.r.length e3) (.slice D4 z.w.length e4)) 47)).grown hg3 (pX.ne1 (by omega))
                 have z11 := e18.cell 11
                 simp only [List.getElem?_toArray, List.getElem?_cons_succ, List.getElem?_cons_zero] at z11
                 have f11 := e18.frozen 11
                 obtain ⟨A7, q7, rfl, hq7, hq7m⟩ := own_form hown3))
            have hrow : ∀ g, g < w1.heap.size → some g ≠ (Value.slice B6 P2.length q4).ownBlock := fun g hg => pX.ne1 hg
            have hsz3 := hg3.size
            rw [World.size_alloc] at hsz3
            have hpq := (HP.out _ z w3 _ rfl HI.out hown3 hg3 hat3).symm.far PnRel.kept PnRel.mono (p := ⟨(G + 1 + 1), 11, none⟩) (by simp; omega) (.slice A7 (P2.length + 1) q7)
            have hheap : ∀ g, g < w1.heap.size → g ≠ (G + 1 + 1) → g < w8.heap.size → (w3.setCell ⟨(G + 1 + 1), 11, none⟩ (.slice A7 (P2.length + 1) q7)).heap[g]? = w8.heap[g]? := fun g h8 h9 h10 => app_step hX hg3 (hrow g h8) h9 h10
            have hXX : Below w.heap.size w (w8.alloc (.cells (z.arr (.slice D3 z.r.length e3) (.slice D4 z.w.length e4)) 47)) := hbw.trans (hX.mono hbw.size)
            have hbx := (hXX.grown hg3 hXX.size (fun q hq => by have := (hown0.lt q hq).1; have := hw1.size; omega)).setCell (p := ⟨(G + 1 + 1), 11, none⟩) (by simp; omega) (.slice A7 (P2.length + 1) q7)
            go_roundw
            case rel =>
              refine ⟨k2 + 1, _, _, by omega, by go_num, (hheap _ (by omega) (by omega) b3.lt).trans b3, (hheap _ (by omega) (by omega) b4.lt).trans b4, (hheap _ (by omega) (by omega) bS.lt).trans bS, (hheap _ (by omega) (by omega) b17'.lt).trans b17', e18.set_ 11 _, ?_, fun j h8 h9 h10 => (hheap j h9 (by omega) (by omega)).trans (hsm8 j h8 h9 h10), hbx, by simp [World.setCell]; omega⟩
              rw [S1.out, T2.out]
              exact hpq
            case measure => simp [intOf]; omega
          · have hzz0 : ¬ 0 < z.r.length + z.w.length := by unfold fullP at hz; simpa using hz
            have hzd : decide ((0 : Int) < (z.r.length : Int) + (z.w.length : Int)) = false := by simp; omega
            have T2 := Lib.hid (show ((s.p.take (k2 + 1)).map (pnF fun k => !belowB k x)).filter fullP = P2 by have := S2.out; rw [if_neg hz] at this; exact this)
            clear hz S2
            go_wp2
            go_roundw
            case rel =>
              refine ⟨k2 + 1, _, _, by omega, by go_num, b3, b4, bS, b17', b18, ?_, hsm8, hbw, by omega⟩
              rw [S1.out, T2.out]
              exact hpp
            case measure => simp [intOf]; omega
        · have hd1 : decide ((k2 : Int) < (m2 : Int)) = false := decide_eq_false (by omega)
          have he : s.p.take k2 = s.p := List.take_of_length_le (by omega)
          rw [he] at hp hf3 hf4 hq3 hq4 b17 b18
          clear he
          generalize hP1 : s.p.map (pnF fun k => belowB k x) = P1 at *
          generalize hP2 : (s.p.map (pnF fun k => !belowB k x)).filter fullP = P2 at *
          have hlt6 := b17.lt
          go_wp2
          refine wp_region_held_drew (S := fun w' => Blk w' (G + 1) 30 (stArr sl s.f s.c (.slice B3 L1.length q1) (.slice B5 P1.length q3)) ∧ Blk w' (G + 1 + 1) 30 (stArr su fl st (.slice B4 L2.length q2) (.slice B6 P2.length q4))) (by kernel_rfl) ⟨b17, b18⟩ (fun hHeld => ?_)
          refine wpAnyH_take (i := 0) (oi := ⟨some 166, .load 30 (.tmp 17), _, _, _, _⟩) rfl (by kernel_rfl) (by kernel_rfl) (by kernel_rfl) (fun _ _ _ h => h) (yieldsIf_load_blk (by rfl) _ _ rfl (G + 1) rfl _ _ _ (fun _ h => h.1) rfl rfl (by kernel_rfl)) hHeld ?_
          go_frame
          refine wpAnyH_take (i := 1) (oi := ⟨some 167, .load 30 (.tmp 18), _, _, _, _⟩) rfl (by kernel_rfl) (by kernel_rfl) (by kernel_rfl) (fun _ _ _ h => h) (yieldsIf_load_blk (by rfl) _ _ rfl (G + 1 + 1) rfl _ _ _ (fun _ h => h.2) rfl rfl (by kernel_rfl)) hHeld ?_
          go_frame
          refine wpAnyH_ready (rs := [2]) (by kernel_rfl) (by simp) ?_
          refine AllReadyH.cons rfl (fun K hK => ?_) AllReadyH.nil
          rw [if_pos (by rfl)]
          refine wp_store_row _ _ _ rfl _ _ rfl rfl _ _ b3 (by kernel_rfl) (by kernel_rfl) (by kernel_rfl) ?_
          refine hK.out _ _ ⟨b17.setRow_far _ (by omega), b18.setRow_far _ (by omega)⟩ (fun hHeld => ?_)
          clear hK K
          go_frame
          refine wpAnyH_ready (rs := [3]) (by kernel_rfl) (by simp) ?_
          refine AllReadyH.cons rfl (fun K hK => ?_) AllReadyH.nil
          rw [if_pos (by rfl)]
          refine wp_store_row _ _ _ rfl _ _ rfl rfl _ _ (b4.setRow_far _ (by omega)) (by kernel_rfl) (by kernel_rfl) (by kernel_rfl) ?_
          refine hK.out _ _ ⟨(b17.setRow_far _ (by omega)).setRow_far _ (by omega), (b18.setRow_far _ (by omega)).setRow_far _ (by omega)⟩ (fun hHeld => ?_)
          clear hK K
          go_frame
          refine wpAnyH_ready (rs := [4]) (by kernel_rfl) (by simp) ?_
          refine AllReadyH.cons rfl (fun K hK => ?_) AllReadyH.nil
          rw [if_pos (by rfl)]
          go_simp
          refine hK.out _ _ ⟨(b17.setRow_far _ (by omega)).setRow_far _ (by omega), (b18.setRow_far _ (by omega)).setRow_far _ (by omega)⟩ (fun hHeld => ?_)
          clear hK K
          refine wpAnyH_done (by kernel_rfl) ?_ _
          have y3 := (b3.setRow (stArr sl s.f s.c (.slice B3 L1.length q1) (.slice B5 P1.length q3))).setRow_far (g' := w.heap.size + 1 + 1 + 1 + 1) (stArr su fl st (.slice B4 L2.length q2) (.slice B6 P2.length q4)) (by omega)
          have y4 := (b4.setRow_far (g' := w.heap.size + 1 + 1 + 1) (stArr sl s.f s.c (.slice B3 L1.length q1) (.slice B5 P1.length q3)) (by omega)).setRow (stArr su fl st (.slice B4 L2.length q2) (.slice B6 P2.length q4))
          go_wp2
          refine post_cell_cell_tmp rfl (by rfl) (by rfl) y3 y4 rfl rfl (by kernel_rfl) rfl rfl (by kernel_rfl) ?_
          rw [HL.out, HR.out]
          have hk8 : ∀ j, bz ≤ j → ((wr.drew.setRow (w.heap.size + 1 + 1 + 1) (stArr sl s.f s.c (.slice B3 L1.length q1) (.slice B5 P1.length q3))).setRow (w.heap.size + 1 + 1 + 1 + 1) (stArr su fl st (.slice B4 L2.length q2) (.slice B6 P2.length q4))).heap[j]? = wr.heap[j]? := fun j hj => (setRow_other _ _ _ _ (by omega)).trans (setRow_other _ _ _ _ (by omega))
          have hs8 : ((wr.drew.setRow (w.heap.size + 1 + 1 + 1) (stArr sl s.f s.c (.slice B3 L1.length q1) (.slice B5 P1.length q3))).setRow (w.heap.size + 1 + 1 + 1 + 1) (stArr su fl st (.slice B4 L2.length q2) (.slice B6 P2.length q4))).heap.size = wr.heap.size := by rw [size_setRow, size_setRow]; rfl
          have hpw := hp.same (w' := (wr.drew.setRow (w.heap.size + 1 + 1 + 1) (stArr sl s.f s.c (.slice B3 L1.length q1) (.slice B5 P1.length q3))).setRow (w.heap.size + 1 + 1 + 1 + 1) (stArr su fl st (.slice B4 L2.length q2) (.slice B6 P2.length q4))) PnRel.kept PnRel.mono (by rw [hs8]; exact Nat.le_refl _) (fun k h8 h9 => hk8 k (by omega))
          refine ⟨_, _, _, _, rfl, ?_, hpw.1.sl PnRel.mono (by omega), ?_, hpw.2.1.sl PnRel.mono (by omega), below_setRow (below_setRow hb.drew (by omega) _) (by omega) _⟩
          · exact (hv1.stay HsRel.kept fun k hk => by rw [Bool.or_eq_true, rng_iff, rng_iff] at hk; exact (hk8 k (by omega)).trans (hsm k (by omega) (by omega) (by omega))).out HsRel.kept HsRel.mono (by rw [hs8]; exact hN)
          · exact (hv2.stay HsRel.kept fun k hk => by rw [Bool.or_eq_true, rng_iff, rng_iff] at hk; exact (hk8 k (by omega)).trans (hsm k (by omega) (by omega) (by omega))).out HsRel.kept HsRel.mono (by rw [hs8]; exact hN)
end Go.Proofs.Ytipacjbegfingaa
