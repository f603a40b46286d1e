/- The walk of Divide where the split is good; Divide, whatever the state. -/
import Derived.Test.YtipacjbegfingaaGreatWabb
namespace Go.Proofs.YtipacjbegfingaaGreat
set_option linter.unusedVariables false
open Go.RowKit Fl
attribute [local go_sem] run_store_float

theorem hs_info : (Tryz.prog.info? 59).map (fun i => (i.zero, i.size, i.bytes)) = some (some (.agg #[.string ⟨#[]⟩, .slice none 0 0]), 2, 40) := by kernel_rfl
theorem pn_info : (Tryz.prog.info? 45).map (fun i => (i.zero, i.size, i.bytes)) = some (some (.agg zeroPn), 8, 96) := by kernel_rfl
/-- a state's cells -/
abbrev stArr (r : Rg) (f c : Sp) (h p : Value) : Array Value := #[.int .i64 r.id, .int .i64 r.ep, .float .f64 r.lo, .float .f64 r.hi, .int .i64 f.w, .int .i64 f.l, .int .i64 f.n, .int .i64 c.w, .int .i64 c.l, .int .i64 c.n, h, p]
theorem hsF_snoc {l : List Hs} {k : Nat} {a : Hs} (f : ByteArray → Bool) (h : l[k]? = some a) : hsF f (l.take (k + 1)) = if f a.key then hsF f (l.take k) ++ [a] else hsF f (l.take k) := by
  unfold hsF
  rw [List.take_add_one, h, List.filter_append]
  cases hf : f a.key <;> simp [hf]
theorem hsF_le (f : ByteArray → Bool) (l : List Hs) (k : Nat) : (hsF f (l.take k)).length ≤ k := Nat.le_trans (List.length_filter_le _ _) (List.length_take_le k l)
theorem map_snoc {l : List Pn} {k : Nat} {a : Pn} (f : ByteArray → Bool) (h : l[k]? = some a) : (l.take (k + 1)).map (pnF f) = (l.take k).map (pnF f) ++ [pnF f a] := by
  rw [List.take_add_one, h]; simp
theorem full_snoc {l : List Pn} {k : Nat} {a : Pn} (f : ByteArray → Bool) (h : l[k]? = some a) : ((l.take (k + 1)).map (pnF f)).filter fullP = if fullP (pnF f a) then ((l.take k).map (pnF f)).filter fullP ++ [pnF f a] else ((l.take k).map (pnF f)).filter fullP := by
  rw [map_snoc f h, List.filter_append]
  cases hf : fullP (pnF f a) <;> simp [hf]

abbrev Pn.cs (p : Pn) (r q : Value) : List Value := [.int .i64 p.t.c, .int .i64 p.t.l, .int .i64 p.t.s, .int .i64 p.s.w, .int .i64 p.s.l, .int .i64 p.s.n, r, q]
theorem pn_one (p : Pn) (A1 A2 : Option Addr) (n1 n2 c1 c2 : Nat) : ∀ u ∈ p.cs (.slice A1 n1 c1) (.slice A2 n2 c2), u.oneCell' = true := by
  intro u hu
  simp only [Pn.cs, List.mem_cons, List.not_mem_nil, or_false] at hu
  rcases hu with rfl | rfl | rfl | rfl | rfl | rfl | rfl | rfl <;> rfl
/-- one append onto a field of a box: what became of the blocks -/
theorem app_step {g : Nat} {w X w3 : World} {row : Option Nat} {p : Addr} {u : Value} (hX : Below w.heap.size w X) (hg : X.grownBy w3 row) (hne : some g ≠ row) (hp : g ≠ p.block) (hlt : g < w.heap.size) : (w3.setCell p u).heap[g]? = w.heap[g]? :=
  (Below.heap_setCell _ _ _ _ hp).trans ((hg.block g (Nat.lt_of_lt_of_le hlt hX.size) hne).trans (hX.block g hlt))

theorem OwnL.inn2 {α : Type} {f : α → List Value} {ok : α → Prop} {E size b : Nat} {K : Nat → Bool} {w : World} {v : Value} {l : List α} (hk : 0 < size) (hf : ∀ a, (f a).length = size) (h : OwnL f E size b w v l) (hok : ∀ a ∈ l, ok a) (hK : ∀ k, v.ownBlock = some k → K k = true) :
    HdRel (Flat f ok) size (only K w) w.heap.size v l := by
  have h' : OwnL f E size b (only K w) v l := owns_only h hK
  have := h'.sl hk hf hok
  rw [only_size] at this
  exact this

def Div1 (s : Stt) (A1 A2 : Value) (sl su : Rg) (q st : Sp) (x : Nat) (w : World) (g : Nat) (i : Value) (wr : World) : Prop :=
  ∃ (k : Nat) (v1 v2 : Value), k ≤ s.h.length ∧ i = .int .i64 (k : Int) ∧ Blk wr w.heap.size 30 (s.arr A1 A2) ∧ Blk wr (w.heap.size + 1 + 1 + 1) 30 zeroCells ∧ Blk wr (w.heap.size + 1 + 1 + 1 + 1) 30 zeroCells ∧
    Blk wr g 30 (stArr sl s.f s.c v1 (.slice none 0 0)) ∧ Blk wr (g + 1) 30 (stArr su q st v2 (.slice none 0 0)) ∧
    Pair HsRel 59 2 (g + 2) wr v1 v2 (hsF (fun k => belowB k x) (s.h.take k)) (hsF (fun k => !belowB k x) (s.h.take k)) ∧ Below w.heap.size w wr ∧ g + 2 ≤ wr.heap.size
def Div2 (s : Stt) (A1 A2 : Value) (sl su : Rg) (q st : Sp) (x : Nat) (w : World) (g : Nat) (v1 v2 : Value) (N : Nat) (w1 : World) (i : Value) (wr : World) : Prop :=
  ∃ (k : Nat) (v3 v4 : Value), k ≤ s.p.length ∧ i = .int .i64 (k : Int) ∧ Blk wr (w.heap.size + 1 + 1 + 1) 30 zeroCells ∧ Blk wr (w.heap.size + 1 + 1 + 1 + 1) 30 zeroCells ∧
    Blk wr g 30 (stArr sl s.f s.c v1 v3) ∧ Blk wr (g + 1) 30 (stArr su q st v2 v4) ∧
    Pair PnRel 45 8 N wr v3 v4 ((s.p.take k).map (pnF fun k => belowB k x)) (((s.p.take k).map (pnF fun k => !belowB k x)).filter fullP) ∧ (∀ j, g + 2 ≤ j → j < N → wr.heap[j]? = w1.heap[j]?) ∧ Below w.heap.size w wr ∧ N ≤ wr.heap.size

set_option maxRecDepth 100000 in
set_option maxHeartbeats 8000000 in
theorem divide_d (s : Stt) (A1 A2 : Option Addr) (n1 n2 c1 c2 : Nat) (x : Nat) (k : Int) (st fl : Sp) (w : World) (hok : s.r.ok) (hx : x < 18446744073709551616) (h1 : Sl HsRel 2 w w.heap.size A1 n1 s.h) (h2 : Sl PnRel 8 w w.heap.size A2 n2 s.p) (hH : SmallH s.h) (hQ : SmallP s.p) (hm : mayS s = true) (h4 : st.may = true) (h5 : fl.may = true) (hE : splitE s.r x k = 0) :
    Calls Tryz.prog 11 #[.agg (s.arr (.slice A1 n1 c1) (.slice A2 n2 c2)), .float .f64 x, .int .i64 k, st.val, fl.val] w (DivPostS w (leftS s x k) (rightS s x k st fl) 0) := by
  obtain ⟨i0, hi0, hz0, hz1, hz2⟩ := info_parts hs_info
  obtain ⟨i1, hi1, iz0, iz1, iz2⟩ := info_parts pn_info
  have hl1 := h1.1
  have hl2 := h2.1
  have hge1 : n1 ≤ s.h.length := by omega
  have hle1 : s.h.length ≤ n1 := by omega
  have hge2 : n2 ≤ s.p.length := by omega
  have hle2 : s.p.length ≤ n2 := by omega
  have hn1 : n1 ≤ 1000000 := Nat.le_trans hge1 hH.1
  have hn2 : n2 ≤ 1000000 := Nat.le_trans hge2 hQ.1
  clear hl1 hl2
  have hst := fun w' (hb : Below w.heap.size w w') => stateMay_any s A1 A2 n1 n2 c1 c2 w' hok ((h1.below HsRel.kept hb).more HsRel.kept hb.size) ((h2.below PnRel.kept hb).more PnRel.kept hb.size) hH hQ
  have hs := fun w => hmay_any st w
  have hq := fun w => hmay_any fl w
  have hsp := fun w => split_any s.r x k w hok hx
  rw [hm] at hst
  rw [h4] at hs
  rw [h5] at hq
  rw [hE] at hsp
  have HL := Lib.hid (show leftS s x k = ⟨splitL s.r x k, s.f, s.c, hsF (fun k => belowB k x) s.h, s.p.map (pnF fun k => belowB k x)⟩ from rfl)
  have HR := Lib.hid (show rightS s x k st fl = ⟨splitU s.r x k, fl, st, hsF (fun k => !belowB k x) s.h, (s.p.map (pnF fun k => !belowB k x)).filter fullP⟩ from rfl)
  generalize leftS s x k = LS at *
  generalize rightS s x k st fl = RS at *
  clear hm h4 h5 hE
  generalize splitL s.r x k = sl at *
  generalize splitU s.r x k = su at *
  go_enter Tryz.func11, Tryz.ntmps11
  go_upto_region 8 with (first
    | ((with_reducible refine (hst _ (by go_grown)).mono ?_); rintro e w1 ⟨rfl, hb⟩
       obtain ⟨⟨b0, b1, b2, b3, b4⟩, hb0⟩ := five _ _ _ _ _ _ _ _ _ _ (by simp) hb
       have l4 := b4.lt
       obtain ⟨g2, s0, s1, s2⟩ := b1.three
       obtain ⟨g3, q0, q1, q2⟩ := b2.three
       obtain ⟨g0, z0, z1, z2, z3, z4, z5, z6, z7, z8, z9, z10, z11⟩ := b0.dozen
       have g1 : w.heap.size < w1.heap.size + 1 := by omega
       clear hb)
    | ((with_reducible refine (hs _).mono ?_); rintro e w3 ⟨rfl, rfl⟩)
    | ((with_reducible refine (hq _).mono ?_); rintro e w3 ⟨rfl, rfl⟩)
    | ((with_reducible refine (hsp _).mono ?_); rintro e w2 ⟨rfl, hb2⟩
       have b0' := ((b0.alloc _).alloc _).below hb2 (by simp; omega)
       have b1' := ((b1.alloc _).alloc _).below hb2 (by simp; omega)
       have b2' := ((b2.alloc _).alloc _).below hb2 (by simp; omega)
       have b3' := ((b3.alloc _).alloc _).below hb2 (by simp; omega)
       have b4' := ((b4.alloc _).alloc _).below hb2 (by simp; omega)))
  have b0 := (b0'.alloc (.cells #[.int .i64 sl.id, .int .i64 sl.ep, .float .f64 sl.lo, .float .f64 sl.hi] 24)).alloc (.cells #[.int .i64 su.id, .int .i64 su.ep, .float .f64 su.lo, .float .f64 su.hi] 24)
  have b1 := (b1'.alloc (.cells #[.int .i64 sl.id, .int .i64 sl.ep, .float .f64 sl.lo, .float .f64 sl.hi] 24)).alloc (.cells #[.int .i64 su.id, .int .i64 su.ep, .float .f64 su.lo, .float .f64 su.hi] 24)
  have b2 := (b2'.alloc (.cells #[.int .i64 sl.id, .int .i64 sl.ep, .float .f64 sl.lo, .float .f64 sl.hi] 24)).alloc (.cells #[.int .i64 su.id, .int .i64 su.ep, .float .f64 su.lo, .float .f64 su.hi] 24)
  have b3 := (b3'.alloc (.cells #[.int .i64 sl.id, .int .i64 sl.ep, .float .f64 sl.lo, .float .f64 sl.hi] 24)).alloc (.cells #[.int .i64 su.id, .int .i64 su.ep, .float .f64 su.lo, .float .f64 su.hi] 24)
  have b4 := (b4'.alloc (.cells #[.int .i64 sl.id, .int .i64 sl.ep, .float .f64 sl.lo, .float .f64 sl.hi] 24)).alloc (.cells #[.int .i64 su.id, .int .i64 su.ep, .float .f64 su.lo, .float .f64 su.hi] 24)
  have r13 := (Blk.new w2 24 #[.int .i64 sl.id, .int .i64 sl.ep, .float .f64 sl.lo, .float .f64 sl.hi]).alloc (.cells #[.int .i64 su.id, .int .i64 su.ep, .float .f64 su.lo, .float .f64 su.hi] 24)
  have r14 := Blk.new' (w := w2.alloc (.cells #[.int .i64 sl.id, .int .i64 sl.ep, .float .f64 sl.lo, .float .f64 sl.hi] 24)) (g := w2.heap.size + 1) 24 #[.int .i64 su.id, .int .i64 su.ep, .float .f64 su.lo, .float .f64 su.hi] (by simp)
  have hbz : Below w.heap.size w ((w2.alloc (.cells #[.int .i64 sl.id, .int .i64 sl.ep, .float .f64 sl.lo, .float .f64 sl.hi] 24)).alloc (.cells #[.int .i64 su.id, .int .i64 su.ep, .float .f64 su.lo, .float .f64 su.hi] 24)) := by
    refine (((hb0.alloc (by omega) _).alloc (by simp; omega) _).trans (hb2.mono (by simp; omega))).alloc ?_ _ |>.alloc ?_ _
    · have := b4'.lt; omega
    · have := b4'.lt; simp; omega
  have hgz : w.heap.size + 1 + 1 + 1 + 1 < w2.heap.size := b4'.lt
  generalize ((w2.alloc (.cells #[.int .i64 sl.id, .int .i64 sl.ep, .float .f64 sl.lo, .float .f64 sl.hi] 24)).alloc (.cells #[.int .i64 su.id, .int .i64 su.ep, .float .f64 su.lo, .float .f64 su.hi] 24)) = wz at *
  generalize w2.heap.size = g13 at *
  clear b0' b1' b2' b3' b4' hb2 s0 s1 s2 q0 q1 q2 z0 z1 z2 z3 z4 z5 z6 z7 z8 z9 z10 z11 g0 g1 g2 g3 hb0 l4 hst hs hq hsp
  obtain ⟨g1, s0, s1, s2⟩ := b1.three
  obtain ⟨g2, q0, q1, q2⟩ := b2.three
  obtain ⟨g0, z0, z1, z2, z3, z4, z5, z6, z7, z8, z9, z10, z11⟩ := b0.dozen
  obtain ⟨g13', x0, x1, x2, x3, -⟩ := r13.four
  obtain ⟨g14', y0, y1, y2, y3, -⟩ := r14.four
  go_wp2_with (first
    | (refine wpList_store_new rfl 30 _ _ rfl _ rfl rfl _ _ (by kernel_rfl) (by kernel_rfl) (by kernel_rfl) ?_))
  have b3z := (b3.alloc (.cells (nilCells sl s.f s.c) 30)).alloc (.cells (nilCells su fl st) 30)
  have b4z := (b4.alloc (.cells (nilCells sl s.f s.c) 30)).alloc (.cells (nilCells su fl st) 30)
  have b16 := (Blk.new wz 30 (nilCells sl s.f s.c)).alloc (.cells (nilCells su fl st) 30)
  have b17 := Blk.new' (w := wz.alloc (.cells (nilCells sl s.f s.c) 30)) (g := wz.heap.size + 1) 30 (nilCells su fl st) (by simp)
  have b0z := (b0.alloc (.cells (nilCells sl s.f s.c) 30)).alloc (.cells (nilCells su fl st) 30)
  have hbf := (hbz.alloc (by omega) (.cells (nilCells sl s.f s.c) 30)).alloc (by simp; omega) (.cells (nilCells su fl st) 30)
  have hgs : w.heap.size + 1 + 1 + 1 + 1 < wz.heap.size := by omega
  have hgy : wz.heap.size + 2 ≤ ((wz.alloc (.cells (nilCells sl s.f s.c) 30)).alloc (.cells (nilCells su fl st) 30)).heap.size := by simp
  generalize (wz.alloc (.cells (nilCells sl s.f s.c) 30)).alloc (.cells (nilCells su fl st) 30) = wy at *
  generalize wz.heap.size = g16 at *
  clear b0 b1 b2 b3 b4 r13 r14 hbz z0 z1 z2 z3 z4 z5 z6 z7 z8 z9 z10 z11 x0 x1 x2 x3 y0 y1 y2 y3 s0 s1 s2 q0 q1 q2
  obtain ⟨g0, -, -, -, -, -, -, -, -, -, -, z10, z11⟩ := b0z.dozen
  clear g1 g2 g13' g14'
  go_loopw [68] (fun i wr => Div1 s (.slice A1 n1 c1) (.slice A2 n2 c2) sl su fl st x w g16 i wr) (fun i _ => n1 - (intOf i).toNat)
  case atStart => exact ⟨0, _, _, by omega, rfl, b0z, b3z, b4z, b16, b17, Pair.nil _, hbf, hgy⟩
  case round =>
    clear b0z b3z b4z b16 b17 hbf hgy z10 z11 g0 hgz
    obtain ⟨k, v1, v2, hk, rfl, b0, b3, b4, b16, b17, hp, hb, hgy⟩ := hrel
    have hzz := hb.size
    obtain ⟨B1, q1, rfl, hq1, hq1m⟩ := hp.form1
    obtain ⟨B2, q2, rfl, hq2, hq2m⟩ := hp.form2
    have hf1 := hsF_le (fun k => belowB k x) s.h k
    have hf2 := hsF_le (fun k => !belowB k x) s.h k
    by_cases hlt : k < n1
    · obtain ⟨ad, a, A', n', c', rfl, ha, hbk, hkz, d0, d1, hn', hc', hsv⟩ := ((h1.below HsRel.kept hb).more HsRel.kept hb.size).hs hlt
      have hd1 : decide ((k : Int) < (n1 : Int)) = true := by simp; omega
      have hk0 : (0 : Int) ≤ (k : Int) := by omega
      have hk1 : (k : Int) < (n1 : Int) := by omega
      have hsm : n' ≤ 1000000 := by
        have := hH.2 a (List.mem_of_getElem? ha)
        have := hsv.1
        omega
      have S1 := Lib.hid (hsF_snoc (fun k => belowB k x) ha)
      have S2 := Lib.hid (hsF_snoc (fun k => !belowB k x) ha)
      clear ha
      generalize hsF (fun k => belowB k x) (s.h.take k) = L1 at *
      generalize hsF (fun k => !belowB k x) (s.h.take k) = L2 at *
      have hX : Below wr.heap.size wr (wr.alloc (.cells #[.string a.key, .slice A' n' c'] 59)) := by go_grown
      have i9 := Blk.new wr 59 #[.string a.key, .slice A' n' c']
      have hsX := (hsv.below VnRel.kept hX).more VnRel.kept hX.size
      go_wp2_with (go_at_call 23; fail)
      refine (clone_vn A' n' c' a.vs _ hsX hsm).mono ?_
      rintro e w5 ⟨v5, rfl, ho5, hb5⟩
      obtain ⟨A5, q5, rfl, hq5, hq5m⟩ := ho5.form
      have hsv5 : ∀ v ∈ a.vs, Vn.ok v := Sl.all_ok hsX
      have HV := Lib.hid hsv5
      have i5 := i9.below hb5 i9.lt
      have hb5r : Below wr.heap.size wr w5 := hX.trans (hb5.mono hX.size)
      obtain ⟨l9, x0, -⟩ : wr.heap.size < w5.heap.size ∧ w5.cell? ⟨wr.heap.size, 0, none⟩ = some (.string a.key) ∧ True := ⟨i5.lt, i5.cell 0, trivial⟩
      have x1 : w5.cell? ⟨wr.heap.size, 1, none⟩ = some (.slice A' n' c') := i5.cell 1
      have f9 := i5.frozen 1
      clear hsv5 hb5 hX i9 hsX
      go_wp2_with (go_at_call 35; fail)
      have hof := of_any a.key (w5.setCell ⟨wr.heap.size, 1, none⟩ (.slice A5 a.vs.length q5)) (reach_max hkz)
      have i6 : Blk (w5.setCell ⟨wr.heap.size, 1, none⟩ (.slice A5 a.vs.length q5)) wr.heap.size 59 #[.string a.key, .slice A5 a.vs.length q5] := i5.set_ 1 _
      have ho6 := ho5.set_far (p := ⟨wr.heap.size, 1, none⟩) (by simp) (.slice A5 a.vs.length q5)
      have hb6 : Below wr.heap.size wr (w5.setCell ⟨wr.heap.size, 1, none⟩ (.slice A5 a.vs.length q5)) := hb5r.setCell (Nat.le_refl _) _
      generalize (w5.setCell ⟨wr.heap.size, 1, none⟩ (.slice A5 a.vs.length q5)) = w6 at *
      clear x0 x1 f9 i5 ho5 hb5r l9 w5
      have hf6 := hb6.size
      have b0 := b0.below hb6 b0.lt
      have b3 := b3.below hb6 b3.lt
      have b4 := b4.below hb6 b4.lt
      have b16 := b16.below hb6 b16.lt
      have b17 := b17.below hb6 b17.lt
      have hp6 := hp.below HsRel.kept HsRel.mono hb6
      have l9 := i6.lt
      have x0 : w6.cell? ⟨wr.heap.size, 0, none⟩ = some (.string a.key) := i6.cell 0
      have x1 : w6.cell? ⟨wr.heap.size, 1, none⟩ = some (.slice A5 a.vs.length q5) := i6.cell 1
      have hX := (Below.refl w6.heap.size w6).alloc (Nat.le_refl _) (.cells #[.string a.key, .slice A5 a.vs.length q5] 59)
      have hone : ∀ u ∈ [Value.string a.key, Value.slice A5 a.vs.length q5], u.oneCell' = true := by
        intro u hu
        simp only [List.mem_cons, List.not_mem_nil, or_false] at hu
        rcases hu with rfl | rfl <;> rfl
      have HO := Lib.hid hone
      have hrd0 := reads_new' w6 59 [.string a.key, .slice A5 a.vs.length q5] 2 rfl
      have hsz0 : (w6.alloc (.cells #[.string a.key, .slice A5 a.vs.length q5] 59)).heap.size = w6.heap.size + 1 := by simp
      have hK : ∀ k, wr.heap.size + 1 ≤ k → k < (w6.alloc (.cells #[.string a.key, .slice A5 a.vs.length q5] 59)).heap.size → freeB (g16 + 2) (w6.alloc (.cells #[.string a.key, .slice A5 a.vs.length q5] 59)).heap.size (.slice B1 L1.length q1) (.slice B2 L2.length q2) k = true := hp.fresh (by simp; omega) (by omega) (by omega)
      have hin : Inn HsRel (freeB (g16 + 2) (w6.alloc (.cells #[.string a.key, .slice A5 a.vs.length q5] 59)).heap.size (.slice B1 L1.length q1) (.slice B2 L2.length q2)) (w6.alloc (.cells #[.string a.key, .slice A5 a.vs.length q5] 59)) [.string a.key, .slice A5 a.vs.length q5] a :=
        ⟨_, rfl, hkz, OwnL.inn (by omega) vn_len (ho6.below hX) HV.out (by simpa using hK)⟩
      have HI := Lib.hid hin
      have HS0 := Lib.hid hsz0
      clear hone hin hK hsz0
      cases hbel : belowB a.key x
      · have hlt2 : (FloatKind.f64.format.order (ofB a.key) x == some Ordering.lt) = false := hbel
        refine hof.mono ?_
        rintro e w7 ⟨rfl, rfl⟩
        have T1 := Lib.hid (show hsF (fun k => belowB k x) (s.h.take (k + 1)) = L1 by have := S1.out; simpa [hbel] using this)
        have T2 := Lib.hid (show hsF (fun k => !belowB k x) (s.h.take (k + 1)) = L2 ++ [a] by have := S2.out; simpa [hbel] using this)
        clear hbel hof
        have pX := hp6.below HsRel.kept HsRel.mono hX
        obtain ⟨xs, hown0, hpush⟩ := Pair.own1 HsRel.kept HsRel.mono pX.symm
        have HP := Lib.hid hpush
        have y10 := b17.cell 10
        simp only [List.getElem?_toArray, List.getElem?_cons_succ, List.getElem?_cons_zero] at y10
        have lg := b17.lt
        have lg2 : g16 + 1 < w6.heap.size + 1 := by omega
        clear hpush
        go_wp2_with (first
          | (at_builtin
             refine wpList_append_any _ rfl (.tmp 88) (.tmp 90) _ rfl (g16 + 2) 59 i0 _ 2 40 Tryz.underlying27 hi0 hz0 hz1 hz2 rfl (by omega) (.slice B2 L2.length q2) _ xs (by rfl) hown0 _ (some ⟨w6.heap.size, 0, none⟩) 1 1 [.string a.key, .slice A5 a.vs.length q5] (by rfl)
               hrd0 HO.out (by unfold maxLen; omega) (by omega) (by simp; omega) ?_
             intro v3 w3 hown3 hg3 hat3
             have e10 := (b17.alloc (.cells #[.string a.key, .slice A5 a.vs.length q5] 59)).grown hg3 (pX.symm.ne1 (by omega))
             have z10 := e10.cell 10
             simp only [List.getElem?_toArray, List.getElem?_cons_succ, List.getElem?_cons_zero] at z10
             have f10 := e10.frozen 10
             obtain ⟨A6, q6, rfl, hq6, hq6m⟩ := own_form hown3))
        have hsz3 := hg3.size
        have hXs := HS0.out
        have hXX : Below w.heap.size w (w6.alloc (.cells #[.string a.key, .slice A5 a.vs.length q5] 59)) := hb.trans ((hb6.trans (hX.mono hf6)).mono hzz)
        have hbw := (hXX.grown hg3 hXX.size (fun q hq => by have := (hown0.lt q hq).1; omega)).setCell (p := ⟨g16 + 1, 10, none⟩) (by simp; omega) (.slice A6 (L2.length + 1) q6)
        have hgr : ∀ {g : Nat} {t : TypeId} {cs : Array Value}, Blk w6 g t cs → g < g16 + 2 → g ≠ g16 + 1 → Blk (w3.setCell ⟨g16 + 1, 10, none⟩ (.slice A6 (L2.length + 1) q6)) g t cs := fun hB hlt hne => ((hB.alloc _).grown hg3 (pX.symm.ne1 hlt)).far hne _
        have hpp := HP.out _ a w3 _ rfl (by rw [freeB_symm]; exact HI.out) hown3 hg3 hat3
        have hpf := hpp.symm.far HsRel.kept HsRel.mono (p := ⟨g16 + 1, 10, none⟩) (by simp) (.slice A6 (L2.length + 1) q6)
        go_roundw
        case rel =>
          refine ⟨k + 1, _, _, by omega, by go_num, hgr b0 (by omega) (by omega), hgr b3 (by omega) (by omega), hgr b4 (by omega) (by omega), hgr b16 (by omega) (by omega), e10.set_ 10 _, ?_, hbw, by simp; omega⟩
          rw [T1.out, T2.out]
          exact hpf
        case measure => simp [intOf]; omega
      · have hlt2 : (FloatKind.f64.format.order (ofB a.key) x == some Ordering.lt) = true := hbel
        refine hof.mono ?_
        rintro e w7 ⟨rfl, rfl⟩
        have T1 := Lib.hid (show hsF (fun k => belowB k x) (s.h.take (k + 1)) = L1 ++ [a] by have := S1.out; simpa [hbel] using this)
        have T2 := Lib.hid (show hsF (fun k => !belowB k x) (s.h.take (k + 1)) = L2 by have := S2.out; simpa [hbel] using this)
        clear hbel hof
        have pX := hp6.below HsRel.kept HsRel.mono hX
        obtain ⟨xs, hown0, hpush⟩ := Pair.own1 HsRel.kept HsRel.mono pX
        have HP := Lib.hid hpush
        have y10 := b16.cell 10
        simp only [List.getElem?_toArray, List.getElem?_cons_succ, List.getElem?_cons_zero] at y10
        have lg := b16.lt
        have lg2 : g16 < w6.heap.size + 1 := by omega
        clear hpush
        go_wp2_with (first
          | (at_builtin
             refine wpList_append_any _ rfl (.tmp 82) (.tmp 84) _ rfl (g16 + 2) 59 i0 _ 2 40 Tryz.underlying27 hi0 hz0 hz1 hz2 rfl (by omega) (.slice B1 L1.length q1) _ xs (by rfl) hown0 _ (some ⟨w6.heap.size, 0, none⟩) 1 1 [.string a.key, .slice A5 a.vs.length q5] (by rfl)
               hrd0 HO.out (by unfold maxLen; omega) (by omega) (by simp; omega) ?_
             intro v3 w3 hown3 hg3 hat3
             have e10 := (b16.alloc (.cells #[.string a.key, .slice A5 a.vs.length q5] 59)).grown hg3 (pX.ne1 (by omega))
             have z10 := e10.cell 10
             simp only [List.getElem?_toArray, List.getElem?_cons_succ, List.getElem?_cons_zero] at z10
             have f10 := e10.frozen 10
             obtain ⟨A6, q6, rfl, hq6, hq6m⟩ := own_form hown3))
        have hsz3 := hg3.size
        have hXs := HS0.out
        have hXX : Below w.heap.size w (w6.alloc (.cells #[.string a.key, .slice A5 a.vs.length q5] 59)) := hb.trans ((hb6.trans (hX.mono hf6)).mono hzz)
        have hbw := (hXX.grown hg3 hXX.size (fun q hq => by have := (hown0.lt q hq).1; omega)).setCell (p := ⟨g16, 10, none⟩) (by simp; omega) (.slice A6 (L1.length + 1) q6)
        have hgr : ∀ {g : Nat} {t : TypeId} {cs : Array Value}, Blk w6 g t cs → g < g16 + 2 → g ≠ g16 → Blk (w3.setCell ⟨g16, 10, none⟩ (.slice A6 (L1.length + 1) q6)) g t cs := fun hB hlt hne => ((hB.alloc _).grown hg3 (pX.ne1 hlt)).far hne _
        have hpp := HP.out _ a w3 _ rfl HI.out hown3 hg3 hat3
        have hpf := hpp.far HsRel.kept HsRel.mono (p := ⟨g16, 10, none⟩) (by simp) (.slice A6 (L1.length + 1) q6)
        go_roundw
        case rel =>
          refine ⟨k + 1, _, _, by omega, by go_num, hgr b0 (by omega) (by omega), hgr b3 (by omega) (by omega), hgr b4 (by omega) (by omega), e10.set_ 10 _, hgr b17 (by omega) (by omega), ?_, hbw, by simp; omega⟩
          rw [T1.out, T2.out]
          exact hpf
        case measure => simp [intOf]; omega
    · have hd1 : decide ((k : Int) < (n1 : Int)) = false := by simp; omega
      have he : s.h.take k = s.h := List.take_of_length_le (by omega)
      rw [he] at hp hf1 hf2 hq1 hq2 b16 b17
      have z11 := b0.cell 11
      simp only [List.getElem?_toArray, List.getElem?_cons_succ, List.getElem?_cons_zero] at z11
      have l0 := b0.lt
      obtain ⟨hv1, hv2⟩ := hp.held HsRel.mono (by omega)
      clear he
      generalize hsF (fun k => belowB k x) s.h = L1 at *
      generalize hsF (fun k => !belowB k x) s.h = L2 at *
      clear hp b0
      go_wp2
      obtain ⟨w1, rfl⟩ : ∃ w1, w1 = wr := ⟨_, rfl⟩
      clear z11 l0
      have hw1 : Below w.heap.size w w1 := hb
      go_loopw [97] (fun i wr => Div2 s (.slice A1 n1 c1) (.slice A2 n2 c2) sl su fl st x w g16 (.slice B1 L1.length q1) (.slice B2 L2.length q2) w1.heap.size w1 i wr) (fun i _ => n2 - (intOf i).toNat)
      case atStart => exact ⟨0, _, _, by omega, rfl, b3, b4, b16, b17, Pair.nil _, fun _ _ _ => rfl, hb, Nat.le_refl _⟩
      case round =>
        clear b3 b4 b16 b17 hb hzz
        obtain ⟨k2, v3, v4, hk2, rfl, b3, b4, b16, b17, hp, hsm, hb, hN⟩ := hrel
        have hzz := hb.size
        obtain ⟨B3, q3, rfl, hq3, hq3m⟩ := hp.form1
        obtain ⟨B4, q4, rfl, hq4, hq4m⟩ := hp.form2
        have hf3 : ((s.p.take k2).map (pnF fun k => belowB k x)).length ≤ k2 := by simp; omega
        have hf4 : (((s.p.take k2).map (pnF fun k => !belowB k x)).filter fullP).length ≤ k2 := Nat.le_trans (List.length_filter_le _ _) (by simp; omega)
        by_cases hlt : k2 < n2
        · obtain ⟨ad, a, A3, n3, c3, A4, n4, c4, rfl, ha, hbk, hxt, hxs, d0, d1, d2, d3, d4, d5, d6, d7, hn3, hc3, hs3, hn4, hc4, hs4⟩ := ((h2.below PnRel.kept hb).more PnRel.kept hb.size).pn hlt
          have hd1 : decide ((k2 : Int) < (n2 : Int)) = true := by simp; omega
          have hk0 : (0 : Int) ≤ (k2 : Int) := by omega
          have hk1 : (k2 : Int) < (n2 : Int) := by omega
          have hsml := hQ.2 a (List.mem_of_getElem? ha)
          have hl3 := hs3.1
          have hl4 := hs4.1
          have S1 := Lib.hid (map_snoc (fun k => belowB k x) ha)
          have S2 := Lib.hid (full_snoc (fun k => !belowB k x) ha)
          have hr3 : n3 ≤ 1000000 := by omega
          have hr4 : n4 ≤ 1000000 := by omega
          clear ha hl3 hl4 hsml
          generalize (s.p.take k2).map (pnF fun k => belowB k x) = P1 at *
          generalize ((s.p.take k2).map (pnF fun k => !belowB k x)).filter fullP = P2 at *
          have hX : Below wr.heap.size wr (wr.alloc (.cells (a.arr (.slice A3 n3 c3) (.slice A4 n4 c4)) 45)) := by go_grown
          have hs3X := (hs3.below KyRel.kept hX).more KyRel.kept hX.size
          have hs4X := (hs4.below WtRel.kept hX).more WtRel.kept hX.size
          go_wp2_with (go_at_call 36; fail)
          refine (halves_any a x A3 A4 n3 n4 c3 c4 _ hs3X hs4X hr3 hr4).mono ?_
          rintro e w5 ⟨r1, u1, r2, u2, rfl, o1, o2, o3, o4, hb5⟩
          have o1 : OwnL keyCells 9 1 _ w5 r1 (pnL a x).r := o1
          have o2 : OwnL Wt.cells 86 4 _ w5 u1 (pnL a x).w := o2
          have o3 : OwnL keyCells 9 1 _ w5 r2 (pnR a x).r := o3
          have o4 : OwnL Wt.cells 86 4 _ w5 u2 (pnR a x).w := o4
          have k1 : ∀ k ∈ (pnL a x).r, k.size ≤ 140737488351232 := fun k hk => Sl.all_ok hs3 k (List.mem_filter.1 hk).1
          have k2' : ∀ k ∈ (pnL a x).w, Wt.ok k := fun k hk => Sl.all_ok hs4 k (List.mem_filter.1 hk).1
          have k3 : ∀ k ∈ (pnR a x).r, k.size ≤ 140737488351232 := fun k hk => Sl.all_ok hs3 k (List.mem_filter.1 hk).1
          have k4 : ∀ k ∈ (pnR a x).w, Wt.ok k := fun k hk => Sl.all_ok hs4 k (List.mem_filter.1 hk).1
          have K1 := Lib.hid k1
          have K2 := Lib.hid k2'
          have K3 := Lib.hid k3
          have K4 := Lib.hid k4
          have m1 : (pnR a x).r.length ≤ 1000000 := Nat.le_trans (List.length_filter_le _ _) (by have := hs3.1; omega)
          have m2 : (pnR a x).w.length ≤ 1000000 := Nat.le_trans (List.length_filter_le _ _) (by have := hs4.1; omega)
          have t1 : (pnL a x).t.ok := hxt
          have t2 : (pnL a x).s.ok := hxs
          have t3 : (pnR a x).t.ok := hxt
          have t4 : (pnR a x).s.ok := hxs
          have S1 : RowKit.Hid ((s.p.take (k2 + 1)).map (pnF fun k => belowB k x) = P1 ++ [pnL a x]) := S1
          have S2 : RowKit.Hid (((s.p.take (k2 + 1)).map (pnF fun k => !belowB k x)).filter fullP = if fullP (pnR a x) then P2 ++ [pnR a x] else P2) := S2
          clear k1 k2' k3 k4
          generalize pnL a x = y at *
          generalize pnR a x = z at *
          obtain ⟨D1, e1, rfl, he1, he1m⟩ := o1.form
          obtain ⟨D2, e2, rfl, he2, he2m⟩ := o2.form
          obtain ⟨D3, e3, rfl, he3, he3m⟩ := o3.form
          obtain ⟨D4, e4, rfl, he4, he4m⟩ := o4.form
          have hb5r : Below wr.heap.size wr w5 := hX.trans (hb5.mono hX.size)
          have hz5 : wr.heap.size + 1 ≤ w5.heap.size := by have := hb5.size; simpa using this
          clear hX hs3X hs4X d0 d1 d2 d3 d4 d5 d6 d7 hs3 hs4 hb5
          go_upto_region 22 with (first
            | (refine wpList_store_new2 rfl 45 _ _ rfl _ rfl rfl _ _ _ (by kernel_rfl) (by kernel_rfl) (by kernel_rfl) ?_)
            | (refine wpList_store_new rfl 45 _ _ rfl _ rfl rfl _ _ (by kernel_rfl) (by kernel_rfl) (by kernel_rfl) ?_))
          have i22 : Blk ((w5.alloc (.cells (y.arr (.slice D1 y.r.length e1) (.slice D2 y.w.length e2)) 45)).alloc (.cells (z.arr (.slice D3 z.r.length e3) (.slice D4 z.w.length e4)) 45)) w5.heap.size 45 (y.arr (.slice D1 y.r.length e1) (.slice D2 y.w.length e2)) := (Blk.new _ _ _).alloc _
          have i23 : Blk ((w5.alloc (.cells (y.arr (.slice D1 y.r.length e1) (.slice D2 y.w.length e2)) 45)).alloc (.cells (z.arr (.slice D3 z.r.length e3) (.slice D4 z.w.length e4)) 45)) (w5.heap.size + 1) 45 (z.arr (.slice D3 z.r.length e3) (.slice D4 z.w.length e4)) := Blk.new' _ _ (by simp)
          have hb56 : Below w5.heap.size w5 ((w5.alloc (.cells (y.arr (.slice D1 y.r.length e1) (.slice D2 y.w.length e2)) 45)).alloc (.cells (z.arr (.slice D3 z.r.length e3) (.slice D4 z.w.length e4)) 45)) := by go_grown
          have hz6 : ((w5.alloc (.cells (y.arr (.slice D1 y.r.length e1) (.slice D2 y.w.length e2)) 45)).alloc (.cells (z.arr (.slice D3 z.r.length e3) (.slice D4 z.w.length e4)) 45)).heap.size = w5.heap.size + 2 := by simp
          have o1 := (o1.mono_base (base' := wr.heap.size + 1) (by simp)).below hb56
          have o2 := (o2.mono_base (base' := wr.heap.size + 1) (by simp)).below hb56
          have o3 := (o3.mono_base (base' := wr.heap.size + 1) (by simp)).below hb56
          have o4 := (o4.mono_base (base' := wr.heap.size + 1) (by simp)).below hb56
          have hb6 : Below wr.heap.size wr ((w5.alloc (.cells (y.arr (.slice D1 y.r.length e1) (.slice D2 y.w.length e2)) 45)).alloc (.cells (z.arr (.slice D3 z.r.length e3) (.slice D4 z.w.length e4)) 45)) := hb5r.trans (hb56.mono (by omega))
          clear hb56
          generalize ((w5.alloc (.cells (y.arr (.slice D1 y.r.length e1) (.slice D2 y.w.length e2)) 45)).alloc (.cells (z.arr (.slice D3 z.r.length e3) (.slice D4 z.w.length e4)) 45)) = w6 at *
          have hz6' : w6.heap.size ≤ w5.heap.size + 2 := by omega
          have hz6'' : w5.heap.size + 2 ≤ w6.heap.size := by omega
          clear hz6
          generalize w5.heap.size = g22 at *
          have hf6 := hb6.size
          have b3 := b3.below hb6 b3.lt
          have b4 := b4.below hb6 b4.lt
          have b16 := b16.below hb6 b16.lt
          have b17 := b17.below hb6 b17.lt
          have hp6 := hp.below PnRel.kept PnRel.mono hb6
          have hX := (Below.refl w6.heap.size w6).alloc (Nat.le_refl _) (.cells (y.arr (.slice D1 y.r.length e1) (.slice D2 y.w.length e2)) 45)
          have hrd0 := reads_new' w6 45 (y.cs (.slice D1 y.r.length e1) (.slice D2 y.w.length e2)) 8 rfl
          have hsz0 : (w6.alloc (.cells (y.arr (.slice D1 y.r.length e1) (.slice D2 y.w.length e2)) 45)).heap.size = w6.heap.size + 1 := by simp
          have hK : ∀ k, wr.heap.size + 1 ≤ k → k < (w6.alloc (.cells (y.arr (.slice D1 y.r.length e1) (.slice D2 y.w.length e2)) 45)).heap.size → freeB w1.heap.size (w6.alloc (.cells (y.arr (.slice D1 y.r.length e1) (.slice D2 y.w.length e2)) 45)).heap.size (.slice B3 P1.length q3) (.slice B4 P2.length q4) k = true := hp.fresh (by omega) (by omega) (by omega)
          have hin : Inn PnRel (freeB w1.heap.size (w6.alloc (.cells (y.arr (.slice D1 y.r.length e1) (.slice D2 y.w.length e2)) 45)).heap.size (.slice B3 P1.length q3) (.slice B4 P2.length q4)) (w6.alloc (.cells (y.arr (.slice D1 y.r.length e1) (.slice D2 y.w.length e2)) 45)) (y.cs (.slice D1 y.r.length e1) (.slice D2 y.w.length e2)) y :=
            ⟨_, _, rfl, t1, t2, OwnL.inn (by omega) ky_len (o1.below hX) K1.out hK, OwnL.inn (by omega) wt_len (o2.below hX) K2.out hK⟩
          have HI := Lib.hid hin
          have HS0 := Lib.hid hsz0
          have pX := hp6.below PnRel.kept PnRel.mono hX
          obtain ⟨xs, hown0, hpush⟩ := Pair.own1 PnRel.kept PnRel.mono pX
          have HP := Lib.hid hpush
          have y11 := b16.cell 11
          simp only [List.getElem?_toArray, List.getElem?_cons_succ, List.getElem?_cons_zero] at y11
          have lg := b16.lt
          have lg2 : g16 < w6.heap.size + 1 := by omega
          obtain ⟨l22, j0, j1, j2, j3, j4, j5, j6, j7⟩ := i22.eight
          clear hpush hin hK hsz0
          go_upto_region 23 with (first
            | (at_builtin
               refine wpList_append_any _ rfl (.tmp 108) (.tmp 110) _ rfl w1.heap.size 45 i1 _ 8 96 Tryz.underlying28 hi1 iz0 iz1 iz2 rfl (by omega) (.slice B3 P1.length q3) _ xs (by rfl) hown0 _ (some ⟨w6.heap.size, 0, none⟩) 1 1 (y.cs (.slice D1 y.r.length e1) (.slice D2 y.w.length e2)) (by rfl)
                 hrd0 (pn_one y _ _ _ _ _ _) (by unfold maxLen; omega) (by omega) (by simp; omega) ?_
               intro v3 w3 hown3 hg3 hat3
               have e16 := (b16.alloc (.cells (y.arr (.slice D1 y.r.length e1) (.slice D2 y.w.length e2)) 45)).grown hg3 (pX.ne1 (by omega))
               have z11 := e16.cell 11
               simp only [List.getElem?_toArray, List.getElem?_cons_succ, List.getElem?_cons_zero] at z11
               have f11 := e16.frozen 11
               obtain ⟨A6, q6, rfl, hq6, hq6m⟩ := own_form hown3))
          have hrow : ∀ g, (g < w1.heap.size ∨ wr.heap.size ≤ g) → some g ≠ (Value.slice B3 P1.length q3).ownBlock := fun g hg e => by have := hp.1.lt g e.symm; omega
          have hsz3 := hg3.size
          rw [World.size_alloc] at hsz3
          have hXs := HS0.out
          have hd3 : ∀ k, (Value.slice D3 z.r.length e3).ownBlock = some k → wr.heap.size + 1 ≤ k ∧ k < w6.heap.size := World.ownsRow.lt o3
          have hd4 : ∀ k, (Value.slice D4 z.w.length e4).ownBlock = some k → wr.heap.size + 1 ≤ k ∧ k < w6.heap.size := World.ownsRow.lt o4
          have hd3' : ∀ k, (Value.slice D3 z.r.length e3).ownBlock = some k → (Value.slice A6 (P1.length + 1) q6).ownBlock ≠ some k := fun k e e9 => by
            have h8 := hd3 k e
            rcases hat3 with h9 | h9
            · have := hp.1.lt k (h9.symm.trans e9); omega
            · rw [h9, World.size_alloc] at e9; injection e9 with e9; omega
          have hd4' : ∀ k, (Value.slice D4 z.w.length e4).ownBlock = some k → (Value.slice A6 (P1.length + 1) q6).ownBlock ≠ some k := fun k e e9 => by
            have h8 := hd4 k e
            rcases hat3 with h9 | h9
            · have := hp.1.lt k (h9.symm.trans e9); omega
            · rw [h9, World.size_alloc] at e9; injection e9 with e9; omega
          have hd3s : ∀ k, (Value.slice D3 z.r.length e3).ownBlock = some k → (Value.slice B4 P2.length q4).ownBlock ≠ some k := fun k e e9 => by have := hd3 k e; have := hp.2.1.lt k e9; omega
          have hd4s : ∀ k, (Value.slice D4 z.w.length e4).ownBlock = some k → (Value.slice B4 P2.length q4).ownBlock ≠ some k := fun k e e9 => by have := hd4 k e; have := hp.2.1.lt k e9; omega
          have hpp := (HP.out _ y w3 _ rfl HI.out hown3 hg3 hat3).far PnRel.kept PnRel.mono (p := ⟨g16, 11, none⟩) (by simp; omega) (.slice A6 (P1.length + 1) q6)
          have hheap : ∀ g, (g < w1.heap.size ∨ wr.heap.size ≤ g) → g ≠ g16 → g < w6.heap.size → (w3.setCell ⟨g16, 11, none⟩ (.slice A6 (P1.length + 1) q6)).heap[g]? = w6.heap[g]? := fun g h8 h9 h10 => app_step hX hg3 (hrow g h8) h9 h10
          have b3 : Blk _ _ _ _ := (hheap _ (by omega) (by omega) b3.lt).trans b3
          have b4 : Blk _ _ _ _ := (hheap _ (by omega) (by omega) b4.lt).trans b4
          have b17 : Blk _ _ _ _ := (hheap _ (by omega) (by omega) b17.lt).trans b17
          have i23 : Blk _ _ _ _ := (hheap _ (by omega) (by omega) i23.lt).trans i23
          have b16' : Blk (w3.setCell ⟨g16, 11, none⟩ (.slice A6 (P1.length + 1) q6)) g16 30 (stArr sl s.f s.c (.slice B1 L1.length q1) (.slice A6 (P1.length + 1) q6)) := e16.set_ 11 _
          have o3 : OwnL _ _ _ _ _ _ _ := owns_same o3 (fun k h8 h9 => hheap k (by omega) (by omega) h9)
          have o4 : OwnL _ _ _ _ _ _ _ := owns_same o4 (fun k h8 h9 => hheap k (by omega) (by omega) h9)
          have hXX : Below w.heap.size w (w6.alloc (.cells (y.arr (.slice D1 y.r.length e1) (.slice D2 y.w.length e2)) 45)) := hb.trans ((hb6.trans (hX.mono hf6)).mono hzz)
          have hbw := (hXX.grown hg3 hXX.size (fun q hq => by have := (hown0.lt q hq).1; have := hw1.size; omega)).setCell (p := ⟨g16, 11, none⟩) (by simp; omega) (.slice A6 (P1.length + 1) q6)
          have hsm8 : ∀ j, g16 + 2 ≤ j → j < w1.heap.size → (w3.setCell ⟨g16, 11, none⟩ (.slice A6 (P1.length + 1) q6)).heap[j]? = w1.heap[j]? := fun j h8 h9 => (hheap j (by omega) (by omega) (by omega)).trans ((hb6.block j (by omega)).trans (hsm j h8 h9))
          have hz8 : (w3.setCell ⟨g16, 11, none⟩ (.slice A6 (P1.length + 1) q6)).heap.size = w3.heap.size := by simp [World.setCell]
          have hz8' : w6.heap.size ≤ (w3.setCell ⟨g16, 11, none⟩ (.slice A6 (P1.length + 1) q6)).heap.size := by omega
          clear hz8 hp hp6 hX hrd0 pX hown0 hg3 hat3 hrow hheap b16 e16 z11 f11 y11 lg lg2 j0 j1 j2 j3 j4 j5 j6 j7 l22 i22 o1 o2 HP HI HS0 hXs hXX hsz3 hb6 hsm hown3 hb
          generalize (w3.setCell ⟨g16, 11, none⟩ (.slice A6 (P1.length + 1) q6)) = w8 at *
          clear w3
          obtain ⟨l23, j0, j1, j2, j3, j4, j5, j6, j7⟩ := i23.eight
          by_cases hz : fullP z = true
          · have hzz0 : 0 < z.r.length + z.w.length := by unfold fullP at hz; simpa using hz
            have hzd : decide ((0 : Int) < (z.r.length : Int) + (z.w.length : Int)) = true := by simp; omega
            have T2 := Lib.hid (show ((s.p.take (k2 + 1)).map (pnF fun k => !belowB k x)).filter fullP = P2 ++ [z] by have := S2.out; rw [if_pos hz] at this; exact this)
            clear hz S2
            have hX := (Below.refl w8.heap.size w8).alloc (Nat.le_refl _) (.cells (z.arr (.slice D3 z.r.length e3) (.slice D4 z.w.length e4)) 45)
            have hrd0 := reads_new' w8 45 (z.cs (.slice D3 z.r.length e3) (.slice D4 z.w.length e4)) 8 rfl
            have hsz0 : (w8.alloc (.cells (z.arr (.slice D3 z.r.length e3) (.slice D4 z.w.length e4)) 45)).heap.size = w8.heap.size + 1 := by simp
            have pX := (hpp.below PnRel.kept PnRel.mono hX).symm
            have hin : Inn PnRel (freeB w1.heap.size (w8.alloc (.cells (z.arr (.slice D3 z.r.length e3) (.slice D4 z.w.length e4)) 45)).heap.size (.slice B4 P2.length q4) (.slice A6 (P1.length + 1) q6)) (w8.alloc (.cells (z.arr (.slice D3 z.r.length e3) (.slice D4 z.w.length e4)) 45)) (z.cs (.slice D3 z.r.length e3) (.slice D4 z.w.length e4)) z :=
              ⟨_, _, rfl, t3, t4, OwnL.inn2 (by omega) ky_len (o3.below hX) K3.out (fun k e => freeB_iff.2 ⟨by have := hd3 k e; omega, by have := hd3 k e; omega, hd3s k e, hd3' k e⟩),
                OwnL.inn2 (by omega) wt_len (o4.below hX) K4.out (fun k e => freeB_iff.2 ⟨by have := hd4 k e; omega, by have := hd4 k e; omega, hd4s k e, hd4' k e⟩)⟩
            have HI := Lib.hid hin
            have HS0 := Lib.hid hsz0
            obtain ⟨xs, hown0, hpush⟩ := Pair.own1 PnRel.kept PnRel.mono pX
            have HP := Lib.hid hpush
            have y11 := b17.cell 11
            simp only [List.getElem?_toArray, List.getElem?_cons_succ, List.getElem?_cons_zero] at y11
            have lg := b17.lt
            have lg2 : g16 + 1 < w8.heap.size + 1 := by omega
            clear hpush hin hsz0 hd3 hd4 hd3' hd4' hd3s hd4s o3 o4
            go_wp2_with (first
              | (at_builtin
                 refine wpList_append_any _ rfl (.tmp 122) (.tmp 124) _ rfl w1.heap.size 45 i1 _ 8 96 Tryz.underlying28 hi1 iz0 iz1 iz2 rfl (by omega) (.slice B4 P2.length q4) _ xs (by rfl) hown0 _ (some ⟨w8.heap.size, 0, none⟩) 1 1 (z.cs (.slice D3 z.r.length e3) (.slice D4 z.w.length e4)) (by rfl)
                   hrd0 (pn_one z _ _ _ _ _ _) (by unfold maxLen; omega) (by omega) (by simp; omega) ?_
                 intro v3 w3 hown3 hg3 hat3
                 have e17 := (b17.alloc (.cells (z.arr (.slice D3 z.r.length e3) (.slice D4 z.w.length e4)) 45)).grown hg3 (pX.ne1 (by omega))
                 have z11 := e17.cell 11
                 simp only [List.getElem?_toArray, List.getElem?_cons_succ, List.getElem?_cons_zero] at z11
                 have f11 := e17.frozen 11
                 obtain ⟨A7, q7, rfl, hq7, hq7m⟩ := own_form hown3))
            have hrow : ∀ g, g < w1.heap.size → some g ≠ (Value.slice B4 P2.length q4).ownBlock := fun g hg => pX.ne1 hg
            have hsz3 := hg3.size
            rw [World.size_alloc] at hsz3
            have hpq := (HP.out _ z w3 _ rfl HI.out hown3 hg3 hat3).symm.far PnRel.kept PnRel.mono (p := ⟨g16 + 1, 11, none⟩) (by simp; omega) (.slice A7 (P2.length + 1) q7)
            have hheap : ∀ g, g < w1.heap.size → g ≠ g16 + 1 → g < w8.heap.size → (w3.setCell ⟨g16 + 1, 11, none⟩ (.slice A7 (P2.length + 1) q7)).heap[g]? = w8.heap[g]? := fun g h8 h9 h10 => app_step hX hg3 (hrow g h8) h9 h10
            have hXX : Below w.heap.size w (w8.alloc (.cells (z.arr (.slice D3 z.r.length e3) (.slice D4 z.w.length e4)) 45)) := hbw.trans (hX.mono hbw.size)
            have hbx := (hXX.grown hg3 hXX.size (fun q hq => by have := (hown0.lt q hq).1; have := hw1.size; omega)).setCell (p := ⟨g16 + 1, 11, none⟩) (by simp; omega) (.slice A7 (P2.length + 1) q7)
            go_roundw
            case rel =>
              refine ⟨k2 + 1, _, _, by omega, by go_num, (hheap _ (by omega) (by omega) b3.lt).trans b3, (hheap _ (by omega) (by omega) b4.lt).trans b4, (hheap _ (by omega) (by omega) b16'.lt).trans b16', e17.set_ 11 _, ?_, fun j h8 h9 => (hheap j h9 (by omega) (by omega)).trans (hsm8 j h8 h9), hbx, by simp [World.setCell]; omega⟩
              rw [S1.out, T2.out]
              exact hpq
            case measure => simp [intOf]; omega
          · have hzz0 : ¬ 0 < z.r.length + z.w.length := by unfold fullP at hz; simpa using hz
            have hzd : decide ((0 : Int) < (z.r.length : Int) + (z.w.length : Int)) = false := by simp; omega
            have T2 := Lib.hid (show ((s.p.take (k2 + 1)).map (pnF fun k => !belowB k x)).filter fullP = P2 by have := S2.out; rw [if_neg hz] at this; exact this)
            clear hz S2
            go_wp2
            go_roundw
            case rel =>
              refine ⟨k2 + 1, _, _, by omega, by go_num, b3, b4, b16', b17, ?_, hsm8, hbw, by omega⟩
              rw [S1.out, T2.out]
              exact hpp
            case measure => simp [intOf]; omega
        · have hd1 : decide ((k2 : Int) < (n2 : Int)) = false := by simp; omega
          have he : s.p.take k2 = s.p := List.take_of_length_le (by omega)
          rw [he] at hp hf3 hf4 hq3 hq4 b16 b17
          clear he
          generalize hP1 : s.p.map (pnF fun k => belowB k x) = P1 at *
          generalize hP2 : (s.p.map (pnF fun k => !belowB k x)).filter fullP = P2 at *
          have hlt6 := b16.lt
          go_wp2
          refine wp_region_held_drew (S := fun w' => Blk w' g16 30 (stArr sl s.f s.c (.slice B1 L1.length q1) (.slice B3 P1.length q3)) ∧ Blk w' (g16 + 1) 30 (stArr su fl st (.slice B2 L2.length q2) (.slice B4 P2.length q4))) (by kernel_rfl) ⟨b16, b17⟩ (fun hHeld => ?_)
          refine wpAnyH_take (i := 0) (oi := ⟨some 128, .load 30 (.tmp 16), _, _, _, _⟩) rfl (by kernel_rfl) (by kernel_rfl) (by kernel_rfl) (fun _ _ _ h => h) (yieldsIf_load_blk (by rfl) _ _ rfl g16 rfl _ _ _ (fun _ h => h.1) rfl rfl (by kernel_rfl)) hHeld ?_
          go_frame
          refine wpAnyH_take (i := 1) (oi := ⟨some 129, .load 30 (.tmp 17), _, _, _, _⟩) rfl (by kernel_rfl) (by kernel_rfl) (by kernel_rfl) (fun _ _ _ h => h) (yieldsIf_load_blk (by rfl) _ _ rfl (g16 + 1) rfl _ _ _ (fun _ h => h.2) rfl rfl (by kernel_rfl)) hHeld ?_
          go_frame
          refine wpAnyH_ready (rs := [2]) (by kernel_rfl) (by simp) ?_
          refine AllReadyH.cons rfl (fun K hK => ?_) AllReadyH.nil
          rw [if_pos (by rfl)]
          refine wp_store_row _ _ _ rfl _ _ rfl rfl _ _ b3 (by kernel_rfl) (by kernel_rfl) (by kernel_rfl) ?_
          refine hK.out _ _ ⟨b16.setRow_far _ (by omega), b17.setRow_far _ (by omega)⟩ (fun hHeld => ?_)
          clear hK K
          go_frame
          refine wpAnyH_ready (rs := [3]) (by kernel_rfl) (by simp) ?_
          refine AllReadyH.cons rfl (fun K hK => ?_) AllReadyH.nil
          rw [if_pos (by rfl)]
          refine wp_store_row _ _ _ rfl _ _ rfl rfl _ _ (b4.setRow_far _ (by omega)) (by kernel_rfl) (by kernel_rfl) (by kernel_rfl) ?_
          refine hK.out _ _ ⟨(b16.setRow_far _ (by omega)).setRow_far _ (by omega), (b17.setRow_far _ (by omega)).setRow_far _ (by omega)⟩ (fun hHeld => ?_)
          clear hK K
          go_frame
          refine wpAnyH_ready (rs := [4]) (by kernel_rfl) (by simp) ?_
          refine AllReadyH.cons rfl (fun K hK => ?_) AllReadyH.nil
          rw [if_pos (by rfl)]
          go_simp
          refine hK.out _ _ ⟨(b16.setRow_far _ (by omega)).setRow_far _ (by omega), (b17.setRow_far _ (by omega)).setRow_far _ (by omega)⟩ (fun hHeld => ?_)
          clear hK K
          refine wpAnyH_done (by kernel_rfl) ?_ _
          have y3 := (b3.setRow (stArr sl s.f s.c (.slice B1 L1.length q1) (.slice B3 P1.length q3))).setRow_far (g' := w.heap.size + 1 + 1 + 1 + 1) (stArr su fl st (.slice B2 L2.length q2) (.slice B4 P2.length q4)) (by omega)
          have y4 := (b4.setRow_far (g' := w.heap.size + 1 + 1 + 1) (stArr sl s.f s.c (.slice B1 L1.length q1) (.slice B3 P1.length q3)) (by omega)).setRow (stArr su fl st (.slice B2 L2.length q2) (.slice B4 P2.length q4))
          go_wp2
          refine post_cell_cell_tmp rfl (by rfl) (by rfl) y3 y4 rfl rfl (by kernel_rfl) rfl rfl (by kernel_rfl) ?_
          rw [HL.out, HR.out]
          have hk8 : ∀ j, g16 + 2 ≤ j → ((wr.drew.setRow (w.heap.size + 1 + 1 + 1) (stArr sl s.f s.c (.slice B1 L1.length q1) (.slice B3 P1.length q3))).setRow (w.heap.size + 1 + 1 + 1 + 1) (stArr su fl st (.slice B2 L2.length q2) (.slice B4 P2.length q4))).heap[j]? = wr.heap[j]? := fun j hj => (setRow_other _ _ _ _ (by omega)).trans (setRow_other _ _ _ _ (by omega))
          have hs8 : ((wr.drew.setRow (w.heap.size + 1 + 1 + 1) (stArr sl s.f s.c (.slice B1 L1.length q1) (.slice B3 P1.length q3))).setRow (w.heap.size + 1 + 1 + 1 + 1) (stArr su fl st (.slice B2 L2.length q2) (.slice B4 P2.length q4))).heap.size = wr.heap.size := by rw [size_setRow, size_setRow]; rfl
          have hpw := hp.same (w' := (wr.drew.setRow (w.heap.size + 1 + 1 + 1) (stArr sl s.f s.c (.slice B1 L1.length q1) (.slice B3 P1.length q3))).setRow (w.heap.size + 1 + 1 + 1 + 1) (stArr su fl st (.slice B2 L2.length q2) (.slice B4 P2.length q4))) PnRel.kept PnRel.mono (by rw [hs8]; exact Nat.le_refl _) (fun k h8 h9 => hk8 k (by omega))
          refine ⟨_, _, _, _, rfl, ?_, hpw.1.sl PnRel.mono (by omega), ?_, hpw.2.1.sl PnRel.mono (by omega), below_setRow (below_setRow hb.drew (by omega) _) (by omega) _⟩
          · exact (hv1.stay HsRel.kept fun k hk => by rw [rng_iff] at hk; exact (hk8 k hk.1).trans (hsm k hk.1 hk.2)).out HsRel.kept HsRel.mono (by rw [hs8]; exact hN)
          · exact (hv2.stay HsRel.kept fun k hk => by rw [rng_iff] at hk; exact (hk8 k hk.1).trans (hsm k hk.1 hk.2)).out HsRel.kept HsRel.mono (by rw [hs8]; exact hN)

/-- Divide, whatever the state -/
theorem divide_any (s : Stt) (A1 A2 : Option Addr) (n1 n2 c1 c2 : Nat) (x : Nat) (k : Int) (st fl : Sp) (w : World) (hok : s.r.ok) (hx : x < 18446744073709551616) (h1 : Sl HsRel 2 w w.heap.size A1 n1 s.h) (h2 : Sl PnRel 8 w w.heap.size A2 n2 s.p) (hH : SmallH s.h) (hQ : SmallP s.p) :
    Calls Tryz.prog 11 #[.agg (s.arr (.slice A1 n1 c1) (.slice A2 n2 c2)), .float .f64 x, .int .i64 k, st.val, fl.val] w (DivPostS w (divL s x k st fl) (divR s x k st fl) (divE s x k st fl)) := by
  by_cases hm : mayS s = true
  · by_cases hsf : (!st.may || !fl.may) = true
    · have e : divE s x k st fl = 17 := by unfold divE; rw [hm, hsf]; rfl
      unfold divL divR
      rw [e]
      exact divide_b s A1 A2 n1 n2 c1 c2 x k st fl w hok h1 h2 hH hQ hm hsf
    · have h4 : st.may = true := by cases h : st.may <;> simp_all
      have h5 : fl.may = true := by cases h : fl.may <;> simp_all
      have e : divE s x k st fl = splitE s.r x k := by unfold divE; rw [hm, h4, h5]; rfl
      unfold divL divR
      rw [e]
      by_cases hE : splitE s.r x k = 0
      · rw [if_pos hE, if_pos hE, hE]
        exact divide_d s A1 A2 n1 n2 c1 c2 x k st fl w hok hx h1 h2 hH hQ hm h4 h5 hE
      · rw [if_neg hE, if_neg hE]
        exact divide_c s A1 A2 n1 n2 c1 c2 x k st fl w hok hx h1 h2 hH hQ hm h4 h5 hE
  · have hm' : mayS s = false := by simpa using hm
    have e : divE s x k st fl = 4 := by unfold divE; rw [hm']; rfl
    unfold divL divR
    rw [e]
    exact divide_a s A1 A2 n1 n2 c1 c2 x k st fl w hok h1 h2 hH hQ hm'
end Go.Proofs.YtipacjbegfingaaGreat
