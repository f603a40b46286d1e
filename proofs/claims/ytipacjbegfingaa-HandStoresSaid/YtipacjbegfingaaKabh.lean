/- The document's store, its lists read above its own block alone; a pending one put in its place. -/
import Derived.Test.YtipacjbegfingaaKabe
import Derived.Test.YtipacjbegfingaaKabf
namespace Go.Proofs.Ytipacjbegfingaa
set_option linter.unusedVariables false
open Go.RowKit Fl
attribute [local go_sem] run_store_float

/-- all blocks above g -/
def ab (g : Nat) : Nat → Bool := fun k => decide (g < k)
theorem ab_iff {g k : Nat} : ab g k = true ↔ g < k := by unfold ab; rw [decide_eq_true_eq]
/-- all blocks above g but the row's own -/
def gU (g size : Nat) (v : Value) : Nat → Bool := fun k => decide (k < size) && decide (g < k) && decide (v.ownBlock ≠ some k)
theorem gU_iff {g size k : Nat} {v : Value} : gU g size v k = true ↔ k < size ∧ g < k ∧ v.ownBlock ≠ some k := by
  unfold gU
  simp only [Bool.and_eq_true, decide_eq_true_eq, and_assoc]
/-- the document's store: its two lists, and the stamp up to which was read -/
structure RSu (w : World) (g : Nat) (B1 : Option Addr) (m1 d1 : Nat) (B2 : Option Addr) (m2 d2 : Nat) (L : Sp) (Hl : List Hs) (Pl : List Pn) : Prop where
  blk : Blk w g 86 #[.slice B1 m1 d1, .slice B2 m2 d2, .int .i64 L.w, .int .i64 L.l, .int .i64 L.n]
  hs : Sl HsRel 2 (only (ab g) w) w.heap.size B1 m1 Hl
  ps : Sl PnRel 8 (only (ab g) w) w.heap.size B2 m2 Pl
  le2 : m2 ≤ d2
  d2m : d2 ≤ maxLen
  m1 : m1 ≤ maxLen
  m2 : m2 ≤ maxLen
section
variable {w w' : World} {g : Nat} {B1 B2 : Option Addr} {m1 d1 m2 d2 : Nat} {L : Sp} {Hl : List Hs} {Pl : List Pn}
theorem RSu.below (h : RSu w g B1 m1 d1 B2 m2 d2 L Hl Pl) (hb : Below w.heap.size w w') : RSu w' g B1 m1 d1 B2 m2 d2 L Hl Pl := by
  have hk : ∀ p : Addr, p.block < w.heap.size → (only (ab g) w').cell? p = (only (ab g) w).cell? p := fun p hp => by
    cases hn : ab g p.block
    · rw [only_cell_out hn, only_cell_out hn]
    · rw [only_cell_in hn, only_cell_in hn]; exact hb.cell hp
  exact ⟨h.blk.below hb h.blk.lt, (h.hs.keep HsRel.kept hk).more HsRel.kept hb.size, (h.ps.keep PnRel.kept hk).more PnRel.kept hb.size, h.le2, h.d2m, h.m1, h.m2⟩
theorem RSu.hist (h : RSu w g B1 m1 d1 B2 m2 d2 L Hl Pl) : Sl HsRel 2 w w.heap.size B1 m1 Hl := h.hs.mono HsRel.mono fun p u _ hc => (only_cell hc).2
theorem RSu.pend (h : RSu w g B1 m1 d1 B2 m2 d2 L Hl Pl) : Sl PnRel 8 w w.heap.size B2 m2 Pl := h.ps.mono PnRel.mono fun p u _ hc => (only_cell hc).2
end

theorem RSu.rst {w : World} {g : Nat} {B1 B2 : Option Addr} {m1 d1 m2 d2 : Nat} {L : Sp} {Hl : List Hs} {Pl : List Pn} (h : RSu w g B1 m1 d1 B2 m2 d2 L Hl Pl) : RSt w g B1 m1 d1 B2 m2 d2 L Hl Pl := by
  have hk : ∀ p u, p.block < w.heap.size → (only (ab g) w).cell? p = some u → (only (nb g) w).cell? p = some u := fun p u _ hc => by
    obtain ⟨h1, h2⟩ := only_cell hc
    rw [only_cell_in (nb_iff.2 (Nat.ne_of_gt (ab_iff.1 h1)))]
    exact h2
  exact ⟨h.blk, h.hs.mono HsRel.mono hk, h.ps.mono PnRel.mono hk, h.le2, h.d2m, h.m1, h.m2⟩
section
variable {α : Type} {R : Rel α} {E size base g : Nat} {w w' : World} {v : Value} {l : List α}
theorem RowR.keepU (hR : R.Kept) (hRm : R.Mono) (h : RowR R E size base (gU g w.heap.size v) w v l) (hg : g < base) (hs : w.heap.size ≤ w'.heap.size) (hb : ∀ k, k < w.heap.size → k ≠ g → w'.heap[k]? = w.heap[k]?) : RowR R E size base (gU g w'.heap.size v) w' v l := by
  obtain ⟨css, ho, hlen, hl, hc⟩ := h
  refine ⟨css, owns_same ho (fun k h1 h2 => hb k h2 (by omega)), hlen, hl, fun i cs a h1 h2 => ((hc i cs a h1 h2).keep hR (fun k hk => ?_) hs).wider hRm fun k hk => ?_⟩
  · rw [gU_iff] at hk; exact hb k hk.1 (by omega)
  · rw [gU_iff] at *; exact ⟨by omega, hk.2⟩
theorem RowR.ownU (hR : R.Kept) (hRm : R.Mono) (h : RowR R E size base (gU g w.heap.size v) w v l) (hgb : g < base) : ∃ xs, w.ownsRow base E size v l.length xs ∧
    ∀ (ds : List (List Value)) (es : List α) (w' : World) (v' : Value), ds.length = es.length → (∀ cs ∈ ds, cs.length = size) → (∀ (i : Nat) (cs : List Value) (a : α), ds[i]? = some cs → es[i]? = some a → Inn R (gU g w.heap.size v) w cs a) → w'.ownsRow base E size v' (l.length + es.length) (xs ++ ds.flatten) → w.grownBy w' v.ownBlock → (v'.ownBlock = v.ownBlock ∨ v'.ownBlock = some w.heap.size) →
      RowR R E size base (gU g w'.heap.size v') w' v' (l ++ es) := by
  obtain ⟨css, ho, hlen, hl, hc⟩ := h
  refine ⟨css.flatten, ho, fun ds es w' v' hds hdl hin hown hg hat => ?_⟩
  have hK : ∀ k, gU g w.heap.size v k = true → gU g w'.heap.size v' k = true := fun k hk => by
    rw [gU_iff] at *
    have := hg.size
    refine ⟨by omega, hk.2.1, fun e => ?_⟩
    rcases hat with e2 | e2
    · rw [e2] at e; exact hk.2.2 e
    · rw [e2] at e; injection e with e; omega
  have hB : ∀ k, gU g w.heap.size v k = true → w'.heap[k]? = w.heap[k]? := fun k hk => by
    rw [gU_iff] at hk
    exact hg.block k hk.1 (fun e => hk.2.2 e.symm)
  have up : ∀ {cs : List Value} {a : α}, Inn R (gU g w.heap.size v) w cs a → Inn R (gU g w'.heap.size v') w' cs a := fun hi => (hi.keep hR hB hg.size).wider hRm hK
  refine ⟨css ++ ds, ?_, by simp [hlen, hds], ?_, ?_⟩
  · rw [List.length_append, List.flatten_append]; exact hown
  · intro c hc'
    rcases List.mem_append.1 hc' with h1 | h1
    · exact hl c h1
    · exact hdl c h1
  · intro i c b h1 h2
    by_cases hi : i < l.length
    · rw [List.getElem?_append_left (by omega)] at h1 h2
      exact up (hc i c b h1 h2)
    · rw [List.getElem?_append_right (by omega)] at h1 h2
      rw [hlen] at h1
      exact up (hin _ c b h1 h2)
end
def PutRelU (p : Pn) (A1 A2 : Value) (g : Nat) (l : List Pn) (w : World) (v i : Value) (wr : World) : Prop :=
  ∃ k : Nat, k ≤ l.length ∧ i = .int .i64 (k : Int) ∧ (∀ x ∈ l.take k, x.t.less p.t = true) ∧ RowR PnRel 47 8 (w.heap.size + 1) (gU g wr.heap.size v) wr v (l.take k) ∧ Blk wr w.heap.size 47 (p.arr A1 A2) ∧ Below w.heap.size w wr
def PutPostU (w : World) (g : Nat) (B1 : Option Addr) (m1 d1 : Nat) (L : Sp) (Hl : List Hs) (Pl : List Pn) : Ending → World → Prop := fun e w' => ∃ B2 m2 d2, e = .returned (.tuple #[]) ∧ RSu w' g B1 m1 d1 B2 m2 d2 L Hl Pl ∧ w.grownBy w' (some g)
theorem RSu.put_end {w w9 : World} {g : Nat} {B1 B2 A9 : Option Addr} {m1 d1 m2 d2 n9 q9 : Nat} {L : Sp} {Hl : List Hs} {Pl l9 : List Pn} (h : RSu w g B1 m1 d1 B2 m2 d2 L Hl Pl) (hb : Below w.heap.size w w9)
    (hblk : Blk w9 g 86 #[.slice B1 m1 d1, .slice B2 m2 d2, .int .i64 L.w, .int .i64 L.l, .int .i64 L.n]) (hr : RowR PnRel 47 8 (w.heap.size + 1) (gU g w9.heap.size (.slice A9 n9 q9)) w9 (.slice A9 n9 q9) l9) :
    RSu (w9.setCell ⟨g, 1, none⟩ (.slice A9 n9 q9)) g B1 m1 d1 A9 n9 q9 L Hl l9 ∧ w.grownBy (w9.setCell ⟨g, 1, none⟩ (.slice A9 n9 q9)) (some g) := by
  have hs : (w9.setCell ⟨g, 1, none⟩ (.slice A9 n9 q9)).heap.size = w9.heap.size := by simp [World.setCell]
  have hbl : ∀ k, k ≠ g → (w9.setCell ⟨g, 1, none⟩ (.slice A9 n9 q9)).heap[k]? = w9.heap[k]? := fun k hk => Below.heap_setCell _ _ _ _ hk
  have hg : g < w.heap.size := h.blk.lt
  have hcell : ∀ p : Addr, (only (ab g) (w9.setCell ⟨g, 1, none⟩ (.slice A9 n9 q9))).cell? p = (only (ab g) w9).cell? p := fun p => by
    cases hn : ab g p.block
    · rw [only_cell_out hn, only_cell_out hn]
    · rw [only_cell_in hn, only_cell_in hn]; exact World.cell?_of_block (hbl _ (Nat.ne_of_gt (ab_iff.1 hn)))
  have hcell2 : ∀ p : Addr, p.block < w.heap.size → (only (ab g) (w9.setCell ⟨g, 1, none⟩ (.slice A9 n9 q9))).cell? p = (only (ab g) w).cell? p := fun p hp => by
    rw [hcell]
    cases hn : ab g p.block
    · rw [only_cell_out hn, only_cell_out hn]
    · rw [only_cell_in hn, only_cell_in hn]; exact hb.cell hp
  obtain ⟨A, n, c, e, h1, h2, h3⟩ := hr.held (K' := ab g) PnRel.mono (by omega) (fun k hk => ab_iff.2 (gU_iff.1 hk).2.1) (fun k hk => ab_iff.2 (by have := (hr.lt k hk).1; omega))
  injection e with e1 e2 e3
  subst e1 e2 e3
  refine ⟨⟨hblk.set_ 1 _, (h.hs.keep HsRel.kept hcell2).more HsRel.kept (by rw [hs]; exact hb.size), ?_, h1, h2, h.m1, Nat.le_trans h1 h2⟩, ?_⟩
  · rw [hs]; exact h3.keep PnRel.kept fun p _ => hcell p
  · exact ⟨hb.os, hb.tape, hb.output, by rw [hs]; exact hb.size, fun k hk hne => by rw [hbl k (fun e => hne (by rw [e]))]; exact hb.block k hk⟩
set_option maxRecDepth 100000 in
set_option maxHeartbeats 8000000 in
theorem rput2_any (g : Nat) (B1 B2 : Option Addr) (m1 d1 m2 d2 : Nat) (L : Sp) (Hl : List Hs) (Pl : List Pn) (p : Pn) (A1 A2 : Option Addr) (n1 n2 c1 c2 : Nat) (w : World) (h : RSu w g B1 m1 d1 B2 m2 d2 L Hl Pl) (hP : Pl.length ≤ 1000000) (hpt : p.t.ok) (hps : p.s.ok)
    (hr : Sl KyRel 1 w w.heap.size A1 n1 p.r) (hw : Sl WtRel 4 w w.heap.size A2 n2 p.w) (hn1 : n1 ≤ 1000000) (hn2 : n2 ≤ 1000000) :
    Calls Try.prog 48 #[.pointer (some ⟨g, 0, none⟩), p.val (.slice A1 n1 c1) (.slice A2 n2 c2)] w (PutPostU w g B1 m1 d1 L Hl (putL Pl p)) := by
  obtain ⟨i1, hi1, iz0, iz1, iz2⟩ := info_parts pn_info
  have hm := h.m2
  have hd2m := h.d2m
  have hle2 := h.le2
  unfold maxLen at hm
  have hl := h.ps.1
  have hge : m2 ≤ Pl.length := by omega
  have hle : Pl.length ≤ m2 := by omega
  have hgw0 : g < w.heap.size := h.blk.lt
  have hgw : g < w.heap.size + 1 := by omega
  have HH0 := Lib.hid h
  clear hl
  go_enter Try.func48, Try.ntmps48
  go_wp2
  go_loopw [4, 5] (fun v i wr => PutRelU p (.slice A1 n1 c1) (.slice A2 n2 c2) g Pl w v i wr) (fun _ i _ => m2 - (intOf i).toNat)
  case atStart => exact ⟨0, by omega, rfl, fun x hx => by simp at hx, RowR.nil _, Blk.new _ _ _, by go_grown⟩
  case round =>
    obtain ⟨k, hk, rfl, hall, hrow, b3, hb⟩ := hrel
    have hzz := hb.size
    have hst := h.below hb
    obtain ⟨gl, k0, k1, -, -, -⟩ := hst.blk.fiveC
    obtain ⟨l3, y0, y1, y2, y3, y4, y5, y6, y7⟩ := b3.eight
    obtain ⟨Av, qv, rfl, hqv, hqvm⟩ := hrow.form
    have hlen : (Pl.take k).length ≤ 1000000 := Nat.le_trans (List.length_take_le _ _) (by omega)
    by_cases hgo : ∃ a, Pl[k]? = some a ∧ a.t.less p.t = true
    · obtain ⟨a, ha, hless⟩ := hgo
      have hlt : k < m2 := by have := (List.getElem?_eq_some_iff.1 ha).1; omega
      obtain ⟨ad, a', A3, n3, c3, A4, n4, c4, rfl, ha', hbk, hxt, hxs, e0, e1, e2, e3, e4, e5, e6, e7, hn3, hc3, hs3, hn4, hc4, hs4⟩ := hst.pend.pn hlt
      obtain rfl : a = a' := Option.some.inj (ha.symm.trans ha')
      obtain ⟨ad2, a2, A3', n3', c3', A4', n4', c4', ex, ha2, hbk2, -, -, -, -, -, -, -, -, f6, f7, hn3', hc3', ks3, hn4', hc4', ks4⟩ := h.ps.pn hlt
      injection ex with ex
      subst ex
      obtain rfl : a = a2 := Option.some.inj (ha.symm.trans ha2)
      have f6 := (hb.cell (by exact hbk2)).trans (only_cell f6).2
      have f7 := (hb.cell (by exact hbk2)).trans (only_cell f7).2
      rw [e6] at f6
      rw [e7] at f7
      obtain ⟨rfl, rfl, rfl⟩ : A3 = A3' ∧ n3 = n3' ∧ c3 = c3' := by simpa using f6
      obtain ⟨rfl, rfl, rfl⟩ : A4 = A4' ∧ n4 = n4' ∧ c4 = c4' := by simpa using f7
      have hd1 : decide ((k : Int) < (m2 : Int)) = true := by simp; omega
      have hk0 : (0 : Int) ≤ (k : Int) := by omega
      have hk1 : (k : Int) < (m2 : Int) := by omega
      have hL := fun w => rtxnLess_any a.t p.t w
      rw [hless] at hL
      have hpn : PnRel (only (ab g) w) w.heap.size (a.cs (.slice A3 n3 c3) (.slice A4 n4 c4)) a := ⟨_, _, rfl, hxt, hxs, ⟨_, _, _, rfl, hn3, hc3, ks3⟩, ⟨_, _, _, rfl, hn4, hc4, ks4⟩⟩
      have HS := Lib.hid (show Pl.take (k + 1) = Pl.take k ++ [a] by rw [List.take_add_one, ha]; rfl)
      have hall2 : ∀ x ∈ Pl.take k ++ [a], x.t.less p.t = true := fun x hx => by
        rcases List.mem_append.1 hx with h1 | h1
        · exact hall x h1
        · simp only [List.mem_cons, List.not_mem_nil, or_false] at h1
          rw [h1]; exact hless
      have HA := Lib.hid hall2
      clear hall hall2 ha ha' ha2 hless f6 f7
      generalize Pl.take k = T1 at *
      go_wp2
      go_region_held3 (fun w' => w'.cell? ⟨g, 1, none⟩ = some (.slice (some ad) m2 d2) ∧ w'.cell? (ad.add (k * 8)) = some (.int .i64 a.t.c) ∧ w'.cell? ⟨(ad.add (k * 8)).block, (ad.add (k * 8)).off + 1, none⟩ = some (.int .i64 a.t.l) ∧ w'.cell? ⟨(ad.add (k * 8)).block, (ad.add (k * 8)).off + 2, none⟩ = some (.int .i64 a.t.s) ∧ w'.cell? ⟨w.heap.size, 0, none⟩ = some (.int .i64 p.t.c) ∧ w'.cell? ⟨w.heap.size, 1, none⟩ = some (.int .i64 p.t.l) ∧ w'.cell? ⟨w.heap.size, 2, none⟩ = some (.int .i64 p.t.s))
        (first | exact ⟨k1, e0, e1, e2, y0, y1, y2⟩ | exact ⟨(hb9.cell (by exact gl)).trans k1, (hb9.cell (by exact hbk)).trans e0, (hb9.cell (by exact hbk)).trans e1, (hb9.cell (by exact hbk)).trans e2, (hb9.cell (by exact l3)).trans y0, (hb9.cell (by exact l3)).trans y1, (hb9.cell (by exact l3)).trans y2⟩)
        (first | ((with_reducible refine (hL _).mono ?_); rintro e w5 ⟨rfl, hb5⟩; have hb9 : Below wr.heap.size wr w5 := (Below.refl wr.heap.size wr).drew.trans hb5))
      have b35 := b3.below hb9 l3
      have k15 := (hb9.cell (p := ⟨g, 1, none⟩) gl).trans k1
      have E := fun j (v : Value) (hc : wr.cell? ⟨(ad.add (k * 8)).block, (ad.add (k * 8)).off + j, none⟩ = some v) => (hb9.cell (p := ⟨(ad.add (k * 8)).block, (ad.add (k * 8)).off + j, none⟩) hbk).trans hc
      have q0 := (hb9.cell (by exact hbk)).trans e0
      have q1 := E 1 _ e1
      have q2 := E 2 _ e2
      have q3 := E 3 _ e3
      have q4 := E 4 _ e4
      have q5 := E 5 _ e5
      have q6 := E 6 _ e6
      have q7 := E 7 _ e7
      have gl5 : g < w5.heap.size := Nat.lt_of_lt_of_le gl hb9.size
      have hX : Below wr.heap.size wr (w5.alloc (.cells (a.arr (.slice A3 n3 c3) (.slice A4 n4 c4)) 47)) := hb9.alloc hb9.size _
      have hwX : Below w.heap.size w (w5.alloc (.cells (a.arr (.slice A3 n3 c3) (.slice A4 n4 c4)) 47)) := hb.trans (hX.mono hzz)
      have hrX := hrow.keepU PnRel.kept PnRel.mono hgw (w' := w5.alloc (.cells (a.arr (.slice A3 n3 c3) (.slice A4 n4 c4)) 47)) hX.size (fun k hk _ => hX.block k hk)
      have hlt5 := hrow.lt
      have hin : Inn PnRel (gU g (w5.alloc (.cells (a.arr (.slice A3 n3 c3) (.slice A4 n4 c4)) 47)).heap.size (.slice Av T1.length qv)) (w5.alloc (.cells (a.arr (.slice A3 n3 c3) (.slice A4 n4 c4)) 47)) (a.cs (.slice A3 n3 c3) (.slice A4 n4 c4)) a :=
        PnRel.kept.2 _ _ _ _ _ (PnRel.mono _ _ _ _ _ hpn fun p u hp hc => by
          obtain ⟨hk, hc⟩ := only_cell hc
          rw [ab_iff] at hk
          rw [only_cell_in (gU_iff.2 ⟨by have := hwX.size; omega, hk, fun e => by have := (hlt5 _ e).1; omega⟩)]
          exact (hwX.cell hp).trans hc) hwX.size
      obtain ⟨xs, hown0, hpush⟩ := hrX.ownU PnRel.kept PnRel.mono hgw
      have HI := Lib.hid hin
      have HPu := Lib.hid hpush
      have hrd0 := reads_new' w5 47 (a.cs (.slice A3 n3 c3) (.slice A4 n4 c4)) 8 rfl
      clear hpush hin e0 e1 e2 e3 e4 e5 e6 e7 k0 k1 y0 y1 y2 y3 y4 y5 y6 y7 E hpn
      have h5z := hb9.size
      go_wp2_with (first
        | (at_builtin
           refine wpList_append_any _ rfl (.tmp 26) (.tmp 34) _ rfl (w.heap.size + 1) 47 i1 _ 8 96 Try.underlying28 hi1 iz0 iz1 iz2 rfl (by omega) (.slice Av T1.length qv) _ xs (by rfl) hown0 _ (some ⟨w5.heap.size, 0, none⟩) 1 1 (a.cs (.slice A3 n3 c3) (.slice A4 n4 c4)) (by rfl)
             hrd0 (pn_one a _ _ _ _ _ _) (by unfold maxLen; omega) (by omega) (by simp; omega) ?_
           intro v3 w3 hown3 hg3 hat3
           obtain ⟨A9, q9, rfl, hq9, hq9m⟩ := own_form hown3))
      have hrn := HPu.out [a.cs (.slice A3 n3 c3) (.slice A4 n4 c4)] [a] w3 _ rfl (fun cs hcs => by simp only [List.mem_cons, List.not_mem_nil, or_false] at hcs; rw [hcs]; rfl) (fun i cs b h1 h2 => by
        cases i with
        | zero => simp only [List.getElem?_cons_zero, Option.some.injEq] at h1 h2; subst h1 h2; exact HI.out
        | succ i => simp at h1) (by simpa using hown3) hg3 hat3
      have hbw := hwX.grown hg3 hwX.size (fun q hq => by have := (hown0.lt q hq).1; omega)
      have b37 := (b35.alloc (.cells (a.arr (.slice A3 n3 c3) (.slice A4 n4 c4)) 47)).grown hg3 (fun e => by have := (hlt5 _ e.symm).1; omega)
      go_roundw
      case rel =>
        refine ⟨k + 1, by omega, by go_num, ?_, ?_, b37, hbw⟩
        · rw [HS.out]; exact HA.out
        · rw [HS.out]; exact hrn
      case measure => simp [intOf]; omega
    · have hend : ∀ a, Pl[k]? = some a → a.t.less p.t = false := fun a ha => by
        cases hx : a.t.less p.t
        · rfl
        · exact absurd ⟨a, ha, hx⟩ hgo
      have HP := Lib.hid (putL_at hk hall hend)
      have HD := Lib.hid (show Pl.drop k = Pl.drop k from rfl)
      clear hgo hall
      generalize Pl.take k = T1 at *
      by_cases hlt : k < m2
      · obtain ⟨ad, a, A3, n3, c3, A4, n4, c4, rfl, ha', hbk, hxt, hxs, e0, e1, e2, e3, e4, e5, e6, e7, hn3, hc3, hs3, hn4, hc4, hs4⟩ := hst.pend.pn hlt
        have hd1 : decide ((k : Int) < (m2 : Int)) = true := by simp; omega
        have hk0 : (0 : Int) ≤ (k : Int) := by omega
        have hk1 : (k : Int) < (m2 : Int) := by omega
        have hL := fun w => rtxnLess_any a.t p.t w
        rw [hend a ha'] at hL
        clear ha' hend
        go_wp2
        go_region_held3 (fun w' => w'.cell? ⟨g, 1, none⟩ = some (.slice (some ad) m2 d2) ∧ w'.cell? (ad.add (k * 8)) = some (.int .i64 a.t.c) ∧ w'.cell? ⟨(ad.add (k * 8)).block, (ad.add (k * 8)).off + 1, none⟩ = some (.int .i64 a.t.l) ∧ w'.cell? ⟨(ad.add (k * 8)).block, (ad.add (k * 8)).off + 2, none⟩ = some (.int .i64 a.t.s) ∧ w'.cell? ⟨w.heap.size, 0, none⟩ = some (.int .i64 p.t.c) ∧ w'.cell? ⟨w.heap.size, 1, none⟩ = some (.int .i64 p.t.l) ∧ w'.cell? ⟨w.heap.size, 2, none⟩ = some (.int .i64 p.t.s))
          (first | exact ⟨k1, e0, e1, e2, y0, y1, y2⟩ | exact ⟨(hb9.cell (by exact gl)).trans k1, (hb9.cell (by exact hbk)).trans e0, (hb9.cell (by exact hbk)).trans e1, (hb9.cell (by exact hbk)).trans e2, (hb9.cell (by exact l3)).trans y0, (hb9.cell (by exact l3)).trans y1, (hb9.cell (by exact l3)).trans y2⟩)
          (first | ((with_reducible refine (hL _).mono ?_); rintro e w5 ⟨rfl, hb5⟩; have hb9 : Below wr.heap.size wr w5 := (Below.refl wr.heap.size wr).drew.trans hb5))
        have hbW := hb9
        obtain ⟨WW, hWW⟩ : ∃ WW, WW = w5 := ⟨_, rfl⟩
        rw [← hWW] at hbW ⊢
        clear hWW hb9 hb5
        have hbk3 := b3.below hbW l3
        obtain ⟨l3', y0, y1, y2, y3, y4, y5, y6, y7⟩ := hbk3.eight
        have hwW : Below w.heap.size w WW := hb.trans (hbW.mono hzz)
        have hWz := hbW.size
        have HK1 := Lib.hid (fun k hk => Sl.all_ok hr k hk : ∀ k ∈ p.r, k.size ≤ 140737488351232)
        have HK2 := Lib.hid (fun k hk => Sl.all_ok hw k hk : ∀ k ∈ p.w, Wt.ok k)
        go_wp2_with (go_at_call 58; fail)
        refine (copyP_any p A1 A2 n1 n2 c1 c2 WW ((hr.below KyRel.kept hwW).more KyRel.kept hwW.size) ((hw.below WtRel.kept hwW).more WtRel.kept hwW.size) hn1 hn2).mono ?_
        rintro e w6 ⟨r1, u1, rfl, o1, o2, hb6⟩
        obtain ⟨D1, f1, rfl, hf1, hf1m⟩ := o1.form
        obtain ⟨D2, f2, rfl, hf2, hf2m⟩ := o2.form
        have h6z := hb6.size
        have hX6 : Below w6.heap.size w6 (w6.alloc (.cells (p.arr (.slice D1 p.r.length f1) (.slice D2 p.w.length f2)) 47)) := (Below.refl _ _).alloc (Nat.le_refl _) _
        have hX : Below wr.heap.size wr (w6.alloc (.cells (p.arr (.slice D1 p.r.length f1) (.slice D2 p.w.length f2)) 47)) := (hbW.trans (hb6.mono hWz)).trans (hX6.mono (by omega))
        have hwX : Below w.heap.size w (w6.alloc (.cells (p.arr (.slice D1 p.r.length f1) (.slice D2 p.w.length f2)) 47)) := hb.trans (hX.mono hzz)
        have hrX := hrow.keepU PnRel.kept PnRel.mono hgw (w' := w6.alloc (.cells (p.arr (.slice D1 p.r.length f1) (.slice D2 p.w.length f2)) 47)) hX.size (fun k hk _ => hX.block k hk)
        have hlt5 := hrow.lt
        have hd1o := World.ownsRow.lt o1
        have hd2o := World.ownsRow.lt o2
        have hXs : (w6.alloc (.cells (p.arr (.slice D1 p.r.length f1) (.slice D2 p.w.length f2)) 47)).heap.size = w6.heap.size + 1 := by simp
        have hin : Inn PnRel (gU g (w6.alloc (.cells (p.arr (.slice D1 p.r.length f1) (.slice D2 p.w.length f2)) 47)).heap.size (.slice Av T1.length qv)) (w6.alloc (.cells (p.arr (.slice D1 p.r.length f1) (.slice D2 p.w.length f2)) 47)) (p.cs (.slice D1 p.r.length f1) (.slice D2 p.w.length f2)) p :=
          ⟨_, _, rfl, hpt, hps, OwnL.inn2 (by omega) ky_len (o1.below hX6) HK1.out (fun k e => gU_iff.2 ⟨by have := hd1o k e; omega, by have := hd1o k e; omega, fun e9 => by have := hd1o k e; have := hlt5 k e9; omega⟩),
            OwnL.inn2 (by omega) wt_len (o2.below hX6) HK2.out (fun k e => gU_iff.2 ⟨by have := hd2o k e; omega, by have := hd2o k e; omega, fun e9 => by have := hd2o k e; have := hlt5 k e9; omega⟩)⟩
        have HI := Lib.hid hin
        obtain ⟨xs, hown0, hpush⟩ := hrX.ownU PnRel.kept PnRel.mono hgw
        have HPu := Lib.hid hpush
        have HXs := Lib.hid hXs
        have hrd0 := reads_new' w6 47 (p.cs (.slice D1 p.r.length f1) (.slice D2 p.w.length f2)) 8 rfl
        have hgX := ((h.below hwX).blk)
        clear hpush hin hXs y0 y1 y2 y3 y4 y5 y6 y7 k0 k1
        have hkm : (k : Int) ≤ (m2 : Int) := by omega
        have hkn : (0 : Int) ≤ (k : Int) := by omega
        obtain ⟨cssP, hcl, hcsz, hcr, hcp⟩ := h.ps.css (by omega)
        have HCR := Lib.hid hcr
        have HCP := Lib.hid hcp
        have HCZ := Lib.hid hcsz
        clear hcr hcp hcsz
        go_upto_region 7 with (first
          | (at_builtin
             refine wpList_append_any _ rfl (.tmp 38) (.tmp 41) _ rfl (w.heap.size + 1) 47 i1 _ 8 96 Try.underlying28 hi1 iz0 iz1 iz2 rfl (by omega) (.slice Av T1.length qv) _ xs (by rfl) hown0 _ (some ⟨w6.heap.size, 0, none⟩) 1 1 (p.cs (.slice D1 p.r.length f1) (.slice D2 p.w.length f2)) (by rfl)
               hrd0 (pn_one p _ _ _ _ _ _) (by unfold maxLen; omega) (by omega) (by simp; omega) ?_
             intro v7 w7 hown7 hg7 hat7))
        have hrow7 := HPu.out [p.cs (.slice D1 p.r.length f1) (.slice D2 p.w.length f2)] [p] w7 _ rfl (fun cs hcs => by simp only [List.mem_cons, List.not_mem_nil, or_false] at hcs; rw [hcs]; rfl) (fun i cs b h1 h2 => by
          cases i with
          | zero => simp only [List.getElem?_cons_zero, Option.some.injEq] at h1 h2; subst h1 h2; exact HI.out
          | succ i => simp at h1) (by simpa using hown7) hg7 hat7
        have hgb := hgX.grown hg7 (fun e => by have := (hlt5 _ e.symm).1; omega)
        have hw7 := hwX.grown hg7 hwX.size (fun q hq => by have := (hown0.lt q hq).1; omega)
        have hcell : ∀ q u, q.block < w.heap.size → (only (ab g) w).cell? q = some u → w7.cell? q = some u := fun q u hq hc => (hw7.cell hq).trans (only_cell hc).2
        have z1 := hgb.cell 1
        simp only [List.getElem?_toArray, List.getElem?_cons_succ, List.getElem?_cons_zero] at z1
        have zf := hgb.frozen 1
        have zl := hgb.lt
        have hX7 := hg7.size
        rw [World.size_alloc] at hX7
        have hXs := HXs.out
        obtain ⟨T2, hT2⟩ : ∃ T2, T2 = T1 ++ [p] := ⟨_, rfl⟩
        rw [← hT2] at hrow7
        have HT2 := Lib.hid hT2
        have hT2l : T2.length ≤ 1000001 := by rw [hT2]; simp; omega
        clear hT2
        obtain ⟨A7, q7, rfl, hq7, hq7m⟩ := hrow7.form
        have hlt7 := hrow7.lt
        obtain ⟨xs7, hown8, hpush8⟩ := hrow7.ownU PnRel.kept PnRel.mono hgw
        have HPu8 := Lib.hid hpush8
        have hrdP := (HCR.out.monoC hcell).cut (k := k) (cap := d2) (by omega) hle2
        rw [drop_flat 8 _ _ HCZ.out] at hrdP
        have hone : ∀ u ∈ (cssP.drop k).flatten, u.oneCell' = true := fun u hu => by
          obtain ⟨cs, hcs, hu⟩ := List.mem_flatten.1 hu
          obtain ⟨i, hi⟩ := List.getElem?_of_mem (List.mem_of_mem_drop hcs)
          have hil : i < Pl.length := by have := (List.getElem?_eq_some_iff.1 hi).1; omega
          exact pn_cells_one (HCP.out i cs _ hi (List.getElem?_eq_getElem hil)) u hu
        have HON := Lib.hid hone
        have hw7z := hw7.size
        have hle7 : w.heap.size + 1 ≤ w7.heap.size := by omega
        clear hpush8 hown7 hown0 hone
        rw [if_neg (show ¬ d2 = k by omega)] at hrdP
        go_wp2_with (first
          | (at_builtin
             refine wpList_append_any _ rfl (.tmp 44) (.tmp 50) _ rfl (w.heap.size + 1) 47 i1 _ 8 96 Try.underlying28 hi1 iz0 iz1 iz2 rfl (by omega) (.slice A7 T2.length q7) _ xs7 (by rfl) hown8 _ _ (m2 - k) (d2 - k) _ (by rfl) hrdP HON.out (by unfold maxLen; omega) (by omega) (by omega) ?_
             intro v9 w9 hown9 hg9 hat9
             have hgc := hgb.grown hg9 (fun e => by have := (hlt7 _ e.symm).1; omega)
             have z9 := hgc.cell 1
             simp only [List.getElem?_toArray, List.getElem?_cons_succ, List.getElem?_cons_zero] at z9
             have f9 := hgc.frozen 1
             have l9 := hgc.lt
             obtain ⟨A9, q9, rfl, hq9, hq9m⟩ := own_form hown9))
        all_goals go_end0
        all_goals
          have hrow9 := HPu8.out (cssP.drop k) (Pl.drop k) w9 (.slice A9 (T2.length + (m2 - k)) q9) (by simp only [List.length_drop]; omega) (fun cs hcs => HCZ.out cs (List.mem_of_mem_drop hcs)) (fun i cs b h1 h2 => by
            rw [List.getElem?_drop] at h1 h2
            exact PnRel.kept.2 _ _ _ _ _ (PnRel.mono _ _ _ _ _ (HCP.out _ cs b h1 h2) fun q u hq hc => by
              obtain ⟨hk9, hc⟩ := only_cell hc
              rw [ab_iff] at hk9
              rw [only_cell_in (gU_iff.2 ⟨by omega, hk9, fun e => by have := (hlt7 _ e).1; omega⟩)]
              exact (hw7.cell hq).trans hc) hw7z) (by rw [show (Pl.drop k).length = m2 - k by simp only [List.length_drop]; omega]; exact hown9) hg9 hat9
          obtain ⟨o1, o2⟩ := HH0.out.put_end (hw7.grown hg9 hw7z (fun q hq => by have := (hlt7 q hq).1; omega)) hgc hrow9
          rw [HP.out]
          refine ⟨A9, T2.length + (m2 - k), q9, rfl, ?_, o2⟩
          have e9 : T2 ++ Pl.drop k = T1 ++ p :: Pl.drop k := by rw [HT2.out, List.append_assoc]; rfl
          rw [← e9]
          exact o1
      · have hd1 : decide ((k : Int) < (m2 : Int)) = false := by simp; omega
        go_wp2
        go_quiet (fail)
        have hbW : Below wr.heap.size wr (wr.drewN nq) := belowN nq
        obtain ⟨WW, hWW⟩ : ∃ WW, WW = wr.drewN nq := ⟨_, rfl⟩
        rw [← hWW] at hbW ⊢
        clear hWW
        have hbk3 := b3.below hbW l3
        obtain ⟨l3', y0, y1, y2, y3, y4, y5, y6, y7⟩ := hbk3.eight
        have hwW : Below w.heap.size w WW := hb.trans (hbW.mono hzz)
        have hWz := hbW.size
        have HK1 := Lib.hid (fun k hk => Sl.all_ok hr k hk : ∀ k ∈ p.r, k.size ≤ 140737488351232)
        have HK2 := Lib.hid (fun k hk => Sl.all_ok hw k hk : ∀ k ∈ p.w, Wt.ok k)
        go_wp2_with (go_at_call 58; fail)
        refine (copyP_any p A1 A2 n1 n2 c1 c2 WW ((hr.below KyRel.kept hwW).more KyRel.kept hwW.size) ((hw.below WtRel.kept hwW).more WtRel.kept hwW.size) hn1 hn2).mono ?_
        rintro e w6 ⟨r1, u1, rfl, o1, o2, hb6⟩
        obtain ⟨D1, f1, rfl, hf1, hf1m⟩ := o1.form
        obtain ⟨D2, f2, rfl, hf2, hf2m⟩ := o2.form
        have h6z := hb6.size
        have hX6 : Below w6.heap.size w6 (w6.alloc (.cells (p.arr (.slice D1 p.r.length f1) (.slice D2 p.w.length f2)) 47)) := (Below.refl _ _).alloc (Nat.le_refl _) _
        have hX : Below wr.heap.size wr (w6.alloc (.cells (p.arr (.slice D1 p.r.length f1) (.slice D2 p.w.length f2)) 47)) := (hbW.trans (hb6.mono hWz)).trans (hX6.mono (by omega))
        have hwX : Below w.heap.size w (w6.alloc (.cells (p.arr (.slice D1 p.r.length f1) (.slice D2 p.w.length f2)) 47)) := hb.trans (hX.mono hzz)
        have hrX := hrow.keepU PnRel.kept PnRel.mono hgw (w' := w6.alloc (.cells (p.arr (.slice D1 p.r.length f1) (.slice D2 p.w.length f2)) 47)) hX.size (fun k hk _ => hX.block k hk)
        have hlt5 := hrow.lt
        have hd1o := World.ownsRow.lt o1
        have hd2o := World.ownsRow.lt o2
        have hXs : (w6.alloc (.cells (p.arr (.slice D1 p.r.length f1) (.slice D2 p.w.length f2)) 47)).heap.size = w6.heap.size + 1 := by simp
        have hin : Inn PnRel (gU g (w6.alloc (.cells (p.arr (.slice D1 p.r.length f1) (.slice D2 p.w.length f2)) 47)).heap.size (.slice Av T1.length qv)) (w6.alloc (.cells (p.arr (.slice D1 p.r.length f1) (.slice D2 p.w.length f2)) 47)) (p.cs (.slice D1 p.r.length f1) (.slice D2 p.w.length f2)) p :=
          ⟨_, _, rfl, hpt, hps, OwnL.inn2 (by omega) ky_len (o1.below hX6) HK1.out (fun k e => gU_iff.2 ⟨by have := hd1o k e; omega, by have := hd1o k e; omega, fun e9 => by have := hd1o k e; have := hlt5 k e9; omega⟩),
            OwnL.inn2 (by omega) wt_len (o2.below hX6) HK2.out (fun k e => gU_iff.2 ⟨by have := hd2o k e; omega, by have := hd2o k e; omega, fun e9 => by have := hd2o k e; have := hlt5 k e9; omega⟩)⟩
        have HI := Lib.hid hin
        obtain ⟨xs, hown0, hpush⟩ := hrX.ownU PnRel.kept PnRel.mono hgw
        have HPu := Lib.hid hpush
        have HXs := Lib.hid hXs
        have hrd0 := reads_new' w6 47 (p.cs (.slice D1 p.r.length f1) (.slice D2 p.w.length f2)) 8 rfl
        have hgX := ((h.below hwX).blk)
        clear hpush hin hXs y0 y1 y2 y3 y4 y5 y6 y7 k0 k1
        have hkm : (k : Int) ≤ (m2 : Int) := by omega
        have hkn : (0 : Int) ≤ (k : Int) := by omega
        obtain ⟨cssP, hcl, hcsz, hcr, hcp⟩ := h.ps.css (by omega)
        have HCR := Lib.hid hcr
        have HCP := Lib.hid hcp
        have HCZ := Lib.hid hcsz
        clear hcr hcp hcsz
        go_upto_region 7 with (first
          | (at_builtin
             refine wpList_append_any _ rfl (.tmp 38) (.tmp 41) _ rfl (w.heap.size + 1) 47 i1 _ 8 96 Try.underlying28 hi1 iz0 iz1 iz2 rfl (by omega) (.slice Av T1.length qv) _ xs (by rfl) hown0 _ (some ⟨w6.heap.size, 0, none⟩) 1 1 (p.cs (.slice D1 p.r.length f1) (.slice D2 p.w.length f2)) (by rfl)
               hrd0 (pn_one p _ _ _ _ _ _) (by unfold maxLen; omega) (by omega) (by simp; omega) ?_
             intro v7 w7 hown7 hg7 hat7))
        have hrow7 := HPu.out [p.cs (.slice D1 p.r.length f1) (.slice D2 p.w.length f2)] [p] w7 _ rfl (fun cs hcs => by simp only [List.mem_cons, List.not_mem_nil, or_false] at hcs; rw [hcs]; rfl) (fun i cs b h1 h2 => by
          cases i with
          | zero => simp only [List.getElem?_cons_zero, Option.some.injEq] at h1 h2; subst h1 h2; exact HI.out
          | succ i => simp at h1) (by simpa using hown7) hg7 hat7
        have hgb := hgX.grown hg7 (fun e => by have := (hlt5 _ e.symm).1; omega)
        have hw7 := hwX.grown hg7 hwX.size (fun q hq => by have := (hown0.lt q hq).1; omega)
        have hcell : ∀ q u, q.block < w.heap.size → (only (ab g) w).cell? q = some u → w7.cell? q = some u := fun q u hq hc => (hw7.cell hq).trans (only_cell hc).2
        have z1 := hgb.cell 1
        simp only [List.getElem?_toArray, List.getElem?_cons_succ, List.getElem?_cons_zero] at z1
        have zf := hgb.frozen 1
        have zl := hgb.lt
        have hX7 := hg7.size
        rw [World.size_alloc] at hX7
        have hXs := HXs.out
        obtain ⟨T2, hT2⟩ : ∃ T2, T2 = T1 ++ [p] := ⟨_, rfl⟩
        rw [← hT2] at hrow7
        have HT2 := Lib.hid hT2
        have hT2l : T2.length ≤ 1000001 := by rw [hT2]; simp; omega
        clear hT2
        obtain ⟨A7, q7, rfl, hq7, hq7m⟩ := hrow7.form
        have hlt7 := hrow7.lt
        obtain ⟨xs7, hown8, hpush8⟩ := hrow7.ownU PnRel.kept PnRel.mono hgw
        have HPu8 := Lib.hid hpush8
        have hrdP := (HCR.out.monoC hcell).cut (k := k) (cap := d2) (by omega) hle2
        rw [drop_flat 8 _ _ HCZ.out] at hrdP
        have hone : ∀ u ∈ (cssP.drop k).flatten, u.oneCell' = true := fun u hu => by
          obtain ⟨cs, hcs, hu⟩ := List.mem_flatten.1 hu
          obtain ⟨i, hi⟩ := List.getElem?_of_mem (List.mem_of_mem_drop hcs)
          have hil : i < Pl.length := by have := (List.getElem?_eq_some_iff.1 hi).1; omega
          exact pn_cells_one (HCP.out i cs _ hi (List.getElem?_eq_getElem hil)) u hu
        have HON := Lib.hid hone
        have hw7z := hw7.size
        have hle7 : w.heap.size + 1 ≤ w7.heap.size := by omega
        clear hpush8 hown7 hown0 hone
        skip
        go_wp2_with (first
          | (at_builtin
             refine wpList_append_any _ rfl (.tmp 44) (.tmp 50) _ rfl (w.heap.size + 1) 47 i1 _ 8 96 Try.underlying28 hi1 iz0 iz1 iz2 rfl (by omega) (.slice A7 T2.length q7) _ xs7 (by rfl) hown8 _ _ (m2 - k) (d2 - k) _ (by rfl) hrdP HON.out (by unfold maxLen; omega) (by omega) (by omega) ?_
             intro v9 w9 hown9 hg9 hat9
             have hgc := hgb.grown hg9 (fun e => by have := (hlt7 _ e.symm).1; omega)
             have z9 := hgc.cell 1
             simp only [List.getElem?_toArray, List.getElem?_cons_succ, List.getElem?_cons_zero] at z9
             have f9 := hgc.frozen 1
             have l9 := hgc.lt
             obtain ⟨A9, q9, rfl, hq9, hq9m⟩ := own_form hown9))
        all_goals go_end0
        all_goals
          have hrow9 := HPu8.out (cssP.drop k) (Pl.drop k) w9 (.slice A9 (T2.length + (m2 - k)) q9) (by simp only [List.length_drop]; omega) (fun cs hcs => HCZ.out cs (List.mem_of_mem_drop hcs)) (fun i cs b h1 h2 => by
            rw [List.getElem?_drop] at h1 h2
            exact PnRel.kept.2 _ _ _ _ _ (PnRel.mono _ _ _ _ _ (HCP.out _ cs b h1 h2) fun q u hq hc => by
              obtain ⟨hk9, hc⟩ := only_cell hc
              rw [ab_iff] at hk9
              rw [only_cell_in (gU_iff.2 ⟨by omega, hk9, fun e => by have := (hlt7 _ e).1; omega⟩)]
              exact (hw7.cell hq).trans hc) hw7z) (by rw [show (Pl.drop k).length = m2 - k by simp only [List.length_drop]; omega]; exact hown9) hg9 hat9
          obtain ⟨o1, o2⟩ := HH0.out.put_end (hw7.grown hg9 hw7z (fun q hq => by have := (hlt7 q hq).1; omega)) hgc hrow9
          rw [HP.out]
          refine ⟨A9, T2.length + (m2 - k), q9, rfl, ?_, o2⟩
          have e9 : T2 ++ Pl.drop k = T1 ++ p :: Pl.drop k := by rw [HT2.out, List.append_assoc]; rfl
          rw [← e9]
          exact o1
end Go.Proofs.Ytipacjbegfingaa
/- The document's Load, its lists read above its own block, the row of histories one that may be written. -/
namespace Go.Proofs.Ytipacjbegfingaa
set_option linter.unusedVariables false
open Go.RowKit Fl
attribute [local go_sem] run_store_float

/-- the block of a row may be written, and lies above g -/
def HRow (w : World) (g : Nat) (B : Option Addr) : Prop := ∀ p, B = some p → g < p.block ∧ ∃ t cs, Blk w p.block t cs
theorem HRow.below {w w' : World} {g : Nat} {B : Option Addr} (h : HRow w g B) (hb : Below w.heap.size w w') : HRow w' g B := fun p hp => by
  obtain ⟨h1, t, cs, h2⟩ := h p hp
  exact ⟨h1, t, cs, h2.below hb h2.lt⟩
theorem HRow.grown {w w' : World} {g : Nat} {B : Option Addr} (h : HRow w g B) (hg : w.grownBy w' (some g)) : HRow w' g B := fun p hp => by
  obtain ⟨h1, t, cs, h2⟩ := h p hp
  exact ⟨h1, t, cs, h2.grown hg (by intro e; injection e with e; omega)⟩
theorem HRow.start {w1 : World} {g base m1 d1 : Nat} {B1 : Option Addr} {K : Nat → Bool} {H : List Hs} (hr : RowR HsRel 76 2 base K w1 (.slice B1 m1 d1) H) (hg : g < base) : HRow (w1.setCell ⟨g, 0, none⟩ (.slice B1 m1 d1)) g B1 := fun p hp => by
  obtain ⟨css, ho, _⟩ := hr
  obtain ⟨_, ⟨e, _⟩ | ⟨rb, cap, cur, e, hb, hh, _⟩⟩ := ho
  · injection e with e; rw [e] at hp; cases hp
  · injection e with e; rw [e] at hp
    injection hp with hp
    subst hp
    have hk : Blk w1 rb 76 cur := hh
    have hne : rb ≠ g := by omega
    exact ⟨by show g < rb; omega, _, _, hk.far (p := ⟨g, 0, none⟩) hne _⟩
theorem row_cap {w1 : World} {base m1 d1 : Nat} {B1 : Option Addr} {K : Nat → Bool} {H : List Hs} (hr : RowR HsRel 76 2 base K w1 (.slice B1 m1 d1) H) : m1 ≤ d1 ∧ d1 ≤ maxLen := by
  obtain ⟨A, c, e, h1, h2⟩ := hr.form
  injection e with e1 e2 e3
  subst e2 e3
  exact ⟨h1, h2⟩
def RLoadPost2 (H : List Hs) (Q : List Pn) (w : World) : Ending → World → Prop := fun e w' => ∃ v, e = .returned (.tuple #[v, .int .i64 (rloadE H Q)]) ∧ Below w.heap.size w w' ∧
  (rloadE H Q = 0 → ∃ g B1 m1 d1 B2 m2 d2, v = .pointer (some ⟨g, 0, none⟩) ∧ w.heap.size ≤ g ∧ RSu w' g B1 m1 d1 B2 m2 d2 ⟨0, 0, 0⟩ H (putAll Q) ∧ HRow w' g B1 ∧ m1 ≤ d1 ∧ d1 ≤ maxLen)
theorem bad_load2 {H : List Hs} {Q : List Pn} {w w' : World} {e : Int} {v : Value} (he : rloadE H Q = e) (hne : e ≠ 0) (hb : Below w.heap.size w w') : RLoadPost2 H Q w (.returned (.tuple #[v, .int .i64 e])) w' :=
  ⟨v, by rw [he], hb, fun h => absurd (he ▸ h) hne⟩
def RLoad5 (H : List Hs) (Q : List Pn) (w : World) (B1 : Option Addr) (m1 d1 : Nat) (i : Value) (wr : World) : Prop :=
  ∃ (k : Nat) (B2 : Option Addr) (m2 d2 : Nat), k ≤ Q.length ∧ i = .int .i64 (k : Int) ∧ rpendsE H (Q.take k) (Q.drop k) = rpendsE H [] Q ∧ RSu wr w.heap.size B1 m1 d1 B2 m2 d2 ⟨0, 0, 0⟩ H (putAll (Q.take k)) ∧ HRow wr w.heap.size B1 ∧ Below w.heap.size w wr
theorem RSu.start {w1 : World} {g base : Nat} {v1 : Value} {H : List Hs} (hblk : Blk w1 g 86 #[.slice none 0 0, .slice none 0 0, .int .i64 0, .int .i64 0, .int .i64 0]) (hr : RowR HsRel 76 2 base (freeB base w1.heap.size v1 (.slice none 0 0)) w1 v1 H) (hg : g < base) :
    ∃ B1 m1 d1, v1 = .slice B1 m1 d1 ∧ RSu (w1.setCell ⟨g, 0, none⟩ v1) g B1 m1 d1 none 0 0 ⟨0, 0, 0⟩ H [] := by
  have hs : (w1.setCell ⟨g, 0, none⟩ v1).heap.size = w1.heap.size := by simp [World.setCell]
  have hbl : ∀ k, k ≠ g → (w1.setCell ⟨g, 0, none⟩ v1).heap[k]? = w1.heap[k]? := fun k hk => Below.heap_setCell _ _ _ _ hk
  have hcell : ∀ p : Addr, (only (ab g) (w1.setCell ⟨g, 0, none⟩ v1)).cell? p = (only (ab g) w1).cell? p := fun p => by
    cases hn : ab g p.block
    · rw [only_cell_out hn, only_cell_out hn]
    · rw [only_cell_in hn, only_cell_in hn]; exact World.cell?_of_block (hbl _ (Nat.ne_of_gt (ab_iff.1 hn)))
  obtain ⟨A, n, c, rfl, h1, h2, h3⟩ := hr.held (K' := ab g) HsRel.mono (by omega) (fun k hk => ab_iff.2 (by have := (freeB_iff.1 hk).1; omega)) (fun k hk => ab_iff.2 (by have := (hr.lt k hk).1; omega))
  exact ⟨A, n, c, rfl, ⟨hblk.set_ 0 _, by rw [hs]; exact h3.keep HsRel.kept fun p _ => hcell p, by rw [hs]; exact ⟨rfl, fun i a hi => by simp at hi⟩, Nat.le_refl _, Nat.zero_le _, Nat.le_trans h1 h2, Nat.zero_le _⟩⟩
set_option maxRecDepth 100000 in
set_option maxHeartbeats 8000000 in
theorem rload2_any (A1 A2 : Option Addr) (n1 n2 c1 c2 : Nat) (H : List Hs) (Q : List Pn) (w : World) (h1 : Sl HsRel 2 w w.heap.size A1 n1 H) (h2 : Sl PnRel 8 w w.heap.size A2 n2 Q) (hH : SmallH H) (hQ : SmallP Q) :
    Calls Try.prog 13 #[.slice A1 n1 c1, .slice A2 n2 c2] w (RLoadPost2 H Q w) := by
  have hl1 := h1.1
  have hl2 := h2.1
  have hge1 : n1 ≤ H.length := by omega
  have hle1 : H.length ≤ n1 := by omega
  have hge2 : n2 ≤ Q.length := by omega
  have hle2 : Q.length ≤ n2 := by omega
  have hn1 : n1 ≤ 1000000 := Nat.le_trans hge1 hH.1
  have hn2 : n2 ≤ 1000000 := Nat.le_trans hge2 hQ.1
  clear hl1 hl2
  go_enter Try.func13, Try.ntmps13
  go_wp2_with fail
  go_loopw [7] (fun i wr => RLoad1 H w i wr) (fun i _ => n1 - (intOf i).toNat)
  case atStart => exact ⟨0, by omega, rfl, rfl, Blk.new _ _ _, by go_grown⟩
  case round =>
    obtain ⟨k, hk, rfl, hs, b6, hb⟩ := hrel
    obtain ⟨wo, rfl⟩ : ∃ wo, wo = wr := ⟨_, rfl⟩
    have hzz := hb.size
    have l6 := b6.lt
    by_cases hlt : k < n1
    · obtain ⟨ad, a, A', n', c', rfl, ha, hbk, hkz, d0, d1, hn', hc', hsv⟩ := ((h1.below HsRel.kept hb).more HsRel.kept hb.size).hs hlt
      have hd1 : decide ((k : Int) < (n1 : Int)) = true := by simp; omega
      have hk0 : (0 : Int) ≤ (k : Int) := by omega
      have hk1 : (k : Int) < (n1 : Int) := by omega
      have hsm : n' ≤ 1000000 := by
        have := hH.2 a (List.mem_of_getElem? ha)
        have := hsv.1
        omega
      have hsl := hsv.1
      have hka := fun w => rkey_any a.key w
      have hX0 : Below wo.heap.size wo (wo.alloc (.cells #[.string a.key, .slice A' n' c'] 76)) := by go_grown
      have i8 := Blk.new wo 76 #[.string a.key, .slice A' n' c']
      rw [rhistsB_drop ha] at hs
      have HA := Lib.hid (show aheadH H (k + 1) = some a.key by show (H[k]?).map (·.key) = _; rw [ha]; rfl)
      cases hkb : keyB a.key
      · rw [hkb] at hka hs
        have HF := Lib.hid (show rloadE H Q = 4 by unfold rloadE; rw [← hs]; rfl)
        clear hs ha
        go_wp2
        go_quiet (first | (go_at_call 41; exact quietSame (hka _)))
        go_wp2
        go_ret2
        exact bad_load2 HF.out (by decide) (hb.trans ((hX0.trans ((belowN _).mono hX0.size)).mono hzz))
      rw [hkb] at hka hs
      by_cases hz : k = 0
      · have hd2 : decide (0 < k) = false := by simp; omega
        have hs' : (!decide (a.vs.length = 0) && versB ⟨0, 0, 0⟩ a.vs && rhistsB (aheadH H (k + 1)) (H.drop (k + 1))) = rhistsB none H := by rw [← hs, hz]; simp [aheadH]
        clear hs ha hz
        by_cases hn0 : n' = 0
        · have HF := Lib.hid (show rloadE H Q = 4 by unfold rloadE; rw [← hs', show a.vs.length = 0 by omega]; rfl)
          subst hn0
          clear hs'
          go_wp2
          go_quiet (first | (go_at_call 41; exact quietSame (hka _)))
          go_wp2
          go_ret2
          exact bad_load2 HF.out (by decide) (hb.trans ((hX0.trans ((belowN _).mono hX0.size)).mono hzz))
        · have hn3 : ((n' : Int) == 0) = false := by simp; omega
          have hn4 : (n' == 0) = false := by simp; omega
          have hvl : decide (a.vs.length = 0) = false := decide_eq_false (by omega)
          rw [hvl] at hs'
          have HT := Lib.hid (show versB ⟨0, 0, 0⟩ a.vs = true → rhistsB (aheadH H (k + 1)) (H.drop (k + 1)) = rhistsB none H from fun e => by rw [← hs', e]; rfl)
          have HV := Lib.hid (show versB ⟨0, 0, 0⟩ a.vs = false → rloadE H Q = 4 from fun e => by unfold rloadE; rw [← hs', e]; rfl)
          clear hs' hvl
          go_wp2
          go_quiet (first | (go_at_call 41; exact quietSame (hka _)))
          go_wp2_with fail
          go_loopw [10] (fun i wr => RVersRel a A' n' c' w wo wo.heap.size (wo.heap.size + 1) i wr) (fun i _ => n' - (intOf i).toNat)
          case atStart =>
            have hXN := (hX0.trans ((belowN nq).mono hX0.size)).alloc (by have := hX0.size; exact this) (.cells #[.int .i64 0, .int .i64 0, .int .i64 0] 26)
            exact ⟨0, ⟨0, 0, 0⟩, by omega, rfl, rfl, b6.below hXN l6, (i8.below (belowN nq) i8.lt).alloc _, Blk.new' _ _ (by simp [World.drewN]), hb.trans (hXN.mono hzz), hXN⟩
          case round =>
            clear d0 d1
            obtain ⟨j, q, hj, rfl, hs2, b6, b8, b9, hb2, hb3⟩ := hrel
            have hz2 := hb2.size
            obtain ⟨l8, x0, x1⟩ := b8.two
            obtain ⟨l9, y0, y1, y2⟩ := b9.three
            by_cases hlt2 : j < n'
            · obtain ⟨ad2, v, rfl, hv, hbk2, hok2, e0, e1, e2, e3, e4, e5⟩ := ((hsv.below VnRel.kept hb3).more VnRel.kept hb3.size).vn hlt2
              have hd3 : decide ((j : Int) < (n' : Int)) = true := by simp; omega
              have hj0 : (0 : Int) ≤ (j : Int) := by omega
              have hj1 : (j : Int) < (n' : Int) := by omega
              have hm := fun w => rhmay_any v.s w
              have hc := fun w => rless_any q v.s w
              have hva := fun w => rvmay_any v.v w
              rw [versB_drop q hv, cmp_swap v.s q] at hs2
              clear hv
              generalize decide (q.cmp v.s < 0) = cc at *
              generalize hmb : v.s.may = mb at *
              generalize hvb : v.v.may = vb at *
              have bX := Blk.new wr 79 v.cells.toArray
              have hX : Below wr.heap.size wr (wr.alloc (.cells v.cells.toArray 79)) := by go_grown
              cases mb
              · have HF := Lib.hid (show rloadE H Q = 4 from HV.out (by rw [← hs2]; rfl))
                clear hs2
                go_wp2_with (first
                  | ((with_reducible refine (hm _).mono ?_); rintro e w1 ⟨rfl, hm1⟩
                     have bX1 := bX.below hm1 bX.lt
                     have b91 := (b9.below hX l9).below hm1 (Nat.lt_of_lt_of_le l9 hX.size)
                     have hw1 : Below wr.heap.size wr w1 := hX.trans (hm1.mono hX.size)
                     obtain ⟨lx1, p0, p1, p2, p3, p4, p5⟩ := bX1.six
                     obtain ⟨ly1, r0, r1, r2⟩ := b91.three)
                  | ((with_reducible refine (hc _).mono ?_); rintro e w2 ⟨rfl, hm2⟩
                     have bX2 := bX1.below hm2 lx1
                     have b92 := b91.below hm2 ly1
                     have hw2 : Below wr.heap.size wr w2 := hw1.trans (hm2.mono hw1.size)
                     obtain ⟨lx2, s0, s1, s2, s3, s4, s5⟩ := bX2.six
                     obtain ⟨ly2, t0, t1, t2⟩ := b92.three)
                  | ((with_reducible refine (hva _).mono ?_); rintro e w3 ⟨rfl, hm3⟩
                     have bX3 := bX2.below hm3 lx2
                     have b93 := b92.below hm3 ly2
                     have hw3 : Below wr.heap.size wr w3 := hw2.trans (hm3.mono hw2.size)
                     obtain ⟨lx3, q0, q1, q2, q3, q4, q5⟩ := bX3.six
                     obtain ⟨ly3, z0, z1, z2⟩ := b93.three)
                  | (refine wpList_store_row rfl 26 _ _ rfl _ _ rfl rfl _ _ b93 (by kernel_rfl) (by kernel_rfl) (by kernel_rfl) ?_))
                go_ret2
                exact bad_load2 HF.out (by decide) (hb2.trans (hw1.mono hz2))
              cases cc
              · have HF := Lib.hid (show rloadE H Q = 4 from HV.out (by rw [← hs2]; rfl))
                clear hs2
                go_wp2_with (first
                  | ((with_reducible refine (hm _).mono ?_); rintro e w1 ⟨rfl, hm1⟩
                     have bX1 := bX.below hm1 bX.lt
                     have b91 := (b9.below hX l9).below hm1 (Nat.lt_of_lt_of_le l9 hX.size)
                     have hw1 : Below wr.heap.size wr w1 := hX.trans (hm1.mono hX.size)
                     obtain ⟨lx1, p0, p1, p2, p3, p4, p5⟩ := bX1.six
                     obtain ⟨ly1, r0, r1, r2⟩ := b91.three)
                  | ((with_reducible refine (hc _).mono ?_); rintro e w2 ⟨rfl, hm2⟩
                     have bX2 := bX1.below hm2 lx1
                     have b92 := b91.below hm2 ly1
                     have hw2 : Below wr.heap.size wr w2 := hw1.trans (hm2.mono hw1.size)
                     obtain ⟨lx2, s0, s1, s2, s3, s4, s5⟩ := bX2.six
                     obtain ⟨ly2, t0, t1, t2⟩ := b92.three)
                  | ((with_reducible refine (hva _).mono ?_); rintro e w3 ⟨rfl, hm3⟩
                     have bX3 := bX2.below hm3 lx2
                     have b93 := b92.below hm3 ly2
                     have hw3 : Below wr.heap.size wr w3 := hw2.trans (hm3.mono hw2.size)
                     obtain ⟨lx3, q0, q1, q2, q3, q4, q5⟩ := bX3.six
                     obtain ⟨ly3, z0, z1, z2⟩ := b93.three)
                  | (refine wpList_store_row rfl 26 _ _ rfl _ _ rfl rfl _ _ b93 (by kernel_rfl) (by kernel_rfl) (by kernel_rfl) ?_))
                go_ret2
                exact bad_load2 HF.out (by decide) (hb2.trans (hw2.mono hz2))
              cases vb
              · have HF := Lib.hid (show rloadE H Q = 4 from HV.out (by rw [← hs2]; rfl))
                clear hs2
                go_wp2_with (first
                  | ((with_reducible refine (hm _).mono ?_); rintro e w1 ⟨rfl, hm1⟩
                     have bX1 := bX.below hm1 bX.lt
                     have b91 := (b9.below hX l9).below hm1 (Nat.lt_of_lt_of_le l9 hX.size)
                     have hw1 : Below wr.heap.size wr w1 := hX.trans (hm1.mono hX.size)
                     obtain ⟨lx1, p0, p1, p2, p3, p4, p5⟩ := bX1.six
                     obtain ⟨ly1, r0, r1, r2⟩ := b91.three)
                  | ((with_reducible refine (hc _).mono ?_); rintro e w2 ⟨rfl, hm2⟩
                     have bX2 := bX1.below hm2 lx1
                     have b92 := b91.below hm2 ly1
                     have hw2 : Below wr.heap.size wr w2 := hw1.trans (hm2.mono hw1.size)
                     obtain ⟨lx2, s0, s1, s2, s3, s4, s5⟩ := bX2.six
                     obtain ⟨ly2, t0, t1, t2⟩ := b92.three)
                  | ((with_reducible refine (hva _).mono ?_); rintro e w3 ⟨rfl, hm3⟩
                     have bX3 := bX2.below hm3 lx2
                     have b93 := b92.below hm3 ly2
                     have hw3 : Below wr.heap.size wr w3 := hw2.trans (hm3.mono hw2.size)
                     obtain ⟨lx3, q0, q1, q2, q3, q4, q5⟩ := bX3.six
                     obtain ⟨ly3, z0, z1, z2⟩ := b93.three)
                  | (refine wpList_store_row rfl 26 _ _ rfl _ _ rfl rfl _ _ b93 (by kernel_rfl) (by kernel_rfl) (by kernel_rfl) ?_))
                go_ret2
                exact bad_load2 HF.out (by decide) (hb2.trans (hw3.mono hz2))
              · have HS := Lib.hid (show versB v.s (a.vs.drop (j + 1)) = versB ⟨0, 0, 0⟩ a.vs from hs2)
                clear hs2
                go_wp2_with (first
                  | ((with_reducible refine (hm _).mono ?_); rintro e w1 ⟨rfl, hm1⟩
                     have bX1 := bX.below hm1 bX.lt
                     have b91 := (b9.below hX l9).below hm1 (Nat.lt_of_lt_of_le l9 hX.size)
                     have hw1 : Below wr.heap.size wr w1 := hX.trans (hm1.mono hX.size)
                     obtain ⟨lx1, p0, p1, p2, p3, p4, p5⟩ := bX1.six
                     obtain ⟨ly1, r0, r1, r2⟩ := b91.three)
                  | ((with_reducible refine (hc _).mono ?_); rintro e w2 ⟨rfl, hm2⟩
                     have bX2 := bX1.below hm2 lx1
                     have b92 := b91.below hm2 ly1
                     have hw2 : Below wr.heap.size wr w2 := hw1.trans (hm2.mono hw1.size)
                     obtain ⟨lx2, s0, s1, s2, s3, s4, s5⟩ := bX2.six
                     obtain ⟨ly2, t0, t1, t2⟩ := b92.three)
                  | ((with_reducible refine (hva _).mono ?_); rintro e w3 ⟨rfl, hm3⟩
                     have bX3 := bX2.below hm3 lx2
                     have b93 := b92.below hm3 ly2
                     have hw3 : Below wr.heap.size wr w3 := hw2.trans (hm3.mono hw2.size)
                     obtain ⟨lx3, q0, q1, q2, q3, q4, q5⟩ := bX3.six
                     obtain ⟨ly3, z0, z1, z2⟩ := b93.three)
                  | (refine wpList_store_row rfl 26 _ _ rfl _ _ rfl rfl _ _ b93 (by kernel_rfl) (by kernel_rfl) (by kernel_rfl) ?_))
                go_roundw
                case rel => exact ⟨j + 1, v.s, by omega, by go_num, HS.out, (b6.below hw3 b6.lt).setRow_far _ (by omega), (b8.below hw3 l8).setRow_far _ (by omega), b93.setRow _, below_setRow (hb2.trans (hw3.mono hz2)) (by omega) _, below_setRow (hb3.trans (hw3.mono hb3.size)) (by omega) _⟩
                case measure => simp [intOf]; omega
            · have hd3 : decide ((j : Int) < (n' : Int)) = false := by simp; omega
              rw [List.drop_of_length_le (by omega)] at hs2
              have HV := Lib.hid (HT.out hs2.symm)
              clear hs2
              go_wp2
              go_roundw
              case rel => exact ⟨k + 1, by omega, by go_num, HV.out, b6, hb2⟩
              case measure => simp [intOf]; omega
      · obtain ⟨ad', b, A'', n'', c'', e', hb', hbk', hok', y0, -⟩ := ((h1.below HsRel.kept hb).more HsRel.kept hb.size).hs (k := k - 1) (by omega)
        injection e' with e'
        subst e'
        have hd2 : decide (0 < k) = true := by simp; omega
        have hj0 : (0 : Int) ≤ (k : Int) - 1 := by omega
        have hj1 : (k : Int) - 1 < (n1 : Int) := by omega
        have hj2 : ((k : Int) - 1).toNat = k - 1 := by omega
        have hj3 : IntKind.i64.wrap ((k : Int) - 1) = (k : Int) - 1 := by rw [IntKind.wrap_i64]; omega
        have hah : aheadH H k = some b.key := by
          cases k with
          | zero => omega
          | succ j => show (H[j]?).map (·.key) = _; rw [show H[j]? = some b from hb']; rfl
        rw [hah] at hs
        have hle : (Op.bytesLess a.key.toList b.key.toList || a.key.toList == b.key.toList) = leB a.key b.key := rfl
        clear hz hah hb' ha hok'
        cases hbl : leB a.key b.key
        · have hs' : (!decide (a.vs.length = 0) && versB ⟨0, 0, 0⟩ a.vs && rhistsB (aheadH H (k + 1)) (H.drop (k + 1))) = rhistsB none H := by rw [← hs]; simp [hbl]
          rw [hbl] at hle
          have hl1 : Op.bytesLess a.key.toList b.key.toList = false ∧ (a.key.toList == b.key.toList) = false := by simpa [Bool.or_eq_false_iff] using hle
          obtain ⟨hl2, hl3⟩ := hl1
          clear hs hle hbl
          by_cases hn0 : n' = 0
          · have HF := Lib.hid (show rloadE H Q = 4 by unfold rloadE; rw [← hs', show a.vs.length = 0 by omega]; rfl)
            subst hn0
            clear hs'
            go_wp2
            go_quiet (first | (go_at_call 41; exact quietSame (hka _)))
            go_wp2
            go_ret2
            exact bad_load2 HF.out (by decide) (hb.trans ((hX0.trans ((belowN _).mono hX0.size)).mono hzz))
          · have hn3 : ((n' : Int) == 0) = false := by simp; omega
            have hn4 : (n' == 0) = false := by simp; omega
            have hvl : decide (a.vs.length = 0) = false := decide_eq_false (by omega)
            rw [hvl] at hs'
            have HT := Lib.hid (show versB ⟨0, 0, 0⟩ a.vs = true → rhistsB (aheadH H (k + 1)) (H.drop (k + 1)) = rhistsB none H from fun e => by rw [← hs', e]; rfl)
            have HV := Lib.hid (show versB ⟨0, 0, 0⟩ a.vs = false → rloadE H Q = 4 from fun e => by unfold rloadE; rw [← hs', e]; rfl)
            clear hs' hvl
            go_wp2
            go_quiet (first | (go_at_call 41; exact quietSame (hka _)))
            go_wp2_with fail
            go_loopw [10] (fun i wr => RVersRel a A' n' c' w wo wo.heap.size (wo.heap.size + 1) i wr) (fun i _ => n' - (intOf i).toNat)
            case atStart =>
              have hXN := (hX0.trans ((belowN nq).mono hX0.size)).alloc (by have := hX0.size; exact this) (.cells #[.int .i64 0, .int .i64 0, .int .i64 0] 26)
              exact ⟨0, ⟨0, 0, 0⟩, by omega, rfl, rfl, b6.below hXN l6, (i8.below (belowN nq) i8.lt).alloc _, Blk.new' _ _ (by simp [World.drewN]), hb.trans (hXN.mono hzz), hXN⟩
            case round =>
              clear d0 d1
              obtain ⟨j, q, hj, rfl, hs2, b6, b8, b9, hb2, hb3⟩ := hrel
              have hz2 := hb2.size
              obtain ⟨l8, x0, x1⟩ := b8.two
              obtain ⟨l9, y0, y1, y2⟩ := b9.three
              by_cases hlt2 : j < n'
              · obtain ⟨ad2, v, rfl, hv, hbk2, hok2, e0, e1, e2, e3, e4, e5⟩ := ((hsv.below VnRel.kept hb3).more VnRel.kept hb3.size).vn hlt2
                have hd3 : decide ((j : Int) < (n' : Int)) = true := by simp; omega
                have hj0 : (0 : Int) ≤ (j : Int) := by omega
                have hj1 : (j : Int) < (n' : Int) := by omega
                have hm := fun w => rhmay_any v.s w
                have hc := fun w => rless_any q v.s w
                have hva := fun w => rvmay_any v.v w
                rw [versB_drop q hv, cmp_swap v.s q] at hs2
                clear hv
                generalize decide (q.cmp v.s < 0) = cc at *
                generalize hmb : v.s.may = mb at *
                generalize hvb : v.v.may = vb at *
                have bX := Blk.new wr 79 v.cells.toArray
                have hX : Below wr.heap.size wr (wr.alloc (.cells v.cells.toArray 79)) := by go_grown
                cases mb
                · have HF := Lib.hid (show rloadE H Q = 4 from HV.out (by rw [← hs2]; rfl))
                  clear hs2
                  go_wp2_with (first
                    | ((with_reducible refine (hm _).mono ?_); rintro e w1 ⟨rfl, hm1⟩
                       have bX1 := bX.below hm1 bX.lt
                       have b91 := (b9.below hX l9).below hm1 (Nat.lt_of_lt_of_le l9 hX.size)
                       have hw1 : Below wr.heap.size wr w1 := hX.trans (hm1.mono hX.size)
                       obtain ⟨lx1, p0, p1, p2, p3, p4, p5⟩ := bX1.six
                       obtain ⟨ly1, r0, r1, r2⟩ := b91.three)
                    | ((with_reducible refine (hc _).mono ?_); rintro e w2 ⟨rfl, hm2⟩
                       have bX2 := bX1.below hm2 lx1
                       have b92 := b91.below hm2 ly1
                       have hw2 : Below wr.heap.size wr w2 := hw1.trans (hm2.mono hw1.size)
                       obtain ⟨lx2, s0, s1, s2, s3, s4, s5⟩ := bX2.six
                       obtain ⟨ly2, t0, t1, t2⟩ := b92.three)
                    | ((with_reducible refine (hva _).mono ?_); rintro e w3 ⟨rfl, hm3⟩
                       have bX3 := bX2.below hm3 lx2
                       have b93 := b92.below hm3 ly2
                       have hw3 : Below wr.heap.size wr w3 := hw2.trans (hm3.mono hw2.size)
                       obtain ⟨lx3, q0, q1, q2, q3, q4, q5⟩ := bX3.six
                       obtain ⟨ly3, z0, z1, z2⟩ := b93.three)
                    | (refine wpList_store_row rfl 26 _ _ rfl _ _ rfl rfl _ _ b93 (by kernel_rfl) (by kernel_rfl) (by kernel_rfl) ?_))
                  go_ret2
                  exact bad_load2 HF.out (by decide) (hb2.trans (hw1.mono hz2))
                cases cc
                · have HF := Lib.hid (show rloadE H Q = 4 from HV.out (by rw [← hs2]; rfl))
                  clear hs2
                  go_wp2_with (first
                    | ((with_reducible refine (hm _).mono ?_); rintro e w1 ⟨rfl, hm1⟩
                       have bX1 := bX.below hm1 bX.lt
                       have b91 := (b9.below hX l9).below hm1 (Nat.lt_of_lt_of_le l9 hX.size)
                       have hw1 : Below wr.heap.size wr w1 := hX.trans (hm1.mono hX.size)
                       obtain ⟨lx1, p0, p1, p2, p3, p4, p5⟩ := bX1.six
                       obtain ⟨ly1, r0, r1, r2⟩ := b91.three)
                    | ((with_reducible refine (hc _).mono ?_); rintro e w2 ⟨rfl, hm2⟩
                       have bX2 := bX1.below hm2 lx1
                       have b92 := b91.below hm2 ly1
                       have hw2 : Below wr.heap.size wr w2 := hw1.trans (hm2.mono hw1.size)
                       obtain ⟨lx2, s0, s1, s2, s3, s4, s5⟩ := bX2.six
                       obtain ⟨ly2, t0, t1, t2⟩ := b92.three)
                    | ((with_reducible refine (hva _).mono ?_); rintro e w3 ⟨rfl, hm3⟩
                       have bX3 := bX2.below hm3 lx2
                       have b93 := b92.below hm3 ly2
                       have hw3 : Below wr.heap.size wr w3 := hw2.trans (hm3.mono hw2.size)
                       obtain ⟨lx3, q0, q1, q2, q3, q4, q5⟩ := bX3.six
                       obtain ⟨ly3, z0, z1, z2⟩ := b93.three)
                    | (refine wpList_store_row rfl 26 _ _ rfl _ _ rfl rfl _ _ b93 (by kernel_rfl) (by kernel_rfl) (by kernel_rfl) ?_))
                  go_ret2
                  exact bad_load2 HF.out (by decide) (hb2.trans (hw2.mono hz2))
                cases vb
                · have HF := Lib.hid (show rloadE H Q = 4 from HV.out (by rw [← hs2]; rfl))
                  clear hs2
                  go_wp2_with (first
                    | ((with_reducible refine (hm _).mono ?_); rintro e w1 ⟨rfl, hm1⟩
                       have bX1 := bX.below hm1 bX.lt
                       have b91 := (b9.below hX l9).below hm1 (Nat.lt_of_lt_of_le l9 hX.size)
                       have hw1 : Below wr.heap.size wr w1 := hX.trans (hm1.mono hX.size)
                       obtain ⟨lx1, p0, p1, p2, p3, p4, p5⟩ := bX1.six
                       obtain ⟨ly1, r0, r1, r2⟩ := b91.three)
                    | ((with_reducible refine (hc _).mono ?_); rintro e w2 ⟨rfl, hm2⟩
                       have bX2 := bX1.below hm2 lx1
                       have b92 := b91.below hm2 ly1
                       have hw2 : Below wr.heap.size wr w2 := hw1.trans (hm2.mono hw1.size)
                       obtain ⟨lx2, s0, s1, s2, s3, s4, s5⟩ := bX2.six
                       obtain ⟨ly2, t0, t1, t2⟩ := b92.three)
                    | ((with_reducible refine (hva _).mono ?_); rintro e w3 ⟨rfl, hm3⟩
                       have bX3 := bX2.below hm3 lx2
                       have b93 := b92.below hm3 ly2
                       have hw3 : Below wr.heap.size wr w3 := hw2.trans (hm3.mono hw2.size)
                       obtain ⟨lx3, q0, q1, q2, q3, q4, q5⟩ := bX3.six
                       obtain ⟨ly3, z0, z1, z2⟩ := b93.three)
                    | (refine wpList_store_row rfl 26 _ _ rfl _ _ rfl rfl _ _ b93 (by kernel_rfl) (by kernel_rfl) (by kernel_rfl) ?_))
                  go_ret2
                  exact bad_load2 HF.out (by decide) (hb2.trans (hw3.mono hz2))
                · have HS := Lib.hid (show versB v.s (a.vs.drop (j + 1)) = versB ⟨0, 0, 0⟩ a.vs from hs2)
                  clear hs2
                  go_wp2_with (first
                    | ((with_reducible refine (hm _).mono ?_); rintro e w1 ⟨rfl, hm1⟩
                       have bX1 := bX.below hm1 bX.lt
                       have b91 := (b9.below hX l9).below hm1 (Nat.lt_of_lt_of_le l9 hX.size)
                       have hw1 : Below wr.heap.size wr w1 := hX.trans (hm1.mono hX.size)
                       obtain ⟨lx1, p0, p1, p2, p3, p4, p5⟩ := bX1.six
                       obtain ⟨ly1, r0, r1, r2⟩ := b91.three)
                    | ((with_reducible refine (hc _).mono ?_); rintro e w2 ⟨rfl, hm2⟩
                       have bX2 := bX1.below hm2 lx1
                       have b92 := b91.below hm2 ly1
                       have hw2 : Below wr.heap.size wr w2 := hw1.trans (hm2.mono hw1.size)
                       obtain ⟨lx2, s0, s1, s2, s3, s4, s5⟩ := bX2.six
                       obtain ⟨ly2, t0, t1, t2⟩ := b92.three)
                    | ((with_reducible refine (hva _).mono ?_); rintro e w3 ⟨rfl, hm3⟩
                       have bX3 := bX2.below hm3 lx2
                       have b93 := b92.below hm3 ly2
                       have hw3 : Below wr.heap.size wr w3 := hw2.trans (hm3.mono hw2.size)
                       obtain ⟨lx3, q0, q1, q2, q3, q4, q5⟩ := bX3.six
                       obtain ⟨ly3, z0, z1, z2⟩ := b93.three)
                    | (refine wpList_store_row rfl 26 _ _ rfl _ _ rfl rfl _ _ b93 (by kernel_rfl) (by kernel_rfl) (by kernel_rfl) ?_))
                  go_roundw
                  case rel => exact ⟨j + 1, v.s, by omega, by go_num, HS.out, (b6.below hw3 b6.lt).setRow_far _ (by omega), (b8.below hw3 l8).setRow_far _ (by omega), b93.setRow _, below_setRow (hb2.trans (hw3.mono hz2)) (by omega) _, below_setRow (hb3.trans (hw3.mono hb3.size)) (by omega) _⟩
                  case measure => simp [intOf]; omega
              · have hd3 : decide ((j : Int) < (n' : Int)) = false := by simp; omega
                rw [List.drop_of_length_le (by omega)] at hs2
                have HV := Lib.hid (HT.out hs2.symm)
                clear hs2
                go_wp2
                go_roundw
                case rel => exact ⟨k + 1, by omega, by go_num, HV.out, b6, hb2⟩
                case measure => simp [intOf]; omega
        · have HF := Lib.hid (show rloadE H Q = 4 by unfold rloadE; rw [← hs]; simp [hbl])
          rw [hbl] at hle
          have hle' : (Op.bytesLess a.key.toList b.key.toList || a.key.toList == b.key.toList) = true := hle
          clear hs hle hbl
          go_wp2
          go_quiet (first | (go_at_call 41; exact quietSame (hka _)))
          all_goals go_wp2
          all_goals go_ret2
          all_goals exact bad_load2 HF.out (by decide) (hb.trans ((hX0.trans ((belowN _).mono hX0.size)).mono hzz))
    · have hd1 : decide ((k : Int) < (n1 : Int)) = false := by simp; omega
      have hL : rloadE H Q = rpendsE H [] Q := by
        unfold rloadE
        rw [← hs, List.drop_of_length_le (by omega)]; rfl
      have HL := Lib.hid hL
      clear hs hL
      have hC := copyHs_any A1 n1 c1 H wo ((h1.below HsRel.kept hb).more HsRel.kept hb.size) hH
      go_wp2_with (go_at_call 27; fail)
      refine hC.mono ?_
      rintro e w1 ⟨v1, rfl, ⟨hr1, -, -⟩, hb1⟩
      have hbw1 : Below w.heap.size w w1 := hb.trans (hb1.mono hzz)
      have b61 := b6.below hb1 l6
      obtain ⟨l61, o0, -⟩ := b61.fiveC
      have of0 := b61.frozen 0
      obtain ⟨B1, m1, d1, rfl, hst0⟩ := RSu.start b61 hr1 l6
      have hN0 := HRow.start hr1 l6
      have HQ0 := Lib.hid (row_cap hr1)
      have hbw2 : Below w.heap.size w (w1.setCell ⟨w.heap.size, 0, none⟩ (.slice B1 m1 d1)) := ⟨hbw1.os, hbw1.tape, hbw1.output, by simp only [World.setCell, Array.size_modify]; exact hbw1.size, fun k hk => (Below.heap_setCell _ _ _ _ (by show k ≠ w.heap.size; omega)).trans (hbw1.block k hk)⟩
      clear hC hr1 b6 b61 hb hb1 hzz l6
      go_wp2_with fail
      go_loopw [12] (fun i wr => RLoad5 H Q w B1 m1 d1 i wr) (fun i _ => n2 - (intOf i).toNat)
      case atStart => exact ⟨0, none, 0, 0, by omega, rfl, rfl, hst0, hN0, hbw2⟩
      case round =>
        clear hst0 hN0 hbw2 hbw1 o0 of0 l61 hlt hk
        obtain ⟨k, B2, m2, d2, hk, rfl, hs, hst, hN, hb⟩ := hrel
        obtain ⟨wo, rfl⟩ : ∃ wo, wo = wr := ⟨_, rfl⟩
        have hzz := hb.size
        by_cases hlt : k < n2
        · obtain ⟨ad, x, A3, n3, c3, A4, n4, c4, rfl, ha, hbk, hxt, hxs, e0, e1, e2, e3, e4, e5, e6, e7, hn3, hc3, hs3, hn4, hc4, hs4⟩ := ((h2.below PnRel.kept hb).more PnRel.kept hb.size).pn hlt
          have hd1 : decide ((k : Int) < (n2 : Int)) = true := by simp; omega
          have hk0 : (0 : Int) ≤ (k : Int) := by omega
          have hk1 : (k : Int) < (n2 : Int) := by omega
          have hsm := hQ.2 x (List.mem_of_getElem? ha)
          have hl3 := hs3.1
          have hl4 := hs4.1
          rw [rpendsE_drop ha] at hs
          have HK := Lib.hid (show Q.take (k + 1) = Q.take k ++ [x] by rw [List.take_add_one, ha]; rfl)
          have hQl : (putAll (Q.take k)).length ≤ 1000000 := by rw [putAll_length, List.length_take]; omega
          have hTl : (Q.take k).length = k := by rw [List.length_take]; omega
          have hlk : lockedB (Q.take k) x = (Q.take k).any (fun y => clashB y x) := rfl
          have hT : ∀ (j : Nat) (y : Pn), j < k → Q[j]? = some y → (Q.take k)[j]? = some y := fun j y hj hy => by rw [List.getElem?_take, if_pos hj]; exact hy
          have hPe := rpend_any x A3 A4 n3 n4 c3 c4 wo hs3 hs4 (by omega) (by omega)
          generalize hpe : pendE x = pe at *
          have HA := Lib.hid ha
          clear ha
          go_wp2_with (go_at_call 44; fail)
          refine hPe.mono ?_
          rintro e w1 ⟨rfl, hb1⟩
          have hbw1 : Below w.heap.size w w1 := hb.trans (hb1.mono hzz)
          have hst1 := hst.below hb1
          have hN1 := hN.below hb1
          have f0 := (hb1.cell (p := ad.add (k * 8)) hbk).trans e0
          have f1 := (hb1.cell (p := ⟨(ad.add (k * 8)).block, (ad.add (k * 8)).off + 1, none⟩) hbk).trans e1
          have f2 := (hb1.cell (p := ⟨(ad.add (k * 8)).block, (ad.add (k * 8)).off + 2, none⟩) hbk).trans e2
          by_cases hp0 : pe = 0
          · have hpn : (pe != 0) = false := by simp [hp0]
            rw [if_neg (fun e => e hp0)] at hs
            have hW := rwhere_any w.heap.size B1 B2 m1 d1 m2 d2 ⟨0, 0, 0⟩ H (putAll (Q.take k)) x.t w1 hst1.rst
            generalize whFrom x.t 0 (putAll (Q.take k)) = wh at *
            by_cases hw : (0 : Int) ≤ wh
            · have hw1 : decide ((0 : Int) ≤ wh) = true := by simp [hw]
              rw [if_pos hw] at hs
              have HF := Lib.hid (show rloadE H Q = 9 by rw [HL.out, ← hs])
              clear hs hp0 hw
              go_wp2_with ((with_reducible refine hW.mono ?_); rintro e w2 ⟨rfl, hb2⟩)
              go_ret2
              exact bad_load2 HF.out (by decide) (hbw1.trans (hb2.mono hbw1.size))
            have hw1 : decide ((0 : Int) ≤ wh) = false := by simp; omega
            rw [if_neg hw] at hs
            clear hp0 hw
            go_wp2_with (go_at_call 45; fail)
            refine hW.mono ?_
            rintro e w2 ⟨rfl, hb2⟩
            have hbw2 : Below w.heap.size w w2 := hbw1.trans (hb2.mono hbw1.size)
            have hst2 := hst1.below hb2
            have hN2 := hN1.below hb2
            clear hN hN1 hW hst1 hst hbw1 hb1 hb2 f0 f1 f2 e0 e1 e2 e3 e4 e5 e6 e7 hs3 hs4 hPe hb hzz
            have hz2 := hbw2.size
            go_wp2_with fail
            go_loopw [14] (fun i wr => RLoad4 (Q.take k) x w2 i wr) (fun i _ => k - (intOf i).toNat)
            case atStart => exact ⟨0, by omega, rfl, rfl, Below.refl _ _⟩
            case round =>
              obtain ⟨j, hj, rfl, hs2, hbi⟩ := hrel
              obtain ⟨wi, rfl⟩ : ∃ wi, wi = wr := ⟨_, rfl⟩
              have hbwi : Below w.heap.size w wi := hbw2.trans (hbi.mono hz2)
              have hzi := hbwi.size
              have hpn2 := (h2.below PnRel.kept hbwi).more PnRel.kept hbwi.size
              obtain ⟨ad', x', A3, n3, c3, A4, n4, c4, ex, ha, hbk2, -, -, e0, e1, e2, e3, e4, e5, e6, e7, hn3, hc3, hs3, hn4, hc4, hs4⟩ := hpn2.pn hlt
              injection ex with ex
              subst ex
              obtain rfl : x' = x := Option.some.inj (ha.symm.trans HA.out)
              have hl3 := hs3.1
              have hl4 := hs4.1
              clear ha
              by_cases hlt2 : j < k
              · obtain ⟨ad', y, A5, n5, c5, A6, n6, c6, ex, ha, hbk3, -, -, g0, g1, g2, g3, g4, g5, g6, g7, hn5, hc5, hs5, hn6, hc6, hs6⟩ := hpn2.pn (k := j) (by omega)
                injection ex with ex
                subst ex
                have hd3 : decide ((j : Int) < (k : Int)) = true := by simp; omega
                have hj0 : (0 : Int) ≤ (j : Int) := by omega
                have hj1 : (j : Int) < (n2 : Int) := by omega
                have hCl := rclash_any x' y A3 A4 A5 A6 n3 n4 n5 n6 c3 c4 c5 c6 wi.drew (hs3.below KyRel.kept (Below.refl _ _).drew) (hs4.below WtRel.kept (Below.refl _ _).drew) (hs5.below KyRel.kept (Below.refl _ _).drew) (hs6.below WtRel.kept (Below.refl _ _).drew) (by omega) (by omega) (by omega) (by omega)
                rw [any_dropE (hT j y hlt2 ha)] at hs2
                clear ha
                cases hcb : clashB y x'
                · rw [hcb] at hCl hs2
                  have HS := Lib.hid (show ((Q.take k).drop (j + 1)).any (fun y => clashB y x') = lockedB (Q.take k) x' from hs2)
                  clear hs2 hcb
                  go_wp2
                  go_region_held3 (fun w' => w'.cell? (ad.add (k * 8)) = some (.int .i64 x'.t.c) ∧ w'.cell? ⟨(ad.add (k * 8)).block, (ad.add (k * 8)).off + 1, none⟩ = some (.int .i64 x'.t.l) ∧ w'.cell? ⟨(ad.add (k * 8)).block, (ad.add (k * 8)).off + 2, none⟩ = some (.int .i64 x'.t.s) ∧ w'.cell? ⟨(ad.add (k * 8)).block, (ad.add (k * 8)).off + 3, none⟩ = some (.int .i64 x'.s.w) ∧ w'.cell? ⟨(ad.add (k * 8)).block, (ad.add (k * 8)).off + 4, none⟩ = some (.int .i64 x'.s.l) ∧ w'.cell? ⟨(ad.add (k * 8)).block, (ad.add (k * 8)).off + 5, none⟩ = some (.int .i64 x'.s.n) ∧ w'.cell? ⟨(ad.add (k * 8)).block, (ad.add (k * 8)).off + 6, none⟩ = some (.slice A3 n3 c3) ∧ w'.cell? ⟨(ad.add (k * 8)).block, (ad.add (k * 8)).off + 7, none⟩ = some (.slice A4 n4 c4) ∧ w'.cell? (ad.add (j * 8)) = some (.int .i64 y.t.c) ∧ w'.cell? ⟨(ad.add (j * 8)).block, (ad.add (j * 8)).off + 1, none⟩ = some (.int .i64 y.t.l) ∧ w'.cell? ⟨(ad.add (j * 8)).block, (ad.add (j * 8)).off + 2, none⟩ = some (.int .i64 y.t.s) ∧ w'.cell? ⟨(ad.add (j * 8)).block, (ad.add (j * 8)).off + 3, none⟩ = some (.int .i64 y.s.w) ∧ w'.cell? ⟨(ad.add (j * 8)).block, (ad.add (j * 8)).off + 4, none⟩ = some (.int .i64 y.s.l) ∧ w'.cell? ⟨(ad.add (j * 8)).block, (ad.add (j * 8)).off + 5, none⟩ = some (.int .i64 y.s.n) ∧ w'.cell? ⟨(ad.add (j * 8)).block, (ad.add (j * 8)).off + 6, none⟩ = some (.slice A5 n5 c5) ∧ w'.cell? ⟨(ad.add (j * 8)).block, (ad.add (j * 8)).off + 7, none⟩ = some (.slice A6 n6 c6))
                    (first | exact ⟨e0, e1, e2, e3, e4, e5, e6, e7, g0, g1, g2, g3, g4, g5, g6, g7⟩ | exact ⟨(hb9.cell (by exact hbk2)).trans e0, (hb9.cell (by exact hbk2)).trans e1, (hb9.cell (by exact hbk2)).trans e2, (hb9.cell (by exact hbk2)).trans e3, (hb9.cell (by exact hbk2)).trans e4, (hb9.cell (by exact hbk2)).trans e5, (hb9.cell (by exact hbk2)).trans e6, (hb9.cell (by exact hbk2)).trans e7, (hb9.cell (by exact hbk3)).trans g0, (hb9.cell (by exact hbk3)).trans g1, (hb9.cell (by exact hbk3)).trans g2, (hb9.cell (by exact hbk3)).trans g3, (hb9.cell (by exact hbk3)).trans g4, (hb9.cell (by exact hbk3)).trans g5, (hb9.cell (by exact hbk3)).trans g6, (hb9.cell (by exact hbk3)).trans g7⟩)
                    (first | ((with_reducible refine hCl.mono ?_); rintro e w5 ⟨rfl, hb5⟩; have hb9 : Below wi.heap.size wi w5 := (Below.refl wi.heap.size wi).drew.trans hb5))
                  go_wp2
                  go_roundw
                  case rel => exact ⟨j + 1, by omega, by go_num, HS.out, hbi.trans (hb9.mono hbi.size)⟩
                  case measure => simp [intOf]; omega
                · rw [hcb] at hCl hs2
                  have HF := Lib.hid (show rloadE H Q = 18 by rw [HL.out, ← hs, if_pos (show lockedB (Q.take k) x' = true from hs2.symm)])
                  clear hs2 hs hcb
                  go_wp2
                  go_region_held3 (fun w' => w'.cell? (ad.add (k * 8)) = some (.int .i64 x'.t.c) ∧ w'.cell? ⟨(ad.add (k * 8)).block, (ad.add (k * 8)).off + 1, none⟩ = some (.int .i64 x'.t.l) ∧ w'.cell? ⟨(ad.add (k * 8)).block, (ad.add (k * 8)).off + 2, none⟩ = some (.int .i64 x'.t.s) ∧ w'.cell? ⟨(ad.add (k * 8)).block, (ad.add (k * 8)).off + 3, none⟩ = some (.int .i64 x'.s.w) ∧ w'.cell? ⟨(ad.add (k * 8)).block, (ad.add (k * 8)).off + 4, none⟩ = some (.int .i64 x'.s.l) ∧ w'.cell? ⟨(ad.add (k * 8)).block, (ad.add (k * 8)).off + 5, none⟩ = some (.int .i64 x'.s.n) ∧ w'.cell? ⟨(ad.add (k * 8)).block, (ad.add (k * 8)).off + 6, none⟩ = some (.slice A3 n3 c3) ∧ w'.cell? ⟨(ad.add (k * 8)).block, (ad.add (k * 8)).off + 7, none⟩ = some (.slice A4 n4 c4) ∧ w'.cell? (ad.add (j * 8)) = some (.int .i64 y.t.c) ∧ w'.cell? ⟨(ad.add (j * 8)).block, (ad.add (j * 8)).off + 1, none⟩ = some (.int .i64 y.t.l) ∧ w'.cell? ⟨(ad.add (j * 8)).block, (ad.add (j * 8)).off + 2, none⟩ = some (.int .i64 y.t.s) ∧ w'.cell? ⟨(ad.add (j * 8)).block, (ad.add (j * 8)).off + 3, none⟩ = some (.int .i64 y.s.w) ∧ w'.cell? ⟨(ad.add (j * 8)).block, (ad.add (j * 8)).off + 4, none⟩ = some (.int .i64 y.s.l) ∧ w'.cell? ⟨(ad.add (j * 8)).block, (ad.add (j * 8)).off + 5, none⟩ = some (.int .i64 y.s.n) ∧ w'.cell? ⟨(ad.add (j * 8)).block, (ad.add (j * 8)).off + 6, none⟩ = some (.slice A5 n5 c5) ∧ w'.cell? ⟨(ad.add (j * 8)).block, (ad.add (j * 8)).off + 7, none⟩ = some (.slice A6 n6 c6))
                    (first | exact ⟨e0, e1, e2, e3, e4, e5, e6, e7, g0, g1, g2, g3, g4, g5, g6, g7⟩ | exact ⟨(hb9.cell (by exact hbk2)).trans e0, (hb9.cell (by exact hbk2)).trans e1, (hb9.cell (by exact hbk2)).trans e2, (hb9.cell (by exact hbk2)).trans e3, (hb9.cell (by exact hbk2)).trans e4, (hb9.cell (by exact hbk2)).trans e5, (hb9.cell (by exact hbk2)).trans e6, (hb9.cell (by exact hbk2)).trans e7, (hb9.cell (by exact hbk3)).trans g0, (hb9.cell (by exact hbk3)).trans g1, (hb9.cell (by exact hbk3)).trans g2, (hb9.cell (by exact hbk3)).trans g3, (hb9.cell (by exact hbk3)).trans g4, (hb9.cell (by exact hbk3)).trans g5, (hb9.cell (by exact hbk3)).trans g6, (hb9.cell (by exact hbk3)).trans g7⟩)
                    (first | ((with_reducible refine hCl.mono ?_); rintro e w5 ⟨rfl, hb5⟩; have hb9 : Below wi.heap.size wi w5 := (Below.refl wi.heap.size wi).drew.trans hb5))
                  go_wp2
                  go_ret2
                  exact bad_load2 HF.out (by decide) (hbwi.trans (hb9.mono hzi))
              · have hd3 : decide ((j : Int) < (k : Int)) = false := by simp; omega
                rw [List.drop_of_length_le (by omega)] at hs2
                rw [if_neg (show ¬ lockedB (Q.take k) x' = true from fun e => by rw [← hs2] at e; simp at e)] at hs
                clear hs2
                have hst3 := hst2.below hbi
                have hN3 := hN2.below hbi
                have hO := rold_any w.heap.size B1 B2 m1 d1 m2 d2 ⟨0, 0, 0⟩ H (putAll (Q.take k)) x' A3 A4 n3 n4 c3 c4 wi hst3.rst hs4 (by omega)
                by_cases hob : roldB H x' = true
                · rw [hob] at hO
                  have HF := Lib.hid (show rloadE H Q = 20 by rw [HL.out, ← hs, if_pos hob])
                  clear hs hob
                  go_wp2_with ((with_reducible refine hO.mono ?_); rintro e w3 ⟨rfl, hb3⟩)
                  go_ret2
                  exact bad_load2 HF.out (by decide) (hbwi.trans (hb3.mono hzi))
                · have hof : roldB H x' = false := by simpa using hob
                  rw [hof] at hO
                  rw [if_neg hob] at hs
                  have HS := Lib.hid hs
                  clear hs hob hof
                  go_wp2_with (go_at_call 47; fail)
                  refine hO.mono ?_
                  rintro e w3 ⟨rfl, hb3⟩
                  have hbw3 : Below w.heap.size w w3 := hbwi.trans (hb3.mono hzi)
                  have hst4 := hst3.below hb3
                  have hN4 := hN3.below hb3
                  have hP := rput2_any w.heap.size B1 B2 m1 d1 m2 d2 ⟨0, 0, 0⟩ H (putAll (Q.take k)) x' A3 A4 n3 n4 c3 c4 w3 hst4 hQl hxt hxs ((hs3.below KyRel.kept hb3).more KyRel.kept hb3.size) ((hs4.below WtRel.kept hb3).more WtRel.kept hb3.size) (by omega) (by omega)
                  have E := fun (i : Nat) (v : Value) (hc : wi.cell? ⟨(ad.add (k * 8)).block, (ad.add (k * 8)).off + i, none⟩ = some v) => (hb3.cell (p := ⟨(ad.add (k * 8)).block, (ad.add (k * 8)).off + i, none⟩) hbk2).trans hc
                  have p0 := (hb3.cell (p := ad.add (k * 8)) hbk2).trans e0
                  have p1 := E 1 _ e1
                  have p2 := E 2 _ e2
                  have p3 := E 3 _ e3
                  have p4 := E 4 _ e4
                  have p5 := E 5 _ e5
                  have p6 := E 6 _ e6
                  have p7 := E 7 _ e7
                  clear E e0 e1 e2 e3 e4 e5 e6 e7 hO
                  go_wp2_with (go_at_call 48; fail)
                  refine hP.mono ?_
                  rintro e w4 ⟨B2', m2', d2', rfl, hst5, hg5⟩
                  have hN5 := hN4.grown hg5
                  have hbw4 := hbw3.grown hg5 hbw3.size (fun q hq => by injection hq with hq; omega)
                  go_wp2
                  go_roundw
                  case rel =>
                    refine ⟨k + 1, B2', m2', d2', by omega, by go_num, HS.out, ?_, hN5, hbw4⟩
                    rw [HK.out, putAll_snoc]
                    exact hst5
                  case measure => simp [intOf]; omega
          · have hpn : (pe != 0) = true := by simp [hp0]
            rw [if_pos hp0] at hs
            have HF := Lib.hid (show rloadE H Q = pe by rw [HL.out, ← hs])
            clear hs
            go_wp2
            go_ret2
            exact bad_load2 HF.out hp0 hbw1
        · have hd1 : decide ((k : Int) < (n2 : Int)) = false := by simp; omega
          rw [List.drop_of_length_le (by omega)] at hs
          rw [List.take_of_length_le (by omega)] at hst
          have HF := Lib.hid (show rloadE H Q = 0 by rw [HL.out, ← hs]; rfl)
          clear hs
          go_wp2
          go_ret2
          exact ⟨_, by rw [HF.out]; rfl, hb, fun _ => ⟨_, _, _, _, _, _, _, rfl, Nat.le_refl _, hst, hN, HQ0.out.1, HQ0.out.2⟩⟩
end Go.Proofs.Ytipacjbegfingaa
