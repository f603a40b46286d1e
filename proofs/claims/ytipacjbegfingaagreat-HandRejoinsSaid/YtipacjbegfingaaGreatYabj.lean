/- The walk of the document's put. -/
import Derived.Test.YtipacjbegfingaaGreatYabi
namespace Go.Proofs.YtipacjbegfingaaGreat
set_option linter.unusedVariables false
open Go.RowKit Fl
attribute [local go_sem] run_store_float

theorem Reads.monoC {w w' : World} {B size n : Nat} {A : Option Addr} {xs : List Value} (h : Reads w B size A n xs) (hk : ∀ p u, p.block < B → w.cell? p = some u → w'.cell? p = some u) : Reads w' B size A n xs :=
  ⟨h.1, fun hn => by
    obtain ⟨ad, e, hb, hc⟩ := h.2 hn
    exact ⟨ad, e, hb, fun j u hu => hk _ _ (by rw [block_of_add]; exact hb) (hc j u hu)⟩⟩
theorem pn_cells_one {w : World} {B : Nat} {cs : List Value} {p : Pn} (h : PnRel w B cs p) : ∀ u ∈ cs, u.oneCell' = true := by
  obtain ⟨r, q, rfl, -, -, ⟨A1, n1, c1, rfl, -⟩, ⟨A2, n2, c2, rfl, -⟩⟩ := h
  exact pn_one p _ _ _ _ _ _
theorem drop_flat (k : Nat) : ∀ (css : List (List Value)) (m : Nat), (∀ cs ∈ css, cs.length = k) → css.flatten.drop (m * k) = (css.drop m).flatten := by
  intro css
  induction css with
  | nil => intro m _; simp
  | cons cs css ih =>
    intro m h
    cases m with
    | zero => simp
    | succ m =>
      have h0 := h cs (List.mem_cons_self ..)
      have e : (m + 1) * k = cs.length + m * k := by rw [Nat.succ_mul, h0]; omega
      rw [List.flatten_cons, e, List.drop_append, List.drop_of_length_le (by omega), List.nil_append, Nat.add_sub_cancel_left, List.drop_succ_cons]
      exact ih m fun c hc => h c (List.mem_cons_of_mem _ hc)
def PutRel (p : Pn) (A1 A2 : Value) (g : Nat) (l : List Pn) (w : World) (v i : Value) (wr : World) : Prop :=
  ∃ k : Nat, k ≤ l.length ∧ i = .int .i64 (k : Int) ∧ (∀ x ∈ l.take k, x.t.less p.t = true) ∧ RowR PnRel 45 8 (w.heap.size + 1) (gB g wr.heap.size v) wr v (l.take k) ∧ Blk wr w.heap.size 45 (p.arr A1 A2) ∧ Below w.heap.size w wr
def PutPost (w : World) (g : Nat) (B1 : Option Addr) (m1 d1 : Nat) (L : Sp) (Hl : List Hs) (Pl : List Pn) : Ending → World → Prop := fun e w' => ∃ B2 m2 d2, e = .returned (.tuple #[]) ∧ RSt w' g B1 m1 d1 B2 m2 d2 L Hl Pl ∧ w.grownBy w' (some g)
theorem RSt.put_end {w w9 : World} {g : Nat} {B1 B2 A9 : Option Addr} {m1 d1 m2 d2 n9 q9 : Nat} {L : Sp} {Hl : List Hs} {Pl l9 : List Pn} (h : RSt w g B1 m1 d1 B2 m2 d2 L Hl Pl) (hb : Below w.heap.size w w9)
    (hblk : Blk w9 g 111 #[.slice B1 m1 d1, .slice B2 m2 d2, .int .i64 L.w, .int .i64 L.l, .int .i64 L.n]) (hr : RowR PnRel 45 8 (w.heap.size + 1) (gB g w9.heap.size (.slice A9 n9 q9)) w9 (.slice A9 n9 q9) l9) :
    RSt (w9.setCell ⟨g, 1, none⟩ (.slice A9 n9 q9)) g B1 m1 d1 A9 n9 q9 L Hl l9 ∧ w.grownBy (w9.setCell ⟨g, 1, none⟩ (.slice A9 n9 q9)) (some g) := by
  have hs : (w9.setCell ⟨g, 1, none⟩ (.slice A9 n9 q9)).heap.size = w9.heap.size := by simp [World.setCell]
  have hbl : ∀ k, k ≠ g → (w9.setCell ⟨g, 1, none⟩ (.slice A9 n9 q9)).heap[k]? = w9.heap[k]? := fun k hk => Below.heap_setCell _ _ _ _ hk
  have hg : g < w.heap.size := h.blk.lt
  have hcell : ∀ p : Addr, (only (nb g) (w9.setCell ⟨g, 1, none⟩ (.slice A9 n9 q9))).cell? p = (only (nb g) w9).cell? p := fun p => by
    cases hn : nb g p.block
    · rw [only_cell_out hn, only_cell_out hn]
    · rw [only_cell_in hn, only_cell_in hn]; exact World.cell?_of_block (hbl _ (nb_iff.1 hn))
  have hcell2 : ∀ p : Addr, p.block < w.heap.size → (only (nb g) (w9.setCell ⟨g, 1, none⟩ (.slice A9 n9 q9))).cell? p = (only (nb g) w).cell? p := fun p hp => by
    rw [hcell]
    cases hn : nb g p.block
    · rw [only_cell_out hn, only_cell_out hn]
    · rw [only_cell_in hn, only_cell_in hn]; exact hb.cell hp
  obtain ⟨A, n, c, e, h1, h2, h3⟩ := hr.held (K' := nb g) PnRel.mono (by omega) (fun k hk => nb_iff.2 (gB_iff.1 hk).2.1) (fun k hk => nb_iff.2 (by have := (hr.lt k hk).1; omega))
  injection e with e1 e2 e3
  subst e1 e2 e3
  refine ⟨⟨hblk.set_ 1 _, (h.hs.keep HsRel.kept hcell2).more HsRel.kept (by rw [hs]; exact hb.size), ?_, h1, h2, h.m1, Nat.le_trans h1 h2⟩, ?_⟩
  · rw [hs]; exact h3.keep PnRel.kept fun p _ => hcell p
  · exact ⟨hb.os, hb.tape, hb.output, by rw [hs]; exact hb.size, fun k hk hne => by rw [hbl k (fun e => hne (by rw [e]))]; exact hb.block k hk⟩
set_option maxRecDepth 100000 in
set_option maxHeartbeats 8000000 in
theorem rput_any (g : Nat) (B1 B2 : Option Addr) (m1 d1 m2 d2 : Nat) (L : Sp) (Hl : List Hs) (Pl : List Pn) (p : Pn) (A1 A2 : Option Addr) (n1 n2 c1 c2 : Nat) (w : World) (h : RSt w g B1 m1 d1 B2 m2 d2 L Hl Pl) (hP : Pl.length ≤ 1000000) (hpt : p.t.ok) (hps : p.s.ok)
    (hr : Sl KyRel 1 w w.heap.size A1 n1 p.r) (hw : Sl WtRel 4 w w.heap.size A2 n2 p.w) (hn1 : n1 ≤ 1000000) (hn2 : n2 ≤ 1000000) :
    Calls Tryz.prog 71 #[.pointer (some ⟨g, 0, none⟩), p.val (.slice A1 n1 c1) (.slice A2 n2 c2)] w (PutPost w g B1 m1 d1 L Hl (putL Pl p)) := by
  obtain ⟨i1, hi1, iz0, iz1, iz2⟩ := info_parts pn_info
  have hm := h.m2
  have hd2m := h.d2m
  have hle2 := h.le2
  unfold maxLen at hm
  have hl := h.ps.1
  have hge : m2 ≤ Pl.length := by omega
  have hle : Pl.length ≤ m2 := by omega
  have hgw0 : g < w.heap.size := h.blk.lt
  have hgw : g < w.heap.size + 1 := by omega
  have HH0 := Lib.hid h
  clear hl
  go_enter Tryz.func71, Tryz.ntmps71
  go_wp2
  go_loopw [4, 5] (fun v i wr => PutRel p (.slice A1 n1 c1) (.slice A2 n2 c2) g Pl w v i wr) (fun _ i _ => m2 - (intOf i).toNat)
  case atStart => exact ⟨0, by omega, rfl, fun x hx => by simp at hx, RowR.nil _, Blk.new _ _ _, by go_grown⟩
  case round =>
    obtain ⟨k, hk, rfl, hall, hrow, b3, hb⟩ := hrel
    have hzz := hb.size
    have hst := h.below hb
    obtain ⟨gl, k0, k1, -, -, -⟩ := hst.blk.fiveC
    obtain ⟨l3, y0, y1, y2, y3, y4, y5, y6, y7⟩ := b3.eight
    obtain ⟨Av, qv, rfl, hqv, hqvm⟩ := hrow.form
    have hlen : (Pl.take k).length ≤ 1000000 := Nat.le_trans (List.length_take_le _ _) (by omega)
    by_cases hgo : ∃ a, Pl[k]? = some a ∧ a.t.less p.t = true
    · obtain ⟨a, ha, hless⟩ := hgo
      have hlt : k < m2 := by have := (List.getElem?_eq_some_iff.1 ha).1; omega
      obtain ⟨ad, a', A3, n3, c3, A4, n4, c4, rfl, ha', hbk, hxt, hxs, e0, e1, e2, e3, e4, e5, e6, e7, hn3, hc3, hs3, hn4, hc4, hs4⟩ := hst.pend.pn hlt
      obtain rfl : a = a' := Option.some.inj (ha.symm.trans ha')
      obtain ⟨ad2, a2, A3', n3', c3', A4', n4', c4', ex, ha2, hbk2, -, -, -, -, -, -, -, -, f6, f7, hn3', hc3', ks3, hn4', hc4', ks4⟩ := h.ps.pn hlt
      injection ex with ex
      subst ex
      obtain rfl : a = a2 := Option.some.inj (ha.symm.trans ha2)
      have f6 := (hb.cell (by exact hbk2)).trans (only_cell f6).2
      have f7 := (hb.cell (by exact hbk2)).trans (only_cell f7).2
      rw [e6] at f6
      rw [e7] at f7
      obtain ⟨rfl, rfl, rfl⟩ : A3 = A3' ∧ n3 = n3' ∧ c3 = c3' := by simpa using f6
      obtain ⟨rfl, rfl, rfl⟩ : A4 = A4' ∧ n4 = n4' ∧ c4 = c4' := by simpa using f7
      have hd1 : decide ((k : Int) < (m2 : Int)) = true := by simp; omega
      have hk0 : (0 : Int) ≤ (k : Int) := by omega
      have hk1 : (k : Int) < (m2 : Int) := by omega
      have hL := fun w => rtxnLess_any a.t p.t w
      rw [hless] at hL
      have hpn : PnRel (only (nb g) w) w.heap.size (a.cs (.slice A3 n3 c3) (.slice A4 n4 c4)) a := ⟨_, _, rfl, hxt, hxs, ⟨_, _, _, rfl, hn3, hc3, ks3⟩, ⟨_, _, _, rfl, hn4, hc4, ks4⟩⟩
      have HS := Lib.hid (show Pl.take (k + 1) = Pl.take k ++ [a] by rw [List.take_add_one, ha]; rfl)
      have hall2 : ∀ x ∈ Pl.take k ++ [a], x.t.less p.t = true := fun x hx => by
        rcases List.mem_append.1 hx with h1 | h1
        · exact hall x h1
        · simp only [List.mem_cons, List.not_mem_nil, or_false] at h1
          rw [h1]; exact hless
      have HA := Lib.hid hall2
      clear hall hall2 ha ha' ha2 hless f6 f7
      generalize Pl.take k = T1 at *
      go_wp2
      go_region_held3 (fun w' => w'.cell? ⟨g, 1, none⟩ = some (.slice (some ad) m2 d2) ∧ w'.cell? (ad.add (k * 8)) = some (.int .i64 a.t.c) ∧ w'.cell? ⟨(ad.add (k * 8)).block, (ad.add (k * 8)).off + 1, none⟩ = some (.int .i64 a.t.l) ∧ w'.cell? ⟨(ad.add (k * 8)).block, (ad.add (k * 8)).off + 2, none⟩ = some (.int .i64 a.t.s) ∧ w'.cell? ⟨w.heap.size, 0, none⟩ = some (.int .i64 p.t.c) ∧ w'.cell? ⟨w.heap.size, 1, none⟩ = some (.int .i64 p.t.l) ∧ w'.cell? ⟨w.heap.size, 2, none⟩ = some (.int .i64 p.t.s))
        (first | exact ⟨k1, e0, e1, e2, y0, y1, y2⟩ | exact ⟨(hb9.cell (by exact gl)).trans k1, (hb9.cell (by exact hbk)).trans e0, (hb9.cell (by exact hbk)).trans e1, (hb9.cell (by exact hbk)).trans e2, (hb9.cell (by exact l3)).trans y0, (hb9.cell (by exact l3)).trans y1, (hb9.cell (by exact l3)).trans y2⟩)
        (first | ((with_reducible refine (hL _).mono ?_); rintro e w5 ⟨rfl, hb5⟩; have hb9 : Below wr.heap.size wr w5 := (Below.refl wr.heap.size wr).drew.trans hb5))
      have b35 := b3.below hb9 l3
      have k15 := (hb9.cell (p := ⟨g, 1, none⟩) gl).trans k1
      have E := fun j (v : Value) (hc : wr.cell? ⟨(ad.add (k * 8)).block, (ad.add (k * 8)).off + j, none⟩ = some v) => (hb9.cell (p := ⟨(ad.add (k * 8)).block, (ad.add (k * 8)).off + j, none⟩) hbk).trans hc
      have q0 := (hb9.cell (by exact hbk)).trans e0
      have q1 := E 1 _ e1
      have q2 := E 2 _ e2
      have q3 := E 3 _ e3
      have q4 := E 4 _ e4
      have q5 := E 5 _ e5
      have q6 := E 6 _ e6
      have q7 := E 7 _ e7
      have gl5 : g < w5.heap.size := Nat.lt_of_lt_of_le gl hb9.size
      have hX : Below wr.heap.size wr (w5.alloc (.cells (a.arr (.slice A3 n3 c3) (.slice A4 n4 c4)) 45)) := hb9.alloc hb9.size _
      have hwX : Below w.heap.size w (w5.alloc (.cells (a.arr (.slice A3 n3 c3) (.slice A4 n4 c4)) 45)) := hb.trans (hX.mono hzz)
      have hrX := hrow.keepG PnRel.kept PnRel.mono hgw (w' := w5.alloc (.cells (a.arr (.slice A3 n3 c3) (.slice A4 n4 c4)) 45)) hX.size (fun k hk _ => hX.block k hk)
      have hlt5 := hrow.lt
      have hin : Inn PnRel (gB g (w5.alloc (.cells (a.arr (.slice A3 n3 c3) (.slice A4 n4 c4)) 45)).heap.size (.slice Av T1.length qv)) (w5.alloc (.cells (a.arr (.slice A3 n3 c3) (.slice A4 n4 c4)) 45)) (a.cs (.slice A3 n3 c3) (.slice A4 n4 c4)) a :=
        PnRel.kept.2 _ _ _ _ _ (PnRel.mono _ _ _ _ _ hpn fun p u hp hc => by
          obtain ⟨hk, hc⟩ := only_cell hc
          rw [nb_iff] at hk
          rw [only_cell_in (gB_iff.2 ⟨by have := hwX.size; omega, hk, fun e => by have := (hlt5 _ e).1; omega⟩)]
          exact (hwX.cell hp).trans hc) hwX.size
      obtain ⟨xs, hown0, hpush⟩ := hrX.ownG PnRel.kept PnRel.mono hgw
      have HI := Lib.hid hin
      have HPu := Lib.hid hpush
      have hrd0 := reads_new' w5 45 (a.cs (.slice A3 n3 c3) (.slice A4 n4 c4)) 8 rfl
      clear hpush hin e0 e1 e2 e3 e4 e5 e6 e7 k0 k1 y0 y1 y2 y3 y4 y5 y6 y7 E hpn
      have h5z := hb9.size
      go_wp2_with (first
        | (at_builtin
           refine wpList_append_any _ rfl (.tmp 26) (.tmp 34) _ rfl (w.heap.size + 1) 45 i1 _ 8 96 Tryz.underlying28 hi1 iz0 iz1 iz2 rfl (by omega) (.slice Av T1.length qv) _ xs (by rfl) hown0 _ (some ⟨w5.heap.size, 0, none⟩) 1 1 (a.cs (.slice A3 n3 c3) (.slice A4 n4 c4)) (by rfl)
             hrd0 (pn_one a _ _ _ _ _ _) (by unfold maxLen; omega) (by omega) (by simp; omega) ?_
           intro v3 w3 hown3 hg3 hat3
           obtain ⟨A9, q9, rfl, hq9, hq9m⟩ := own_form hown3))
      have hrn := HPu.out [a.cs (.slice A3 n3 c3) (.slice A4 n4 c4)] [a] w3 _ rfl (fun cs hcs => by simp only [List.mem_cons, List.not_mem_nil, or_false] at hcs; rw [hcs]; rfl) (fun i cs b h1 h2 => by
        cases i with
        | zero => simp only [List.getElem?_cons_zero, Option.some.injEq] at h1 h2; subst h1 h2; exact HI.out
        | succ i => simp at h1) (by simpa using hown3) hg3 hat3
      have hbw := hwX.grown hg3 hwX.size (fun q hq => by have := (hown0.lt q hq).1; omega)
      have b37 := (b35.alloc (.cells (a.arr (.slice A3 n3 c3) (.slice A4 n4 c4)) 45)).grown hg3 (fun e => by have := (hlt5 _ e.symm).1; omega)
      go_roundw
      case rel =>
        refine ⟨k + 1, by omega, by go_num, ?_, ?_, b37, hbw⟩
        · rw [HS.out]; exact HA.out
        · rw [HS.out]; exact hrn
      case measure => simp [intOf]; omega
    · have hend : ∀ a, Pl[k]? = some a → a.t.less p.t = false := fun a ha => by
        cases hx : a.t.less p.t
        · rfl
        · exact absurd ⟨a, ha, hx⟩ hgo
      have HP := Lib.hid (putL_at hk hall hend)
      have HD := Lib.hid (show Pl.drop k = Pl.drop k from rfl)
      clear hgo hall
      generalize Pl.take k = T1 at *
      by_cases hlt : k < m2
      · obtain ⟨ad, a, A3, n3, c3, A4, n4, c4, rfl, ha', hbk, hxt, hxs, e0, e1, e2, e3, e4, e5, e6, e7, hn3, hc3, hs3, hn4, hc4, hs4⟩ := hst.pend.pn hlt
        have hd1 : decide ((k : Int) < (m2 : Int)) = true := by simp; omega
        have hk0 : (0 : Int) ≤ (k : Int) := by omega
        have hk1 : (k : Int) < (m2 : Int) := by omega
        have hL := fun w => rtxnLess_any a.t p.t w
        rw [hend a ha'] at hL
        clear ha' hend
        go_wp2
        go_region_held3 (fun w' => w'.cell? ⟨g, 1, none⟩ = some (.slice (some ad) m2 d2) ∧ w'.cell? (ad.add (k * 8)) = some (.int .i64 a.t.c) ∧ w'.cell? ⟨(ad.add (k * 8)).block, (ad.add (k * 8)).off + 1, none⟩ = some (.int .i64 a.t.l) ∧ w'.cell? ⟨(ad.add (k * 8)).block, (ad.add (k * 8)).off + 2, none⟩ = some (.int .i64 a.t.s) ∧ w'.cell? ⟨w.heap.size, 0, none⟩ = some (.int .i64 p.t.c) ∧ w'.cell? ⟨w.heap.size, 1, none⟩ = some (.int .i64 p.t.l) ∧ w'.cell? ⟨w.heap.size, 2, none⟩ = some (.int .i64 p.t.s))
          (first | exact ⟨k1, e0, e1, e2, y0, y1, y2⟩ | exact ⟨(hb9.cell (by exact gl)).trans k1, (hb9.cell (by exact hbk)).trans e0, (hb9.cell (by exact hbk)).trans e1, (hb9.cell (by exact hbk)).trans e2, (hb9.cell (by exact l3)).trans y0, (hb9.cell (by exact l3)).trans y1, (hb9.cell (by exact l3)).trans y2⟩)
          (first | ((with_reducible refine (hL _).mono ?_); rintro e w5 ⟨rfl, hb5⟩; have hb9 : Below wr.heap.size wr w5 := (Below.refl wr.heap.size wr).drew.trans hb5))
        have hbW := hb9
        obtain ⟨WW, hWW⟩ : ∃ WW, WW = w5 := ⟨_, rfl⟩
        rw [← hWW] at hbW ⊢
        clear hWW hb9 hb5
        have hbk3 := b3.below hbW l3
        obtain ⟨l3', y0, y1, y2, y3, y4, y5, y6, y7⟩ := hbk3.eight
        have hwW : Below w.heap.size w WW := hb.trans (hbW.mono hzz)
        have hWz := hbW.size
        have HK1 := Lib.hid (fun k hk => Sl.all_ok hr k hk : ∀ k ∈ p.r, k.size ≤ 140737488351232)
        have HK2 := Lib.hid (fun k hk => Sl.all_ok hw k hk : ∀ k ∈ p.w, Wt.ok k)
        go_wp2_with (go_at_call 46; fail)
        refine (copyP_any p A1 A2 n1 n2 c1 c2 WW ((hr.below KyRel.kept hwW).more KyRel.kept hwW.size) ((hw.below WtRel.kept hwW).more WtRel.kept hwW.size) hn1 hn2).mono ?_
        rintro e w6 ⟨r1, u1, rfl, o1, o2, hb6⟩
        obtain ⟨D1, f1, rfl, hf1, hf1m⟩ := o1.form
        obtain ⟨D2, f2, rfl, hf2, hf2m⟩ := o2.form
        have h6z := hb6.size
        have hX6 : Below w6.heap.size w6 (w6.alloc (.cells (p.arr (.slice D1 p.r.length f1) (.slice D2 p.w.length f2)) 45)) := (Below.refl _ _).alloc (Nat.le_refl _) _
        have hX : Below wr.heap.size wr (w6.alloc (.cells (p.arr (.slice D1 p.r.length f1) (.slice D2 p.w.length f2)) 45)) := (hbW.trans (hb6.mono hWz)).trans (hX6.mono (by omega))
        have hwX : Below w.heap.size w (w6.alloc (.cells (p.arr (.slice D1 p.r.length f1) (.slice D2 p.w.length f2)) 45)) := hb.trans (hX.mono hzz)
        have hrX := hrow.keepG PnRel.kept PnRel.mono hgw (w' := w6.alloc (.cells (p.arr (.slice D1 p.r.length f1) (.slice D2 p.w.length f2)) 45)) hX.size (fun k hk _ => hX.block k hk)
        have hlt5 := hrow.lt
        have hd1o := World.ownsRow.lt o1
        have hd2o := World.ownsRow.lt o2
        have hXs : (w6.alloc (.cells (p.arr (.slice D1 p.r.length f1) (.slice D2 p.w.length f2)) 45)).heap.size = w6.heap.size + 1 := by simp
        have hin : Inn PnRel (gB g (w6.alloc (.cells (p.arr (.slice D1 p.r.length f1) (.slice D2 p.w.length f2)) 45)).heap.size (.slice Av T1.length qv)) (w6.alloc (.cells (p.arr (.slice D1 p.r.length f1) (.slice D2 p.w.length f2)) 45)) (p.cs (.slice D1 p.r.length f1) (.slice D2 p.w.length f2)) p :=
          ⟨_, _, rfl, hpt, hps, OwnL.inn2 (by omega) ky_len (o1.below hX6) HK1.out (fun k e => gB_iff.2 ⟨by have := hd1o k e; omega, by have := hd1o k e; omega, fun e9 => by have := hd1o k e; have := hlt5 k e9; omega⟩),
            OwnL.inn2 (by omega) wt_len (o2.below hX6) HK2.out (fun k e => gB_iff.2 ⟨by have := hd2o k e; omega, by have := hd2o k e; omega, fun e9 => by have := hd2o k e; have := hlt5 k e9; omega⟩)⟩
        have HI := Lib.hid hin
        obtain ⟨xs, hown0, hpush⟩ := hrX.ownG PnRel.kept PnRel.mono hgw
        have HPu := Lib.hid hpush
        have HXs := Lib.hid hXs
        have hrd0 := reads_new' w6 45 (p.cs (.slice D1 p.r.length f1) (.slice D2 p.w.length f2)) 8 rfl
        have hgX := ((h.below hwX).blk)
        clear hpush hin hXs y0 y1 y2 y3 y4 y5 y6 y7 k0 k1
        have hkm : (k : Int) ≤ (m2 : Int) := by omega
        have hkn : (0 : Int) ≤ (k : Int) := by omega
        obtain ⟨cssP, hcl, hcsz, hcr, hcp⟩ := h.ps.css (by omega)
        have HCR := Lib.hid hcr
        have HCP := Lib.hid hcp
        have HCZ := Lib.hid hcsz
        clear hcr hcp hcsz
        go_upto_region 7 with (first
          | (at_builtin
             refine wpList_append_any _ rfl (.tmp 38) (.tmp 41) _ rfl (w.heap.size + 1) 45 i1 _ 8 96 Tryz.underlying28 hi1 iz0 iz1 iz2 rfl (by omega) (.slice Av T1.length qv) _ xs (by rfl) hown0 _ (some ⟨w6.heap.size, 0, none⟩) 1 1 (p.cs (.slice D1 p.r.length f1) (.slice D2 p.w.length f2)) (by rfl)
               hrd0 (pn_one p _ _ _ _ _ _) (by unfold maxLen; omega) (by omega) (by simp; omega) ?_
             intro v7 w7 hown7 hg7 hat7))
        have hrow7 := HPu.out [p.cs (.slice D1 p.r.length f1) (.slice D2 p.w.length f2)] [p] w7 _ rfl (fun cs hcs => by simp only [List.mem_cons, List.not_mem_nil, or_false] at hcs; rw [hcs]; rfl) (fun i cs b h1 h2 => by
          cases i with
          | zero => simp only [List.getElem?_cons_zero, Option.some.injEq] at h1 h2; subst h1 h2; exact HI.out
          | succ i => simp at h1) (by simpa using hown7) hg7 hat7
        have hgb := hgX.grown hg7 (fun e => by have := (hlt5 _ e.symm).1; omega)
        have hw7 := hwX.grown hg7 hwX.size (fun q hq => by have := (hown0.lt q hq).1; omega)
        have hcell : ∀ q u, q.block < w.heap.size → (only (nb g) w).cell? q = some u → w7.cell? q = some u := fun q u hq hc => (hw7.cell hq).trans (only_cell hc).2
        have z1 := hgb.cell 1
        simp only [List.getElem?_toArray, List.getElem?_cons_succ, List.getElem?_cons_zero] at z1
        have zf := hgb.frozen 1
        have zl := hgb.lt
        have hX7 := hg7.size
        rw [World.size_alloc] at hX7
        have hXs := HXs.out
        obtain ⟨T2, hT2⟩ : ∃ T2, T2 = T1 ++ [p] := ⟨_, rfl⟩
        rw [← hT2] at hrow7
        have HT2 := Lib.hid hT2
        have hT2l : T2.length ≤ 1000001 := by rw [hT2]; simp; omega
        clear hT2
        obtain ⟨A7, q7, rfl, hq7, hq7m⟩ := hrow7.form
        have hlt7 := hrow7.lt
        obtain ⟨xs7, hown8, hpush8⟩ := hrow7.ownG PnRel.kept PnRel.mono hgw
        have HPu8 := Lib.hid hpush8
        have hrdP := (HCR.out.monoC hcell).cut (k := k) (cap := d2) (by omega) hle2
        rw [drop_flat 8 _ _ HCZ.out] at hrdP
        have hone : ∀ u ∈ (cssP.drop k).flatten, u.oneCell' = true := fun u hu => by
          obtain ⟨cs, hcs, hu⟩ := List.mem_flatten.1 hu
          obtain ⟨i, hi⟩ := List.getElem?_of_mem (List.mem_of_mem_drop hcs)
          have hil : i < Pl.length := by have := (List.getElem?_eq_some_iff.1 hi).1; omega
          exact pn_cells_one (HCP.out i cs _ hi (List.getElem?_eq_getElem hil)) u hu
        have HON := Lib.hid hone
        have hw7z := hw7.size
        have hle7 : w.heap.size + 1 ≤ w7.heap.size := by omega
        clear hpush8 hown7 hown0 hone
        rw [if_neg (show ¬ d2 = k by omega)] at hrdP
        go_wp2_with (first
          | (at_builtin
             refine wpList_append_any _ rfl (.tmp 44) (.tmp 50) _ rfl (w.heap.size + 1) 45 i1 _ 8 96 Tryz.underlying28 hi1 iz0 iz1 iz2 rfl (by omega) (.slice A7 T2.length q7) _ xs7 (by rfl) hown8 _ _ (m2 - k) (d2 - k) _ (by rfl) hrdP HON.out (by unfold maxLen; omega) (by omega) (by omega) ?_
             intro v9 w9 hown9 hg9 hat9
             have hgc := hgb.grown hg9 (fun e => by have := (hlt7 _ e.symm).1; omega)
             have z9 := hgc.cell 1
             simp only [List.getElem?_toArray, List.getElem?_cons_succ, List.getElem?_cons_zero] at z9
             have f9 := hgc.frozen 1
             have l9 := hgc.lt
             obtain ⟨A9, q9, rfl, hq9, hq9m⟩ := own_form hown9))
        all_goals go_end0
        all_goals
          have hrow9 := HPu8.out (cssP.drop k) (Pl.drop k) w9 (.slice A9 (T2.length + (m2 - k)) q9) (by simp only [List.length_drop]; omega) (fun cs hcs => HCZ.out cs (List.mem_of_mem_drop hcs)) (fun i cs b h1 h2 => by
            rw [List.getElem?_drop] at h1 h2
            exact PnRel.kept.2 _ _ _ _ _ (PnRel.mono _ _ _ _ _ (HCP.out _ cs b h1 h2) fun q u hq hc => by
              obtain ⟨hk9, hc⟩ := only_cell hc
              rw [nb_iff] at hk9
              rw [only_cell_in (gB_iff.2 ⟨by omega, hk9, fun e => by have := (hlt7 _ e).1; omega⟩)]
              exact (hw7.cell hq).trans hc) hw7z) (by rw [show (Pl.drop k).length = m2 - k by simp only [List.length_drop]; omega]; exact hown9) hg9 hat9
          obtain ⟨o1, o2⟩ := HH0.out.put_end (hw7.grown hg9 hw7z (fun q hq => by have := (hlt7 q hq).1; omega)) hgc hrow9
          rw [HP.out]
          refine ⟨A9, T2.length + (m2 - k), q9, rfl, ?_, o2⟩
          have e9 : T2 ++ Pl.drop k = T1 ++ p :: Pl.drop k := by rw [HT2.out, List.append_assoc]; rfl
          rw [← e9]
          exact o1
      · have hd1 : decide ((k : Int) < (m2 : Int)) = false := by simp; omega
        go_wp2
        go_quiet (fail)
        have hbW : Below wr.heap.size wr (wr.drewN nq) := belowN nq
        obtain ⟨WW, hWW⟩ : ∃ WW, WW = wr.drewN nq := ⟨_, rfl⟩
        rw [← hWW] at hbW ⊢
        clear hWW
        have hbk3 := b3.below hbW l3
        obtain ⟨l3', y0, y1, y2, y3, y4, y5, y6, y7⟩ := hbk3.eight
        have hwW : Below w.heap.size w WW := hb.trans (hbW.mono hzz)
        have hWz := hbW.size
        have HK1 := Lib.hid (fun k hk => Sl.all_ok hr k hk : ∀ k ∈ p.r, k.size ≤ 140737488351232)
        have HK2 := Lib.hid (fun k hk => Sl.all_ok hw k hk : ∀ k ∈ p.w, Wt.ok k)
        go_wp2_with (go_at_call 46; fail)
        refine (copyP_any p A1 A2 n1 n2 c1 c2 WW ((hr.below KyRel.kept hwW).more KyRel.kept hwW.size) ((hw.below WtRel.kept hwW).more WtRel.kept hwW.size) hn1 hn2).mono ?_
        rintro e w6 ⟨r1, u1, rfl, o1, o2, hb6⟩
        obtain ⟨D1, f1, rfl, hf1, hf1m⟩ := o1.form
        obtain ⟨D2, f2, rfl, hf2, hf2m⟩ := o2.form
        have h6z := hb6.size
        have hX6 : Below w6.heap.size w6 (w6.alloc (.cells (p.arr (.slice D1 p.r.length f1) (.slice D2 p.w.length f2)) 45)) := (Below.refl _ _).alloc (Nat.le_refl _) _
        have hX : Below wr.heap.size wr (w6.alloc (.cells (p.arr (.slice D1 p.r.length f1) (.slice D2 p.w.length f2)) 45)) := (hbW.trans (hb6.mono hWz)).trans (hX6.mono (by omega))
        have hwX : Below w.heap.size w (w6.alloc (.cells (p.arr (.slice D1 p.r.length f1) (.slice D2 p.w.length f2)) 45)) := hb.trans (hX.mono hzz)
        have hrX := hrow.keepG PnRel.kept PnRel.mono hgw (w' := w6.alloc (.cells (p.arr (.slice D1 p.r.length f1) (.slice D2 p.w.length f2)) 45)) hX.size (fun k hk _ => hX.block k hk)
        have hlt5 := hrow.lt
        have hd1o := World.ownsRow.lt o1
        have hd2o := World.ownsRow.lt o2
        have hXs : (w6.alloc (.cells (p.arr (.slice D1 p.r.length f1) (.slice D2 p.w.length f2)) 45)).heap.size = w6.heap.size + 1 := by simp
        have hin : Inn PnRel (gB g (w6.alloc (.cells (p.arr (.slice D1 p.r.length f1) (.slice D2 p.w.length f2)) 45)).heap.size (.slice Av T1.length qv)) (w6.alloc (.cells (p.arr (.slice D1 p.r.length f1) (.slice D2 p.w.length f2)) 45)) (p.cs (.slice D1 p.r.length f1) (.slice D2 p.w.length f2)) p :=
          ⟨_, _, rfl, hpt, hps, OwnL.inn2 (by omega) ky_len (o1.below hX6) HK1.out (fun k e => gB_iff.2 ⟨by have := hd1o k e; omega, by have := hd1o k e; omega, fun e9 => by have := hd1o k e; have := hlt5 k e9; omega⟩),
            OwnL.inn2 (by omega) wt_len (o2.below hX6) HK2.out (fun k e => gB_iff.2 ⟨by have := hd2o k e; omega, by have := hd2o k e; omega, fun e9 => by have := hd2o k e; have := hlt5 k e9; omega⟩)⟩
        have HI := Lib.hid hin
        obtain ⟨xs, hown0, hpush⟩ := hrX.ownG PnRel.kept PnRel.mono hgw
        have HPu := Lib.hid hpush
        have HXs := Lib.hid hXs
        have hrd0 := reads_new' w6 45 (p.cs (.slice D1 p.r.length f1) (.slice D2 p.w.length f2)) 8 rfl
        have hgX := ((h.below hwX).blk)
        clear hpush hin hXs y0 y1 y2 y3 y4 y5 y6 y7 k0 k1
        have hkm : (k : Int) ≤ (m2 : Int) := by omega
        have hkn : (0 : Int) ≤ (k : Int) := by omega
        obtain ⟨cssP, hcl, hcsz, hcr, hcp⟩ := h.ps.css (by omega)
        have HCR := Lib.hid hcr
        have HCP := Lib.hid hcp
        have HCZ := Lib.hid hcsz
        clear hcr hcp hcsz
        go_upto_region 7 with (first
          | (at_builtin
             refine wpList_append_any _ rfl (.tmp 38) (.tmp 41) _ rfl (w.heap.size + 1) 45 i1 _ 8 96 Tryz.underlying28 hi1 iz0 iz1 iz2 rfl (by omega) (.slice Av T1.length qv) _ xs (by rfl) hown0 _ (some ⟨w6.heap.size, 0, none⟩) 1 1 (p.cs (.slice D1 p.r.length f1) (.slice D2 p.w.length f2)) (by rfl)
               hrd0 (pn_one p _ _ _ _ _ _) (by unfold maxLen; omega) (by omega) (by simp; omega) ?_
             intro v7 w7 hown7 hg7 hat7))
        have hrow7 := HPu.out [p.cs (.slice D1 p.r.length f1) (.slice D2 p.w.length f2)] [p] w7 _ rfl (fun cs hcs => by simp only [List.mem_cons, List.not_mem_nil, or_false] at hcs; rw [hcs]; rfl) (fun i cs b h1 h2 => by
          cases i with
          | zero => simp only [List.getElem?_cons_zero, Option.some.injEq] at h1 h2; subst h1 h2; exact HI.out
          | succ i => simp at h1) (by simpa using hown7) hg7 hat7
        have hgb := hgX.grown hg7 (fun e => by have := (hlt5 _ e.symm).1; omega)
        have hw7 := hwX.grown hg7 hwX.size (fun q hq => by have := (hown0.lt q hq).1; omega)
        have hcell : ∀ q u, q.block < w.heap.size → (only (nb g) w).cell? q = some u → w7.cell? q = some u := fun q u hq hc => (hw7.cell hq).trans (only_cell hc).2
        have z1 := hgb.cell 1
        simp only [List.getElem?_toArray, List.getElem?_cons_succ, List.getElem?_cons_zero] at z1
        have zf := hgb.frozen 1
        have zl := hgb.lt
        have hX7 := hg7.size
        rw [World.size_alloc] at hX7
        have hXs := HXs.out
        obtain ⟨T2, hT2⟩ : ∃ T2, T2 = T1 ++ [p] := ⟨_, rfl⟩
        rw [← hT2] at hrow7
        have HT2 := Lib.hid hT2
        have hT2l : T2.length ≤ 1000001 := by rw [hT2]; simp; omega
        clear hT2
        obtain ⟨A7, q7, rfl, hq7, hq7m⟩ := hrow7.form
        have hlt7 := hrow7.lt
        obtain ⟨xs7, hown8, hpush8⟩ := hrow7.ownG PnRel.kept PnRel.mono hgw
        have HPu8 := Lib.hid hpush8
        have hrdP := (HCR.out.monoC hcell).cut (k := k) (cap := d2) (by omega) hle2
        rw [drop_flat 8 _ _ HCZ.out] at hrdP
        have hone : ∀ u ∈ (cssP.drop k).flatten, u.oneCell' = true := fun u hu => by
          obtain ⟨cs, hcs, hu⟩ := List.mem_flatten.1 hu
          obtain ⟨i, hi⟩ := List.getElem?_of_mem (List.mem_of_mem_drop hcs)
          have hil : i < Pl.length := by have := (List.getElem?_eq_some_iff.1 hi).1; omega
          exact pn_cells_one (HCP.out i cs _ hi (List.getElem?_eq_getElem hil)) u hu
        have HON := Lib.hid hone
        have hw7z := hw7.size
        have hle7 : w.heap.size + 1 ≤ w7.heap.size := by omega
        clear hpush8 hown7 hown0 hone
        skip
        go_wp2_with (first
          | (at_builtin
             refine wpList_append_any _ rfl (.tmp 44) (.tmp 50) _ rfl (w.heap.size + 1) 45 i1 _ 8 96 Tryz.underlying28 hi1 iz0 iz1 iz2 rfl (by omega) (.slice A7 T2.length q7) _ xs7 (by rfl) hown8 _ _ (m2 - k) (d2 - k) _ (by rfl) hrdP HON.out (by unfold maxLen; omega) (by omega) (by omega) ?_
             intro v9 w9 hown9 hg9 hat9
             have hgc := hgb.grown hg9 (fun e => by have := (hlt7 _ e.symm).1; omega)
             have z9 := hgc.cell 1
             simp only [List.getElem?_toArray, List.getElem?_cons_succ, List.getElem?_cons_zero] at z9
             have f9 := hgc.frozen 1
             have l9 := hgc.lt
             obtain ⟨A9, q9, rfl, hq9, hq9m⟩ := own_form hown9))
        all_goals go_end0
        all_goals
          have hrow9 := HPu8.out (cssP.drop k) (Pl.drop k) w9 (.slice A9 (T2.length + (m2 - k)) q9) (by simp only [List.length_drop]; omega) (fun cs hcs => HCZ.out cs (List.mem_of_mem_drop hcs)) (fun i cs b h1 h2 => by
            rw [List.getElem?_drop] at h1 h2
            exact PnRel.kept.2 _ _ _ _ _ (PnRel.mono _ _ _ _ _ (HCP.out _ cs b h1 h2) fun q u hq hc => by
              obtain ⟨hk9, hc⟩ := only_cell hc
              rw [nb_iff] at hk9
              rw [only_cell_in (gB_iff.2 ⟨by omega, hk9, fun e => by have := (hlt7 _ e).1; omega⟩)]
              exact (hw7.cell hq).trans hc) hw7z) (by rw [show (Pl.drop k).length = m2 - k by simp only [List.length_drop]; omega]; exact hown9) hg9 hat9
          obtain ⟨o1, o2⟩ := HH0.out.put_end (hw7.grown hg9 hw7z (fun q hq => by have := (hlt7 q hq).1; omega)) hgc hrow9
          rw [HP.out]
          refine ⟨A9, T2.length + (m2 - k), q9, rfl, ?_, o2⟩
          have e9 : T2 ++ Pl.drop k = T1 ++ p :: Pl.drop k := by rw [HT2.out, List.append_assoc]; rfl
          rw [← e9]
          exact o1
end Go.Proofs.YtipacjbegfingaaGreat
