/- The walk of PlaceTurns. -/
import Derived.Test.YtbclfcfcpmlaaaaPz
import Derived.BigRegion
import Derived.Deep.MidRow
import Derived.Deep.RegionLaw
namespace Go.Proofs.Ytbclfcfcpmlaaaa
open Go.RowKit Fl
attribute [local go_sem] run_store_float
attribute [local go_sem] Rg.val
attribute [local go_sem ↓] Go.wp_at_zero Go.wp_at_succ

/-- a slice of numbers that came in -/
abbrev IntRel : Rel Int := Flat (fun n : Int => [.int .i64 n]) fun n => i64ok n
theorem IntRel.kept : IntRel.Kept := Flat.kept _ _

/-- the row of ranges that the law keeps: block g, so much room -/
def RowAt (w : World) (g cap : Nat) (l : List Rg) : Prop :=
  (∃ cur : Array Value, Blk w g 39 cur ∧ cur.size = cap * 4) ∧ l.length ≤ cap ∧ ∀ i r, l[i]? = some r → w.rangeAt g (i * 4) r.cells

theorem blk_setCells {g : Nat} {t : TypeId} (m : Nat) : ∀ (vs : List Value) (o : Nat) (w : World), (∃ cur : Array Value, Blk w g t cur ∧ cur.size = m) → ∃ cur : Array Value, Blk (w.setCells g o vs) g t cur ∧ cur.size = m := by
  intro vs
  induction vs with
  | nil => intro o w h; exact h
  | cons v vs ih =>
    rintro o w ⟨cur, h, hs⟩
    exact ih (o + 1) _ ⟨_, h.set_ o v, by simpa using hs⟩
theorem below_setCells {B g : Nat} (hg : B ≤ g) : ∀ (vs : List Value) (o : Nat) (a w : World), Below B a w → Below B a (w.setCells g o vs) := by
  intro vs
  induction vs with
  | nil => intro o a w h; exact h
  | cons v vs ih => intro o a w h; exact ih (o + 1) a _ (h.setCell (p := ⟨g, o, none⟩) hg v)
theorem RowAt.there {w : World} {g cap : Nat} {l : List Rg} (h : RowAt w g cap l) {o : Nat} (ho : o + 4 ≤ cap * 4) : w.there g o 4 := by
  obtain ⟨⟨cur, hb, hs⟩, _⟩ := h
  intro j hj
  refine ⟨?_, hb.frozen _⟩
  rw [hb.cell, Array.getElem?_eq_getElem (by omega)]
  rfl
def swapL (l : List Rg) (j : Nat) (a b : Rg) : List Rg := (l.set 0 b).set j a
theorem swap_perm {l : List Rg} {j : Nat} {a b : Rg} (h0 : l[0]? = some a) (hj : l[j]? = some b) : (swapL l j a b).Perm l := by
  unfold swapL
  match l, h0 with
  | x :: t, h0 =>
    obtain rfl : x = a := by simpa using h0
    cases j with
    | zero =>
      obtain rfl : x = b := by simpa using hj
      exact List.Perm.refl _
    | succ j =>
      have hj' : t[j]? = some b := by simpa using hj
      have hlt := (List.getElem?_eq_some_iff.1 hj').1
      have e1 : t = t.take j ++ b :: t.drop (j + 1) := by
        have := (List.take_append_drop j t).symm
        rw [List.drop_eq_getElem_cons hlt, (List.getElem?_eq_some_iff.1 hj').2] at this
        exact this
      show (b :: t.set j x).Perm (x :: t)
      rw [List.set_eq_take_append_cons_drop, if_pos hlt]
      refine List.Perm.trans ?_ (List.Perm.cons x (List.Perm.of_eq e1.symm))
      refine List.Perm.trans (List.Perm.cons b List.perm_middle) ?_
      refine List.Perm.trans (List.Perm.swap x b _) ?_
      exact List.Perm.cons x List.perm_middle.symm
theorem RowAt.swap {w : World} {g cap : Nat} {l : List Rg} (h : RowAt w g cap l) {j : Nat} {a b : Rg} (_h0 : l[0]? = some a) (hj : l[j]? = some b) :
    RowAt ((w.setCells g 0 b.cells).setCells g (j * 4) a.cells) g cap (swapL l j a b) := by
  have hlt := (List.getElem?_eq_some_iff.1 hj).1
  have hlen : (swapL l j a b).length = l.length := by unfold swapL; simp
  obtain ⟨hb, hl, hr⟩ := h
  have t0 : w.there g 0 4 := RowAt.there ⟨hb, hl, hr⟩ (by omega)
  have tj : (w.setCells g 0 b.cells).there g (j * 4) 4 := World.there_setCells (RowAt.there ⟨hb, hl, hr⟩ (by omega)) g 0 b.cells
  refine ⟨blk_setCells _ _ _ _ (blk_setCells _ _ _ _ hb), by rw [hlen]; exact hl, fun i r hi => ?_⟩
  unfold swapL at hi
  by_cases ej : i = j
  · subst ej
    rw [List.getElem?_set_self (by simpa using hlt)] at hi
    obtain rfl := Option.some.inj hi
    exact World.rangeAt_setCells_same _ g _ _ tj
  · rw [List.getElem?_set_ne (fun e => ej e.symm)] at hi
    by_cases e0 : i = 0
    · subst e0
      rw [List.getElem?_set_self (by omega)] at hi
      obtain rfl := Option.some.inj hi
      rw [Nat.zero_mul]
      exact World.rangeAt_setCells_apart (World.rangeAt_setCells_same w g 0 b.cells t0) g (j * 4) a.cells (.inr (.inl (by show 0 + 4 ≤ j * 4; omega)))
    · rw [List.getElem?_set_ne (fun e => e0 e.symm)] at hi
      exact World.rangeAt_setCells_apart (World.rangeAt_setCells_apart (hr i r hi) g 0 b.cells (.inr (.inr (by show 0 + 4 ≤ i * 4; omega)))) g (j * 4) a.cells
        (by right; show i * 4 + 4 ≤ j * 4 ∨ j * 4 + 4 ≤ i * 4; omega)
theorem RowAt.own {w : World} {g cap n base : Nat} {l : List Rg} (h : RowAt w g cap l) (hb : base ≤ g) (hn : l.length = n) (hc : cap ≤ maxLen) : w.ownsRow base 39 4 (.slice (some ⟨g, 0, none⟩) n cap) n (l.flatMap Rg.cells) := by
  obtain ⟨⟨cur, hbk, hs⟩, hl, hr⟩ := h
  refine ⟨by rw [flat_len _ 4 rg_len, hn], .inr ⟨g, cap, cur, rfl, hb, hbk, by omega, hc, hs, ?_⟩⟩
  apply List.ext_getElem?
  intro i
  by_cases hi : i < n * 4
  · rw [List.getElem?_take_of_lt hi]
    have e : i = i / 4 * 4 + i % 4 := (Nat.div_add_mod' i 4).symm
    have hi4 : i / 4 < l.length := by omega
    have h1 := hr (i / 4) l[i / 4] (List.getElem?_eq_getElem hi4)
    have hlen4 : i % 4 < (l[i / 4]).cells.length := by rw [rg_len]; omega
    have h2 := h1 (i % 4) _ (List.getElem?_eq_getElem hlen4)
    rw [hbk.cell, ← e] at h2
    have h3 : (l.flatMap Rg.cells)[i]? = some ((l[i / 4]).cells[i % 4]) := by
      conv => lhs; rw [e]
      rw [flat_get Rg.cells 4 (by omega) rg_len l _ _ (by omega), List.getElem?_eq_getElem hi4]
      exact List.getElem?_eq_getElem hlen4
    rw [h3, ← h2]
    simp
  · rw [List.getElem?_eq_none (by simp; omega), List.getElem?_eq_none (by rw [flat_len _ 4 rg_len]; omega)]
theorem own_row {w : World} {base g n cap : Nat} {l : List Rg} (h : w.ownsRow base 39 4 (.slice (some ⟨g, 0, none⟩) n cap) n (l.flatMap Rg.cells)) (hn : l.length = n) (hp : 0 < n) : RowAt w g cap l := by
  have hr := (Reads.of_own h).2 hp
  rcases h.2 with ⟨hv, h0⟩ | ⟨g', cap', cur, hv, _, hh, hnc, _, hs, _⟩
  · omega
  · simp only [Value.slice.injEq, Option.some.injEq, Addr.mk.injEq, and_true, true_and] at hv
    obtain ⟨rfl, rfl⟩ := hv
    refine ⟨⟨cur, hh, hs⟩, by omega, fun i r hi j v hj => ?_⟩
    obtain ⟨ad, e, _, hc⟩ := hr
    obtain rfl := Option.some.inj e
    have hj4 : j < 4 := (List.getElem?_eq_some_iff.1 hj).1
    have := hc (i * 4 + j) v (by rw [flat_get Rg.cells 4 (by omega) rg_len l i j hj4, hi]; exact hj)
    rw [Addr.add_mid, Nat.zero_add] at this
    exact this

theorem own_block_ge' {w : World} {base : Nat} {e : TypeId} {size n : Nat} {v : Value} {xs : List Value} (h : w.ownsRow base e size v n xs) : ∀ k, v.ownBlock = some k → base ≤ k := fun k hk => (h.lt k hk).1
theorem reads_new' (w : World) (t : TypeId) (cs : List Value) (k : Nat) (h : cs.length = k) : Reads (w.alloc (.cells cs.toArray t)) (w.heap.size + 1) k (some ⟨w.heap.size, 0, none⟩) 1 cs := by
  refine ⟨by rw [h, Nat.one_mul], fun _ => ⟨_, rfl, by simp, fun j u hj => ?_⟩⟩
  rw [Addr.add_mid, Nat.zero_add, (Blk.new w t cs.toArray).cell]
  simpa using hj
theorem RowAt.below {w w' : World} {B g cap : Nat} {l : List Rg} (h : RowAt w g cap l) (hb : Below B w w') (hg : g < B) : RowAt w' g cap l := by
  obtain ⟨⟨cur, h1, h2⟩, h3, h4⟩ := h
  exact ⟨⟨cur, h1.below hb hg, h2⟩, h3, fun i r hi j v hj => (hb.cell (p := ⟨g, _, none⟩) hg).trans (h4 i r hi j v hj)⟩
theorem flat_drop {α : Type} (f : α → List Value) (k : Nat) (hf : ∀ a, (f a).length = k) : ∀ (l : List α) (i : Nat), (l.flatMap f).drop (i * k) = (l.drop i).flatMap f := by
  intro l
  induction l with
  | nil => intro i; simp
  | cons a l ih =>
    intro i
    cases i with
    | zero => simp
    | succ i =>
      rw [List.flatMap_cons, Nat.succ_mul, Nat.add_comm, ← List.drop_drop, List.drop_left' (hf a)]
      exact ih i
theorem Sl.take {α : Type} {R : Rel α} {size : Nat} {w : World} {B n : Nat} {A : Option Addr} {l : List α} (h : Sl R size w B A n l) {j : Nat} (hj : j ≤ n) : Sl R size w B A j (l.take j) := by
  refine ⟨by rw [List.length_take, h.1]; omega, fun i a hi => ?_⟩
  have hij : i < j := by have := (List.getElem?_eq_some_iff.1 hi).1; rw [List.length_take] at this; omega
  rw [List.getElem?_take_of_lt hij] at hi
  exact h.2 i a hi

set_option maxRecDepth 100000 in
set_option maxHeartbeats 8000000 in
theorem turns_walk (A : Option Addr) (n c : Nat) (l : List Rg) (A2 : Option Addr) (n2 c2 : Nat) (t : List Int) (k : Int) (w : World) (h : Sl RgRel 4 w w.heap.size A n l) (hn : n ≤ c) (hc : c ≤ maxLen)
    (h2 : Sl IntRel 1 w w.heap.size A2 n2 t) (hn2 : n2 ≤ maxLen) (_hk : i64ok k) :
    Calls Try.prog 6 #[.slice A n c, .slice A2 n2 c2, .int .i64 k] w fun e w' => e = .returned (.bool true) ∧ Below w.heap.size w w' := by
  obtain ⟨i0, hi0, hz0, hz1, hz2⟩ := info_parts rg_info
  have hcm := hc
  have hSl := h
  unfold maxLen at hc hn2
  by_cases h200 : n ≤ 200 ∧ 0 < n
  · obtain ⟨h200, hpos⟩ := h200
    have g1 : decide ((200 : Int) < (n : Int)) = false := by simp; omega
    have g2 : ((n : Int) == 0) = false := by simp; omega
    go_enter Try.func6, Try.ntmps6
    go_wp2_with ((with_reducible refine (first_any _).mono ?_); rintro e w1 ⟨rfl, rfl⟩)
    refine (check_any A n c l _ h hn hcm).mono ?_
    rintro e w1 ⟨rfl, hb1⟩
    have z1 := hb1.size
    have hl1 := h.below RgRel.kept hb1
    generalize hck : ck l = E
    have HE := Lib.hid hck; clear hck
    go_wp2_with (first
      | (at_builtin
         refine wpList_append_any _ rfl (.tmp 25) (.tmp 26) _ rfl w1.heap.size 39 i0 _ 4 32 Try.underlying35 hi0 hz0 hz1 hz2 rfl (by omega) (.slice (some ⟨w1.heap.size, 0, none⟩) 0 0) 0 [] (by rfl)
           (World.ownsRow_made w1 #[] 0 (Nat.le_refl _) (by unfold maxLen; omega) rfl) w.heap.size A n c (l.flatMap Rg.cells) (by rfl) ((hl1.alloc RgRel.kept z1 _).reads (by omega) rg_len) (rg_one l) (by unfold maxLen; omega) (by omega) (by simp) ?_
         intro v2 w2 hown2 hg2 hat2))
    simp only [Nat.zero_add, List.nil_append] at hown2
    have hb2 : Below w.heap.size w w2 := (hb1.alloc z1 _).grown hg2 (by simp; omega) (by intro k hk; simp [Value.ownBlock] at hk; omega)
    have hrow : ∃ g cap, v2 = .slice (some ⟨g, 0, none⟩) n cap ∧ w1.heap.size ≤ g ∧ cap ≤ maxLen ∧ RowAt w2 g cap l := by
      have hlen := h.1
      rcases hown2.2 with ⟨_, h0⟩ | ⟨g, cap, cur, hv, hg, hh, hnc, hcap, hsz, htk⟩
      · omega
      · subst hv
        exact ⟨g, cap, rfl, hg, hcap, own_row hown2 hlen hpos⟩
    obtain ⟨g, cap, hv, hgb, hcap, hrow⟩ := hrow
    subst hv
    unfold maxLen at hcap
    have hl0 := h.1
    have HL0 := Lib.hid hl0
    have hgw : w.heap.size ≤ g := by omega
    clear hown2 hg2 hat2 hl0
    go_loopw [9] (fun i wr => ∃ q : Nat, q ≤ n2 ∧ i = .int .i64 q ∧ Below w.heap.size w wr ∧ Hid (∃ lm : List Rg, lm.Perm l ∧ RowAt wr g cap lm)) (fun i _ => n2 - (intOf i).toNat)
    case atStart => exact ⟨0, by omega, rfl, hb2, l, List.Perm.refl _, hrow⟩
    case round =>
      clear hb2 hrow
      obtain ⟨q, hq, rfl, hb, hlm⟩ := hrel
      by_cases hlt : q < n2 ∧ q < 200
      · obtain ⟨hq1, hq2⟩ := hlt
        have hq3 : decide ((q : Int) < 200) = true := by simp; omega
        obtain ⟨ad, cs, x, rfl, hx, hbk, _, hcell, rfl, hxo⟩ := (h2.below IntRel.kept hb).at_ hq1
        have c0 := hcell 0 _ rfl
        rw [Nat.mul_one, Nat.add_zero] at c0
        clear hcell hx
        obtain ⟨j, hj, hj2⟩ : ∃ j : Nat, j < n ∧ (x.tmod n = j ∨ (x.tmod n = -(j : Int) ∧ 0 < j)) := by
          have a1 := Int.tmod_lt_of_pos x (show (0 : Int) < n by omega)
          have a2 := Int.lt_tmod_of_pos x (show (0 : Int) < n by omega)
          exact ⟨(x.tmod n).natAbs, by omega, by omega⟩
        obtain ⟨lm, hperm, hrow⟩ := hlm.out
        have hlml : lm.length = n := by rw [hperm.length_eq]; exact HL0.out
        have h0l : lm[0]? = some lm[0] := List.getElem?_eq_getElem (by omega)
        have hjl : lm[j]? = some lm[j] := List.getElem?_eq_getElem (by omega)
        generalize lm[0] = a at h0l
        generalize lm[j] = b at hjl
        have hrow' : RowAt wr.drew g cap lm := hrow
        have hcap2 : n ≤ cap := by rw [← hlml]; exact hrow.2.1
        have rA := hrow'.2.2 0 a h0l
        have rB := hrow'.2.2 j b hjl
        rw [Nat.zero_mul] at rA
        have p0 : wr.cell? ⟨g, 0, none⟩ = some (.int .i64 a.id) := by have := rA 0 _ rfl; simpa using this
        have q0 : wr.cell? ⟨g, j * 4, none⟩ = some (.int .i64 b.id) := rB 0 _ rfl
        have p1 : wr.cell? ⟨g, 1, none⟩ = some (.int .i64 a.ep) := by have := rA 1 _ rfl; simpa using this
        have q1 : wr.cell? ⟨g, j * 4 + 1, none⟩ = some (.int .i64 b.ep) := rB 1 _ rfl
        have p2 : wr.cell? ⟨g, 2, none⟩ = some (.float .f64 a.lo) := by have := rA 2 _ rfl; simpa using this
        have q2 : wr.cell? ⟨g, j * 4 + 2, none⟩ = some (.float .f64 b.lo) := rB 2 _ rfl
        have p3 : wr.cell? ⟨g, 3, none⟩ = some (.float .f64 a.hi) := by have := rA 3 _ rfl; simpa using this
        have q3 : wr.cell? ⟨g, j * 4 + 3, none⟩ = some (.float .f64 b.hi) := rB 3 _ rfl
        have fz : ∀ o, wr.frozen? ⟨g, o, none⟩ = false := by obtain ⟨⟨cur, hbk, _⟩, _⟩ := hrow; exact fun o => hbk.frozen o
        have tj := World.there_setCells (w := wr) (hrow.there (o := j * 4) (by omega)) g 0 b.cells
        obtain ⟨v0, y0⟩ : ∃ v, ((((wr.setCell ⟨g, 0, none⟩ (.int .i64 b.id)).setCell ⟨g, 1, none⟩ (.int .i64 b.ep)).setCell ⟨g, 2, none⟩ (.float .f64 b.lo)).setCell ⟨g, 3, none⟩ (.float .f64 b.hi)).cell? ⟨g, j * 4, none⟩ = some v := Option.isSome_iff_exists.1 (tj 0 (by omega)).1
        obtain ⟨v1, y1⟩ : ∃ v, (((((wr.setCell ⟨g, 0, none⟩ (.int .i64 b.id)).setCell ⟨g, 1, none⟩ (.int .i64 b.ep)).setCell ⟨g, 2, none⟩ (.float .f64 b.lo)).setCell ⟨g, 3, none⟩ (.float .f64 b.hi)).setCell ⟨g, j * 4, none⟩ (.int .i64 a.id)).cell? ⟨g, j * 4 + 1, none⟩ = some v := Option.isSome_iff_exists.1 (World.isSome_setCells g [(.int .i64 a.id)] (j * 4) _ _ (tj 1 (by omega)).1)
        obtain ⟨v2, y2⟩ : ∃ v, ((((((wr.setCell ⟨g, 0, none⟩ (.int .i64 b.id)).setCell ⟨g, 1, none⟩ (.int .i64 b.ep)).setCell ⟨g, 2, none⟩ (.float .f64 b.lo)).setCell ⟨g, 3, none⟩ (.float .f64 b.hi)).setCell ⟨g, j * 4, none⟩ (.int .i64 a.id)).setCell ⟨g, j * 4 + 1, none⟩ (.int .i64 a.ep)).cell? ⟨g, j * 4 + 2, none⟩ = some v := Option.isSome_iff_exists.1 (World.isSome_setCells g [(.int .i64 a.id), (.int .i64 a.ep)] (j * 4) _ _ (tj 2 (by omega)).1)
        obtain ⟨v3, y3⟩ : ∃ v, (((((((wr.setCell ⟨g, 0, none⟩ (.int .i64 b.id)).setCell ⟨g, 1, none⟩ (.int .i64 b.ep)).setCell ⟨g, 2, none⟩ (.float .f64 b.lo)).setCell ⟨g, 3, none⟩ (.float .f64 b.hi)).setCell ⟨g, j * 4, none⟩ (.int .i64 a.id)).setCell ⟨g, j * 4 + 1, none⟩ (.int .i64 a.ep)).setCell ⟨g, j * 4 + 2, none⟩ (.float .f64 a.lo)).cell? ⟨g, j * 4 + 3, none⟩ = some v := Option.isSome_iff_exists.1 (World.isSome_setCells g [(.int .i64 a.id), (.int .i64 a.ep), (.float .f64 a.lo)] (j * 4) _ _ (tj 3 (by omega)).1)
        clear tj rA rB
        have hnew0 := hrow'.swap h0l hjl
        have hbn0 := below_setCells hgw a.cells (j * 4) _ _ (below_setCells hgw b.cells 0 _ _ hb.drew)
        simp only [Rg.cells, World.setCells, World.setCell_drew, Nat.zero_add, Nat.reduceAdd, Nat.add_assoc] at hnew0 hbn0
        have hnew := Lib.hid hnew0
        have hbn := Lib.hid hbn0
        clear hnew0 hbn0
        have hnp := Lib.hid ((swap_perm h0l hjl).trans hperm)
        have hadd : (⟨g, 0, none⟩ : Addr).add (j * 4) = ⟨g, j * 4, none⟩ := by rw [Addr.add_mid, Nat.zero_add]
        have hj0 : ¬ (j : Int) < 0 := by omega
        have hjz : (0 : Int) ≤ (j : Int) := by omega
        have hjn : (j : Int) < (n : Int) := by omega
        clear hlm hperm hlml h0l hjl hrow hrow'
        rcases hj2 with hj2 | ⟨hj2, hj3⟩
        all_goals
          go_wp2
          go_region
          go_wp2
          go_roundw
          case rel => exact ⟨q + 1, by omega, by go_num, hbn.out, Lib.hid ⟨_, hnp.out, hnew.out⟩⟩
          case measure => simp [intOf]; omega
      · have hex : Hid (¬ (q < n2 ∧ q < 200)) := Lib.hid hlt
        have hzz := hb.size
        obtain ⟨lm, hperm, hrow⟩ := hlm.out
        have hlml : lm.length = n := by rw [hperm.length_eq]; exact HL0.out
        have HP := Lib.hid hperm
        have HR := Lib.hid hrow
        have hgr : g < wr.heap.size := by obtain ⟨⟨cur, hbk, _⟩, _⟩ := hrow; exact hbk.lt
        have hlm2 : Sl RgRel 4 wr wr.heap.size (some ⟨g, 0, none⟩) n lm :=
          (Reads.of_own (hrow.own (base := w.heap.size) hgw hlml (by unfold maxLen; omega))).sl (by omega) rg_len (fun r hr => h.all_ok r (hperm.mem_iff.1 hr)) hlml
        have hcap2 : n ≤ cap := by rw [← hlml]; exact hrow.2.1
        have HLM := Lib.hid hlml
        clear hlm hperm hrow hlml
        have hex2 : n2 ≤ q ∨ (q < n2 ∧ 200 ≤ q) := by omega
        clear hlt
        have hiff : ck lm = 0 ↔ ck l = 0 := ck_perm HP.out
        rw [HE.out] at hiff
        generalize hM : ck lm = M at hiff
        have HM := Lib.hid hM; clear hM
        by_cases hE : E = 0
        rotate_left
        · have hM0 : ¬ M = 0 := fun e => hE (hiff.1 e)
          have e1 : (M == 0) = false := by simpa using hM0
          have e2 : (E == 0) = false := by simpa using hE
          have e3 : (E != 0) = true := by simpa using hE
          clear hiff hE hM0
          rcases hex2 with hx | ⟨hx, hx2⟩
          all_goals
            go_wp2_with fail
            refine (check_any (some ⟨g, 0, none⟩) n cap lm _ hlm2 hcap2 (by unfold maxLen; omega)).mono ?_
            rintro e w4 ⟨rfl, hb4⟩
            rw [HM.out]
            go_wp2_with ((with_reducible refine (first_any _).mono ?_); rintro e w1 ⟨rfl, rfl⟩)
            go_ret
            exact ⟨rfl, hb.trans (hb4.mono hzz)⟩
        have HM0 := Lib.hid (hiff.2 hE)
        have HE0 : Hid (ck l = 0) := Lib.hid (HE.out.trans hE)
        subst hE
        clear hiff
        obtain ⟨j, hj, hj2⟩ : ∃ j : Nat, j < n ∧ (k.tmod n = j ∨ (k.tmod n = -(j : Int) ∧ 0 < j)) := by
          have a1 := Int.tmod_lt_of_pos k (show (0 : Int) < n by omega)
          have a2 := Int.lt_tmod_of_pos k (show (0 : Int) < n by omega)
          exact ⟨(k.tmod n).natAbs, by omega, by omega⟩
        have hj0 : ¬ (j : Int) < 0 := by omega
        have hjz : (0 : Int) ≤ (j : Int) := by omega
        have hjn : (j : Int) < (n : Int) := by omega
        rcases hex2 with hx | ⟨hx, hx2⟩
        all_goals
          rcases hj2 with hj2 | ⟨hj2, hj3⟩
          all_goals
            go_wp2_with fail
            refine (check_any (some ⟨g, 0, none⟩) n cap lm _ hlm2 hcap2 (by unfold maxLen; omega)).mono ?_
            rintro e w4 ⟨rfl, hb4⟩
            rw [HM.out, HM0.out]
            have z4 : w.heap.size ≤ w4.heap.size := Nat.le_trans hzz hb4.size
            have hl4 : Sl RgRel 4 w4 w.heap.size A n l := h.below RgRel.kept (hb.trans (hb4.mono hzz))
            obtain ⟨ad, hA⟩ : ∃ ad, A = some ad := by obtain ⟨ad, _, _, e, _⟩ := hl4.at_ (k := j) hj; exact ⟨ad, e⟩
            subst hA
            have hrd := hl4.reads (by omega) rg_len
            have hrt : Reads w4 w.heap.size 4 (some ad) j ((l.take j).flatMap Rg.cells) := Sl.reads (by omega) rg_len (Sl.take hl4 (by omega))
            have hrc : Reads w4 w.heap.size 4 (if c = j + 1 then some ad else some (ad.add ((j + 1) * 4))) (n - (j + 1)) ((l.flatMap Rg.cells).drop ((j + 1) * 4)) := Reads.cut hrd (k := j + 1) (cap := c) (by omega) hn
            have hdrop : (l.flatMap Rg.cells).drop ((j + 1) * 4) = (l.drop (j + 1)).flatMap Rg.cells := flat_drop Rg.cells 4 rg_len l (j + 1)
            rw [hdrop] at hrc
            have hjc : (j : Int) ≤ (c : Int) := by omega
            have hj1 : (j : Int) + 1 ≤ (n : Int) := by omega
            have hj2' : 0 ≤ (j : Int) + 1 := by omega
            have hw1 : IntKind.i64.wrap ((j : Int) + 1) = (j : Int) + 1 := IntWalk.i64_in _ (by omega)
            have hw3 : ((j : Int) + 1).toNat = j + 1 := by omega
            clear hdrop
            go_wp2_with fail
            go_region_law (first
              | (refine step_append_any _ (by rfl) (.tmp 78) (.tmp 81) _ (by rfl) w4.heap.size 39 i0 _ 4 32 Try.underlying35 hi0 hz0 hz1 hz2 (by rfl) (by omega) (.slice (some ⟨w4.heap.size, 0, none⟩) 0 0) 0 [] (by rfl)
                   (World.ownsRow_made w4 #[] 0 (Nat.le_refl _) (by unfold maxLen; omega) rfl) w.heap.size (some ad) j c ((l.take j).flatMap Rg.cells) (by rfl) ((hrt.alloc z4 _).drew) (rg_one _) (by unfold maxLen; omega) (by omega) (by simp) ?_
                 intro v5 w5 hown5 hg5 hat5
                 have hb5 : Below w4.heap.size w4 w5 := ((Below.refl _ _).alloc (Nat.le_refl _) (.cells #[] 39)).drew.grown hg5 (by simp) (by intro k hk; simp [Value.ownBlock] at hk; omega))
              | (refine step_append_any _ (by rfl) (.tmp 82) (.tmp 86) _ (by rfl) w4.heap.size 39 i0 _ 4 32 Try.underlying35 hi0 hz0 hz1 hz2 (by rfl) (by omega) v5 (0 + j) ([] ++ (l.take j).flatMap Rg.cells) (by rfl)
                   hown5 w.heap.size _ (n - (j + 1)) _ ((l.drop (j + 1)).flatMap Rg.cells) (by rfl) (hrc.below (hb5.mono z4)) (rg_one _) (by unfold maxLen; omega) (by omega) hb5.size ?_
                 intro v6 w6 hown6 hg6 hat6))
            all_goals
              simp only [Nat.zero_add, List.nil_append] at hown6
              rw [← List.flatMap_append] at hown6
              have hb6 : Below w4.heap.size w4 w6 := hb5.grown hg6 hb5.size (fun q hq => own_block_ge' hown5 q hq)
              obtain ⟨A6, c6, hv6, hn6, hc6⟩ := own_form hown6
              subst hv6
              have hles : Sl RgRel 4 w6 w6.heap.size A6 (j + (n - (j + 1))) (l.take j ++ l.drop (j + 1)) :=
                (Reads.of_own hown6).sl (by omega) rg_len (fun r hr => hSl.all_ok r (by rcases List.mem_append.1 hr with a | a; exact List.mem_of_mem_take a; exact List.mem_of_mem_drop a)) (by rw [List.length_append, List.length_take, List.length_drop, HL0.out]; omega)
              clear hown5 hg5 hat5 hown6 hg6 hat6 hrd hrt hrc
              have z6 := hb6.size
              have hb46 : Below w.heap.size w w6 := (hb.trans (hb4.mono hzz)).trans (hb6.mono z4)
              obtain ⟨r, hrj⟩ : ∃ r, l[j]? = some r := ⟨l[j]'(by rw [HL0.out]; exact hj), List.getElem?_eq_getElem _⟩
              have hsplit : l = l.take j ++ r :: l.drop (j + 1) := by
                have := (List.take_append_drop j l).symm
                rw [drop_next hrj] at this; exact this
              have hne1 : ¬ ck (l.take j ++ l.drop (j + 1)) = 0 := ck_less (r := r) (by rw [← hsplit]; exact HE0.out)
              have hne2 : ¬ ck (lm ++ [r]) = 0 := ck_twice (HP.out.mem_iff.2 (List.mem_of_getElem? hrj))
              generalize hK1 : ck (l.take j ++ l.drop (j + 1)) = K1 at hne1
              generalize hK2 : ck (lm ++ [r]) = K2 at hne2
              have HK1 := Lib.hid hK1; have HK2 := Lib.hid hK2
              have f1 : (K1 != 0) = true := by simpa using hne1
              have f2 : (K2 != 0) = true := by simpa using hne2
              have HRJ := Lib.hid hrj
              clear hK1 hK2 hne1 hne2 hsplit hrj
              go_wp2_with fail
              all_goals
                refine (first_any _).mono ?_
                rintro e _ ⟨rfl, rfl⟩
                go_wp2_with fail
                refine (check_any A6 _ c6 _ _ hles hn6 hc6).mono ?_
                rintro e w7 ⟨rfl, hb7⟩
                rw [HK1.out]
                have z7 := hb7.size
                have hb47 : Below w.heap.size w w7 := hb46.trans (hb7.mono (by omega))
                have hrow7 : RowAt w7 g cap lm := ((HR.out.below hb4 hgr).below hb6 (Nat.lt_of_lt_of_le hgr hb4.size)).below hb7 (by have := hb4.size; omega)
                have hown7 := hrow7.own (base := w.heap.size) hgw HLM.out (by unfold maxLen; omega)
                obtain ⟨ad', r', hA', hr', hbk, hok, d0, d1, d2, d3⟩ := (hSl.below RgRel.kept hb47).rg (show j < n from hj)
                obtain rfl : ad = ad' := Option.some.inj hA'
                obtain rfl : r = r' := Option.some.inj (HRJ.out.symm.trans hr')
                clear hA' hr' hrow7
                go_wp2_with (first
                  | (at_builtin
                     refine wpList_append_any_g _ (by rfl) (.tmp 95) (.tmp 100) _ rfl w.heap.size 39 i0 _ 4 32 Try.underlying35 hi0 hz0 hz1 hz2 rfl (by omega) _ n (lm.flatMap Rg.cells) (by rfl) (hown7.alloc _) (w7.heap.size + 1) (some ⟨w7.heap.size, 0, none⟩) 1 1 r.cells (by rfl)
                       (reads_new' w7 39 r.cells 4 rfl) (by intro u hu; exact rg_one [r] u (by simpa using hu)) (by unfold maxLen; omega) (by omega) (by simp; omega) ?_
                     intro v8 w8 hown8 hg8 hat8))
                have hown9 : w8.ownsRow w.heap.size 39 4 v8 (n + 1) ((lm ++ [r]).flatMap Rg.cells) := by
                  rw [List.flatMap_append]; simpa using hown8
                have hb8 : Below w.heap.size w w8 := (hb47.alloc (by omega) (.cells r.cells.toArray 39)).grown hg8 (by simp; omega) (fun q hq => own_block_ge' hown7 q hq)
                obtain ⟨A8, c8, hv8, hn8, hc8⟩ := own_form hown9
                subst hv8
                have hl8 : Sl RgRel 4 w8 w8.heap.size A8 (n + 1) (lm ++ [r]) :=
                  (Reads.of_own hown9).sl (by omega) rg_len (fun x hx => by
                    rcases List.mem_append.1 hx with a | a
                    · exact hSl.all_ok x (HP.out.mem_iff.1 a)
                    · simp at a; subst a; exact hok) (by rw [List.length_append, HLM.out]; rfl)
                clear hown8 hown9 hg8 hat8 hown7
                have z8 := hb8.size
                refine (check_any A8 _ c8 _ _ hl8 hn8 hc8).mono ?_
                rintro e w9 ⟨rfl, hb9⟩
                rw [HK2.out]
                go_wp2
                go_ret
                exact ⟨rfl, hb8.trans (hb9.mono z8)⟩
  · have h200' : 200 < n ∨ n = 0 := by omega
    clear h200
    rcases h200' with g | g
    · have g1 : decide ((200 : Int) < (n : Int)) = true := by simp; omega
      go_enter Try.func6, Try.ntmps6
      go_wp2_with ((with_reducible refine (first_any _).mono ?_); rintro e w1 ⟨rfl, rfl⟩)
      go_ret
      exact ⟨rfl, Below.refl _ _⟩
    · subst g
      go_enter Try.func6, Try.ntmps6
      go_wp2_with ((with_reducible refine (first_any _).mono ?_); rintro e w1 ⟨rfl, rfl⟩)
      go_ret
      exact ⟨rfl, Below.refl _ _⟩
end Go.Proofs.Ytbclfcfcpmlaaaa
