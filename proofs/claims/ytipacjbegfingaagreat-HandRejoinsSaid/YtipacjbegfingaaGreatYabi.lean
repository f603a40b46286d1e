/- The walk of the document's old. -/
import Derived.Test.YtipacjbegfingaaGreatYaaj
import Derived.Test.YtipacjbegfingaaGreatYabd
import Derived.Test.YtipacjbegfingaaGreatYabe
import Derived.Test.YtipacjbegfingaaGreatYabh
namespace Go.Proofs.YtipacjbegfingaaGreat
set_option linter.unusedVariables false
open Go.RowKit Fl
attribute [local go_sem] run_store_float

theorem wpList_store_newC {P : Program} {ops : Array Oper} {rest : List Oper} {o : Oper} {a : Act} {w : World} {Q : Exit → Act → World → Prop} (hgd : o.guard = none) (ty : TypeId) (x y : Operand) (ho : o.op = .store ty x y)
    (cells : Array Value) (hx : a.eval x = .pointer (some ⟨w.heap.size, 0, none⟩)) (hy : a.eval y = .agg cells)
    (t : TypeId) (old : Array Value) (hi : (P.info? ty).map (·.size) = some cells.size)
    (hold : old.size = cells.size) (h1 : cells.all (·.oneCell') = true)
    (h : wpList P ops Q rest (a.put o.dst undef) (w.alloc (.cells cells t))) : wpList P ops Q (o :: rest) a (w.alloc (.cells old t)) := by
  refine wpList_store_row hgd ty x y ho _ cells hx hy t old (Blk.new w t old) hi hold h1 ?_
  have e : (w.alloc (.cells old t)).setRow w.heap.size cells = w.alloc (.cells cells t) := by
    unfold World.setRow World.alloc
    congr 1
    apply Array.ext_getElem?
    intro i
    simp only [Array.getElem?_modify, Array.getElem?_push]
    by_cases h : i = w.heap.size
    · subst h; simp
    · have h' : w.heap.size ≠ i := fun e => h e.symm
      simp [h, h']
  rw [e]; exact h
/-- is a version there that does not stand below? -/
def roldF (H : List Hs) (s : Sp) (a : Wt) : Bool := decide (0 ≤ atFrom a.key 0 H) && decide (0 ≤ (lastV (rvers a.key H)).s.cmp s)
def roldB (H : List Hs) (p : Pn) : Bool := p.w.any (roldF H p.s)
def OldRel (f : Wt → Bool) (l : List Wt) (p : Pn) (A1 A2 : Value) (w : World) (i : Value) (wr : World) : Prop :=
  ∃ k : Nat, k ≤ l.length ∧ i = .int .i64 (k : Int) ∧ (l.drop k).any f = l.any f ∧ Below w.heap.size w wr ∧ Blk wr w.heap.size 45 (p.arr A1 A2)
set_option maxRecDepth 100000 in
set_option maxHeartbeats 4000000 in
theorem rold_any (g : Nat) (B1 B2 : Option Addr) (m1 d1 m2 d2 : Nat) (L : Sp) (Hl : List Hs) (Pl : List Pn) (p : Pn) (A1 A2 : Option Addr) (n1 n2 c1 c2 : Nat) (w : World) (h : RSt w g B1 m1 d1 B2 m2 d2 L Hl Pl) (hw : Sl WtRel 4 w w.heap.size A2 n2 p.w) (hn2 : n2 ≤ maxLen) :
    Calls Tryz.prog 70 #[.pointer (some ⟨g, 0, none⟩), p.val (.slice A1 n1 c1) (.slice A2 n2 c2)] w fun e w' => e = .returned (.bool (roldB Hl p)) ∧ Below w.heap.size w w' := by
  unfold maxLen at hn2
  have hl := hw.1
  have hge : n2 ≤ p.w.length := by omega
  have hle : p.w.length ≤ n2 := by omega
  clear hl
  have hO : roldB Hl p = p.w.any (roldF Hl p.s) := rfl
  generalize roldB Hl p = B at *
  go_enter Tryz.func70, Tryz.ntmps70
  go_wp2
  go_loopw [5] (fun i wr => OldRel (roldF Hl p.s) p.w p (.slice A1 n1 c1) (.slice A2 n2 c2) w i wr) (fun i _ => n2 - (intOf i).toNat)
  case atStart => exact ⟨0, by omega, rfl, rfl, by go_grown, Blk.new _ _ _⟩
  case round =>
    obtain ⟨k, hk, rfl, hs, hb, b3⟩ := hrel
    have hzz := hb.size
    obtain ⟨l3, y0, y1, y2, y3, y4, y5, y6, y7⟩ := b3.eight
    by_cases hlt : k < n2
    · obtain ⟨ad, a, rfl, ha, hbk, hok, e0, -, -, -⟩ := ((hw.below WtRel.kept hb).more WtRel.kept hb.size).wt hlt
      have hd1 : decide ((k : Int) < (n2 : Int)) = true := by simp; omega
      have hk0 : (0 : Int) ≤ (k : Int) := by omega
      have hk1 : (k : Int) < (n2 : Int) := by omega
      rw [any_dropE ha] at hs
      have hf : roldF Hl p.s a = (decide (0 ≤ atFrom a.key 0 Hl) && decide (0 ≤ (lastV (rvers a.key Hl)).s.cmp p.s)) := rfl
      have hN := rnewest_any g B1 B2 m1 d1 m2 d2 L Hl Pl a.key wr (h.below hb)
      have HAT := Lib.hid (fun w' (hx : Below wr.heap.size wr w') => rat_any g B1 B2 m1 d1 m2 d2 L Hl Pl a.key w' (h.below (hb.trans (hx.mono hzz))))
      have HC := Lib.hid (fun w' => rcmp_any (lastV (rvers a.key Hl)).s p.s w')
      clear ha
      generalize roldF Hl p.s a = F at *
      generalize lastV (rvers a.key Hl) = V at *
      generalize atFrom a.key 0 Hl = Z at *
      generalize V.s.cmp p.s = Cm at *
      have HF := Lib.hid hf
      have HS := Lib.hid hs
      clear hf hs
      go_wp2_with (go_at_call 101; fail)
      refine hN.mono ?_
      rintro e w1 ⟨rfl, hb1⟩
      have b31 := b3.below hb1 l3
      have e01 := (hb1.cell (by exact hbk)).trans e0
      have l31 := b31.lt
      have l32 : w.heap.size < w1.heap.size + 1 := by omega
      obtain ⟨-, x0, x1, x2, x3, x4, x5, x6, x7⟩ := b31.eight
      have hbk1 : (ad.add (k * 4)).block < w1.heap.size + 1 := by have := hb1.size; omega
      clear y0 y1 y2 y3 y4 y5 y6 y7 hN
      have hX : Below wr.heap.size wr (w1.alloc (.cells (seenArr a.key V) 147)) := hb1.alloc hb1.size _
      have e02 : (w1.alloc (.cells (seenArr a.key V) 147)).cell? (ad.add (k * 4)) = some (.string a.key) := (hX.cell hbk).trans e0
      have i6 := Blk.new w1 147 (seenArr a.key V)
      have b32 := b31.alloc (.cells (seenArr a.key V) 147)
      by_cases hZ : (0 : Int) ≤ Z
      · have hz1 : decide ((0 : Int) ≤ Z) = true := by simp [hZ]
        have hA := HAT.out _ hX
        go_wp2_with (first
          | (refine wpList_store_newC rfl 147 _ _ rfl _ rfl rfl _ _ (by kernel_rfl) (by kernel_rfl) (by kernel_rfl) ?_)
          | (go_at_call 102; fail))
        refine hA.mono ?_
        rintro e w2 ⟨rfl, hb2⟩
        have i62 := i6.below hb2 i6.lt
        have b33 := b32.below hb2 b32.lt
        have hY : Below wr.heap.size wr w2 := hX.trans (hb2.mono hX.size)
        obtain ⟨j6, z0, z1, z2, z3, z4, z5, z6⟩ := i62.sevenC
        obtain ⟨j3, q0, q1, q2, q3, q4, q5, q6, q7⟩ := b33.eight
        by_cases hC : (0 : Int) ≤ Cm
        · have hc1 : decide ((0 : Int) ≤ Cm) = true := by simp [hC]
          have HB := Lib.hid (show B = true by rw [hO, ← HS.out, HF.out, hz1, hc1]; rfl)
          go_wp2_with ((with_reducible refine (HC.out _).mono ?_); rintro e w4 ⟨rfl, hb4⟩)
          go_ret
          rw [HB.out]
          exact ⟨rfl, hb.trans ((hY.trans (hb4.mono hY.size)).mono hzz)⟩
        · have hc1 : decide ((0 : Int) ≤ Cm) = false := by simp; omega
          have HT := Lib.hid (show (p.w.drop (k + 1)).any (roldF Hl p.s) = p.w.any (roldF Hl p.s) by rw [← HS.out, HF.out, hz1, hc1]; rfl)
          go_wp2_with ((with_reducible refine (HC.out _).mono ?_); rintro e w4 ⟨rfl, hb4⟩)
          have hQ := hY.trans (hb4.mono hY.size)
          go_roundw
          case rel => exact ⟨k + 1, by omega, by go_num, HT.out, hb.trans (hQ.mono hzz), b3.below hQ l3⟩
          case measure => simp [intOf]; omega
      · have hz1 : decide ((0 : Int) ≤ Z) = false := by simp; omega
        have hA := HAT.out _ hX
        have HT := Lib.hid (show (p.w.drop (k + 1)).any (roldF Hl p.s) = p.w.any (roldF Hl p.s) by rw [← HS.out, HF.out, hz1]; rfl)
        go_wp2_with (first
          | (refine wpList_store_newC rfl 147 _ _ rfl _ rfl rfl _ _ (by kernel_rfl) (by kernel_rfl) (by kernel_rfl) ?_)
          | (go_at_call 102; fail))
        refine hA.mono ?_
        rintro e w2 ⟨rfl, hb2⟩
        have hY : Below wr.heap.size wr w2 := hX.trans (hb2.mono hX.size)
        go_wp2
        go_roundw
        case rel => exact ⟨k + 1, by omega, by go_num, HT.out, hb.trans (hY.mono hzz), b3.below hY l3⟩
        case measure => simp [intOf]; omega
    · have hd1 : decide ((k : Int) < (n2 : Int)) = false := by simp; omega
      have HB := Lib.hid (show B = false by rw [hO, ← hs, List.drop_of_length_le (by omega)]; rfl)
      clear hs
      go_wp2
      go_ret
      rw [HB.out]
      exact ⟨rfl, hb⟩
end Go.Proofs.YtipacjbegfingaaGreat
/- The walk of the document's put. -/
namespace Go.Proofs.YtipacjbegfingaaGreat
set_option linter.unusedVariables false
open Go.RowKit Fl
attribute [local go_sem] run_store_float

theorem flatten_len (k : Nat) : ∀ css : List (List Value), (∀ cs ∈ css, cs.length = k) → css.flatten.length = css.length * k := by
  intro css
  induction css with
  | nil => intro _; simp
  | cons cs css ih =>
    intro h
    rw [List.flatten_cons, List.length_append, h cs (List.mem_cons_self ..), ih (fun c hc => h c (List.mem_cons_of_mem _ hc)), List.length_cons, Nat.succ_mul]
    omega
/-- the cells of a slice's elements -/
theorem Sl.css {α : Type} {R : Rel α} {size n B : Nat} {w : World} {A : Option Addr} {l : List α} (hsz : 0 < size) (h : Sl R size w B A n l) :
    ∃ css : List (List Value), css.length = n ∧ (∀ cs ∈ css, cs.length = size) ∧ Reads w B size A n css.flatten ∧ ∀ (i : Nat) (cs : List Value) (a : α), css[i]? = some cs → l[i]? = some a → R w B cs a := by
  have hall : ∀ i, i < n → ∃ cs : List Value, cs.length = size ∧ (∃ ad, A = some ad ∧ ad.block < B ∧ ∀ j u, cs[j]? = some u → w.cell? (ad.add (i * size + j)) = some u) ∧ ∀ a, l[i]? = some a → R w B cs a := fun i hi => by
    obtain ⟨ad, cs, a, e, hl, hb, hlen, hc, hr⟩ := h.at_ hi
    exact ⟨cs, hlen, ⟨ad, e, hb, hc⟩, fun b hb => by rw [hl] at hb; injection hb with hb; rw [← hb]; exact hr⟩
  obtain ⟨f, hf⟩ := Go.Deep.choose_lt hall
  have hget : ∀ (i : Nat) (cs : List Value), ((List.range n).map f)[i]? = some cs → i < n ∧ cs = f i := fun i cs hi => by
    have hin : i < n := by have := (List.getElem?_eq_some_iff.1 hi).1; simpa using this
    rw [List.getElem?_map, List.getElem?_range hin] at hi
    exact ⟨hin, (Option.some.inj hi).symm⟩
  have hlen : ∀ cs ∈ (List.range n).map f, cs.length = size := fun cs hcs => by
    obtain ⟨i, hi, rfl⟩ := List.mem_map.1 hcs
    exact (hf i (List.mem_range.1 hi)).1
  refine ⟨(List.range n).map f, by simp, hlen, ⟨by rw [flatten_len size _ hlen]; simp, fun hn => ?_⟩, fun i cs a h1 h2 => ?_⟩
  · obtain ⟨_, ⟨ad, e, hb, _⟩, _⟩ := hf 0 hn
    refine ⟨ad, e, hb, fun j u hj => ?_⟩
    have e2 : j = j / size * size + j % size := (Nat.div_add_mod' j size).symm
    rw [e2, flatten_get size _ _ _ hlen (Nat.mod_lt _ hsz)] at hj
    cases hl : ((List.range n).map f)[j / size]? with
    | none => rw [hl] at hj; cases hj
    | some cs =>
      rw [hl] at hj
      obtain ⟨hin, rfl⟩ := hget _ _ hl
      obtain ⟨_, ⟨ad', e3, _, hc⟩, _⟩ := hf _ hin
      rw [e] at e3
      injection e3 with e3
      subst e3
      rw [e2]
      exact hc _ u hj
  · obtain ⟨hin, rfl⟩ := hget i cs h1
    exact (hf i hin).2.2 a h2

/-- all blocks but g and the row's own -/
def gB (g size : Nat) (v : Value) : Nat → Bool := fun k => decide (k < size) && decide (k ≠ g) && decide (v.ownBlock ≠ some k)
theorem gB_iff {g size k : Nat} {v : Value} : gB g size v k = true ↔ k < size ∧ k ≠ g ∧ v.ownBlock ≠ some k := by
  unfold gB
  simp only [Bool.and_eq_true, decide_eq_true_eq, and_assoc]
section
variable {α : Type} {R : Rel α} {E size base g : Nat} {w w' : World} {v : Value} {l : List α}
theorem RowR.keepG (hR : R.Kept) (hRm : R.Mono) (h : RowR R E size base (gB g w.heap.size v) w v l) (hg : g < base) (hs : w.heap.size ≤ w'.heap.size) (hb : ∀ k, k < w.heap.size → k ≠ g → w'.heap[k]? = w.heap[k]?) : RowR R E size base (gB g w'.heap.size v) w' v l := by
  obtain ⟨css, ho, hlen, hl, hc⟩ := h
  refine ⟨css, owns_same ho (fun k h1 h2 => hb k h2 (by omega)), hlen, hl, fun i cs a h1 h2 => ((hc i cs a h1 h2).keep hR (fun k hk => ?_) hs).wider hRm fun k hk => ?_⟩
  · rw [gB_iff] at hk; exact hb k hk.1 hk.2.1
  · rw [gB_iff] at *; exact ⟨by omega, hk.2⟩
theorem RowR.ownG (hR : R.Kept) (hRm : R.Mono) (h : RowR R E size base (gB g w.heap.size v) w v l) (hgb : g < base) : ∃ xs, w.ownsRow base E size v l.length xs ∧
    ∀ (ds : List (List Value)) (es : List α) (w' : World) (v' : Value), ds.length = es.length → (∀ cs ∈ ds, cs.length = size) → (∀ (i : Nat) (cs : List Value) (a : α), ds[i]? = some cs → es[i]? = some a → Inn R (gB g w.heap.size v) w cs a) → w'.ownsRow base E size v' (l.length + es.length) (xs ++ ds.flatten) → w.grownBy w' v.ownBlock → (v'.ownBlock = v.ownBlock ∨ v'.ownBlock = some w.heap.size) →
      RowR R E size base (gB g w'.heap.size v') w' v' (l ++ es) := by
  obtain ⟨css, ho, hlen, hl, hc⟩ := h
  refine ⟨css.flatten, ho, fun ds es w' v' hds hdl hin hown hg hat => ?_⟩
  have hK : ∀ k, gB g w.heap.size v k = true → gB g w'.heap.size v' k = true := fun k hk => by
    rw [gB_iff] at *
    have := hg.size
    refine ⟨by omega, hk.2.1, fun e => ?_⟩
    rcases hat with e2 | e2
    · rw [e2] at e; exact hk.2.2 e
    · rw [e2] at e; injection e with e; omega
  have hB : ∀ k, gB g w.heap.size v k = true → w'.heap[k]? = w.heap[k]? := fun k hk => by
    rw [gB_iff] at hk
    exact hg.block k hk.1 (fun e => hk.2.2 e.symm)
  have up : ∀ {cs : List Value} {a : α}, Inn R (gB g w.heap.size v) w cs a → Inn R (gB g w'.heap.size v') w' cs a := fun hi => (hi.keep hR hB hg.size).wider hRm hK
  refine ⟨css ++ ds, ?_, by simp [hlen, hds], ?_, ?_⟩
  · rw [List.length_append, List.flatten_append]; exact hown
  · intro c hc'
    rcases List.mem_append.1 hc' with h1 | h1
    · exact hl c h1
    · exact hdl c h1
  · intro i c b h1 h2
    by_cases hi : i < l.length
    · rw [List.getElem?_append_left (by omega)] at h1 h2
      exact up (hc i c b h1 h2)
    · rw [List.getElem?_append_right (by omega)] at h1 h2
      rw [hlen] at h1
      exact up (hin _ c b h1 h2)
end
/-- a pending one in its place -/
def putL (l : List Pn) (p : Pn) : List Pn := l.takeWhile (fun x => x.t.less p.t) ++ p :: l.dropWhile fun x => x.t.less p.t
theorem putL_at {l : List Pn} {p : Pn} {k : Nat} (hk : k ≤ l.length) (hall : ∀ x ∈ l.take k, x.t.less p.t = true) (hend : ∀ a, l[k]? = some a → a.t.less p.t = false) : putL l p = l.take k ++ p :: l.drop k := by
  have h1 : l.takeWhile (fun x => x.t.less p.t) = l.take k ∧ l.dropWhile (fun x => x.t.less p.t) = l.drop k := by
    induction l generalizing k with
    | nil => simp
    | cons a l ih =>
      cases k with
      | zero =>
        have := hend a rfl
        simp [this]
      | succ k =>
        have ha := hall a (by simp)
        obtain ⟨e1, e2⟩ := ih (k := k) (by simpa using hk) (fun x hx => hall x (by simp [hx])) (fun b hb => hend b (by simpa using hb))
        simp [ha, e1, e2]
  unfold putL
  rw [h1.1, h1.2]
end Go.Proofs.YtipacjbegfingaaGreat
