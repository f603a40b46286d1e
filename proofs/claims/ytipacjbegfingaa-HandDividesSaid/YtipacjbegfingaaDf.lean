/- The walks of mvcc's newest, Newest, old, locked. -/
import Derived.Test.YtipacjbegfingaaDe
import Derived.Deep.MidRow
namespace Go.Proofs.Ytipacjbegfingaa
open Go.RowKit Fl
attribute [local go_sem] run_store_float

/-- 'm[k]' at elements read as what they are -/
theorem wpList_lookup_held {P : Program} (w : World) {ops : Array Oper} {rest : List Oper} {o : Oper} {a : Act} {Q : Exit → Act → World → Prop}
    (hg : o.guard = none) (m x : Operand) (t : TypeId) (hop : o.op = Op.lookup t m x false)
    (k e : TypeId) (K : Maps.Keyed P k) (ht : P.underlying t = some (.map k e)) (z : Value) (hz : (zeroValue e).run P w = .ok z w) (b n : Nat) (D : DataW Value)
    (hm : a.eval m = .map (some b)) (hown : w.ownsMap P k anyE b n D) (key : Value) (kl : Lit) (hx : a.eval x = key) (hkey : keyOf P k key = some kl)
    (hK : ∀ v, D.atKey kl (.held z) = .held v → wpList P ops Q rest (a.put o.dst v) w) : wpList P ops Q (o :: rest) a w := by
  refine wpList_plain hg fun K' hK' => ?_
  obtain ⟨v, ps, hrun, hat⟩ := hown.lookup K ht hz rfl hkey
  unfold Oper.wp
  simp [execOp, hop, hm, hx, hrun, Result.andThen]
  refine hK' _ _ (hK v ?_)
  injection hat with hat
  injection hat with h1 h2
  exact h1.symm
theorem Blk.fiveC {w : World} {g : Nat} {t : TypeId} {a b c d e : Value} (h : Blk w g t #[a, b, c, d, e]) : g < w.heap.size ∧ w.cell? ⟨g, 0, none⟩ = some a ∧ w.cell? ⟨g, 1, none⟩ = some b ∧ w.cell? ⟨g, 2, none⟩ = some c ∧
    w.cell? ⟨g, 3, none⟩ = some d ∧ w.cell? ⟨g, 4, none⟩ = some e := ⟨h.lt, h.cell 0, h.cell 1, h.cell 2, h.cell 3, h.cell 4⟩
theorem Blk.sevenC {w : World} {g : Nat} {t : TypeId} {a b c d e f i : Value} (h : Blk w g t #[a, b, c, d, e, f, i]) : g < w.heap.size ∧ w.cell? ⟨g, 0, none⟩ = some a ∧ w.cell? ⟨g, 1, none⟩ = some b ∧ w.cell? ⟨g, 2, none⟩ = some c ∧
    w.cell? ⟨g, 3, none⟩ = some d ∧ w.cell? ⟨g, 4, none⟩ = some e ∧ w.cell? ⟨g, 5, none⟩ = some f ∧ w.cell? ⟨g, 6, none⟩ = some i := ⟨h.lt, h.cell 0, h.cell 1, h.cell 2, h.cell 3, h.cell 4, h.cell 5, h.cell 6⟩

theorem Blk.range {w : World} {g : Nat} {t : TypeId} {cs : Array Value} (h : Blk w g t cs) (o : Nat) (xs : List Value) (hx : ∀ j v, xs[j]? = some v → cs[o + j]? = some v) : w.rangeAt g o xs := fun j v hj => by rw [h.cell]; exact hx j v hj
theorem Blk.there {w : World} {g : Nat} {t : TypeId} {cs : Array Value} (h : Blk w g t cs) (o n : Nat) (hn : o + n ≤ cs.size) : w.there g o n := fun j hj => by
  refine ⟨?_, h.frozen _⟩
  rw [h.cell, Array.getElem?_eq_getElem (by omega)]; rfl
theorem three_of {cs : Array Value} {o : Nat} {a b c : Value} (h0 : cs[o]? = some a) (h1 : cs[o + 1]? = some b) (h2 : cs[o + 2]? = some c) : ∀ j v, [a, b, c][j]? = some v → cs[o + j]? = some v := by
  intro j v hj
  match j, hj with
  | 0, hj => simp at hj; subst hj; exact h0
  | 1, hj => simp at hj; subst hj; exact h1
  | 2, hj => simp at hj; subst hj; exact h2
/-- one store of a struct into the midst of a block comes up alone, in a region that draws its order -/
theorem wpAnyH_store_mid {P : Program} {md : Region.Mode} {ops : Array Oper} {Q : Exit → Act → World → Prop} {S : World → Prop} {fuel : Nat} {listed : Array Bool} {a : Act} {w : World} {i : Nat} {op : Oper}
    (hr : Region.ready md ops listed = [i]) (ho : ops[i]? = some op) (hg : op.guard = none) (ty : TypeId) (x y : Operand) (hop : op.op = .store ty x y)
    (b o : Nat) (cells : Array Value) (hx : a.eval x = .pointer (some ⟨b, o, none⟩)) (hy : a.eval y = .agg cells) (ht : w.there b o cells.size) (hi : (P.info? ty).map (·.size) = some cells.size) (h1 : cells.all (·.oneCell') = true)
    (hS : S (w.setCells b o cells.toList)) (h : wpAnyH P md ops Q S fuel (listed.setIfInBounds i true) (a.put op.dst undef) (w.setCells b o cells.toList)) : wpAnyH P md ops Q S (fuel + 1) listed a w := by
  refine wpAnyH_all hr (by simp) (fun j hj => ?_)
  obtain rfl : j = i := by simpa using hj
  refine wpOp_step ho (fun K' hK => ?_)
  have hw : Region.wanted op (yielded ops a.tmps) = true := by simp [Region.wanted, hg]
  rw [if_pos hw]
  exact wp_store_mid ty x y hop b o cells hx hy ht hi h1 (hK _ _ ⟨hS, h⟩)
theorem Blk.setCells3 {w : World} {g : Nat} {t : TypeId} {a b c d e f i x y z : Value} (h : Blk w g t #[a, b, c, d, e, f, i]) : Blk (w.setCells g 1 [x, y, z]) g t #[a, x, y, z, e, f, i] := ((h.set_ 1 x).set_ 2 y).set_ 3 z
theorem Blk.setCells3' {w : World} {g : Nat} {t : TypeId} {a b c d e f i x y z : Value} (h : Blk w g t #[a, b, c, d, e, f, i]) : Blk (w.setCells g 4 [x, y, z]) g t #[a, b, c, d, x, y, z] := ((h.set_ 4 x).set_ 5 y).set_ 6 z
theorem Blk.setCells3_far {w : World} {g b o : Nat} {t : TypeId} {cs : Array Value} {x y z : Value} (h : Blk w g t cs) (hne : g ≠ b) : Blk (w.setCells b o [x, y, z]) g t cs := ((h.far (p := ⟨b, o, none⟩) hne x).far (p := ⟨b, o + 1, none⟩) hne y).far (p := ⟨b, o + 1 + 1, none⟩) hne z
theorem below_setCells3 {B : Nat} {w w' : World} {b o : Nat} {x y z : Value} (h : Below B w w') (hb : B ≤ b) : Below B w (w'.setCells b o [x, y, z]) := ((h.setCell (p := ⟨b, o, none⟩) hb x).setCell (p := ⟨b, o + 1, none⟩) hb y).setCell (p := ⟨b, o + 1 + 1, none⟩) hb z
theorem Blk.drew {w : World} {g : Nat} {t : TypeId} {cs : Array Value} (h : Blk w g t cs) : Blk w.drew g t cs := h
def zeroVn : Vn := ⟨⟨0, 0, 0⟩, ⟨0, 0, ⟨#[]⟩⟩⟩
/-- the last version -/
def lastV (l : List Vn) : Vn := l.foldl (fun _ v => v) zeroVn
theorem lastV_take {l : List Vn} {k : Nat} {a : Vn} (h : l[k]? = some a) : lastV (l.take (k + 1)) = a := by
  unfold lastV
  rw [List.take_add_one, h, List.foldl_append]; rfl
abbrev seenArr (key : ByteArray) (v : Vn) : Array Value := #[.string key, .int .i64 v.v.k, .float .f64 v.v.n, .string v.v.t, .int .i64 v.s.w, .int .i64 v.s.l, .int .i64 v.s.n]
def NewestRel (key : ByteArray) (l : List Vn) (w : World) (i : Value) (wr : World) : Prop :=
  ∃ k : Nat, k ≤ l.length ∧ i = .int .i64 (k : Int) ∧ Blk wr (w.heap.size + 1) 98 (seenArr ⟨#[]⟩ zeroVn) ∧ Blk wr (w.heap.size + 1 + 1) 98 (seenArr key (lastV (l.take k))) ∧ Below w.heap.size w wr

set_option maxRecDepth 100000 in
set_option maxHeartbeats 4000000 in
theorem newest_any (base g b1 b2 : Nat) (l : List Hs) (m : List Pn) (key : ByteArray) (s : Sp) (w : World) (h : StoreW w base g b1 b2 l m) (hk : key.size ≤ maxLen) :
    Calls Try.prog 109 #[.pointer (some ⟨g, 0, none⟩), .string key, s.val, .bool true] w fun e w' => e = .returned (.agg (seenArr key (lastV (versOf l key)))) ∧ Below w.heap.size w w' := by
  obtain ⟨D, ho, hD⟩ := h.ks
  obtain ⟨gl, c0, c1, c2, c3, c4⟩ := h.blk.fiveC
  have gl1 : g < w.heap.size + 1 := by omega
  have gl2 : g < w.heap.size + 1 + 1 := by omega
  have hkey : keyOf Try.prog 9 (.string key) = some (keyLit key) := WideMaps.keyOf_string_mk Try.underlying9 hk
  obtain ⟨v0, hv0, A, n, c, rfl, hnc, hcm, hsl⟩ := hD key
  generalize versOf l key = vs at *
  go_enter Try.func109, Try.ntmps109
  go_wp2_with (first
    | (at_lookup
       refine wpList_lookup_held _ rfl _ _ 129 rfl 9 74 kStr Try.underlying129 (.slice none 0 0) (by rfl) b1 l.length D rfl (((ho.alloc _).alloc _).alloc _) _ (keyLit key) rfl hkey ?_
       intro v hv
       rw [hv0] at hv
       injection hv with hv
       subst hv))
  have hX : Below w.heap.size w (((w.alloc (.cells s.arr 26)).alloc (.cells (seenArr ⟨#[]⟩ zeroVn) 98)).alloc (.cells (seenArr key zeroVn) 98)) := by go_grown
  have i8 : Blk (((w.alloc (.cells s.arr 26)).alloc (.cells (seenArr ⟨#[]⟩ zeroVn) 98)).alloc (.cells (seenArr key zeroVn) 98)) (w.heap.size + 1) 98 (seenArr ⟨#[]⟩ zeroVn) := (Blk.new' _ _ (by simp)).alloc _
  have i9 : Blk (((w.alloc (.cells s.arr 26)).alloc (.cells (seenArr ⟨#[]⟩ zeroVn) 98)).alloc (.cells (seenArr key zeroVn) 98)) (w.heap.size + 1 + 1) 98 (seenArr key zeroVn) := Blk.new' _ _ (by simp)
  have hll := hsl.1
  have hge : n ≤ vs.length := by omega
  have hle : vs.length ≤ n := by omega
  unfold maxLen at hcm
  clear hll hD ho hv0 c0 c1 c2 c3 c4
  go_loopw [21] (fun i wr => NewestRel key vs w i wr) (fun i _ => n - (intOf i).toNat)
  case atStart => exact ⟨0, by omega, rfl, i8, i9, hX⟩
  case round =>
    obtain ⟨k, hk', rfl, b8, b9, hb⟩ := hrel
    have hzz := hb.size
    by_cases hlt : k < n
    · obtain ⟨ad, a, rfl, ha, hbk, hok, c0, c1, c2, c3, c4, c5⟩ := (hsl.below VnRel.kept hb).vn hlt
      have hd1 : decide ((k : Int) < (n : Int)) = true := by simp; omega
      have hk0 : (0 : Int) ≤ (k : Int) := by omega
      have hk1 : (k : Int) < (n : Int) := by omega
      have HS := Lib.hid (lastV_take ha)
      have b11 := Blk.new wr 79 #[.int .i64 a.s.w, .int .i64 a.s.l, .int .i64 a.s.n, .int .i64 a.v.k, .float .f64 a.v.n, .string a.v.t]
      have b9' := b9.alloc (.cells #[.int .i64 a.s.w, .int .i64 a.s.l, .int .i64 a.s.n, .int .i64 a.v.k, .float .f64 a.v.n, .string a.v.t] 79)
      have b8' := b8.alloc (.cells #[.int .i64 a.s.w, .int .i64 a.s.l, .int .i64 a.s.n, .int .i64 a.v.k, .float .f64 a.v.n, .string a.v.t] 79)
      have hb' := hb.alloc hzz (.cells #[.int .i64 a.s.w, .int .i64 a.s.l, .int .i64 a.s.n, .int .i64 a.v.k, .float .f64 a.v.n, .string a.v.t] 79)
      clear ha
      go_wp2
      generalize hg11 : wr.heap.size = g11 at *
      generalize (wr.alloc (.cells #[.int .i64 a.s.w, .int .i64 a.s.l, .int .i64 a.s.n, .int .i64 a.v.k, .float .f64 a.v.n, .string a.v.t] 79)) = wz at *
      obtain ⟨l11, x0, x1, x2, x3, x4, x5⟩ := b11.six
      have f1 := b9'.frozen 1
      have f2 := b9'.frozen 2
      have f3 := b9'.frozen 3
      have f4 := b9'.frozen 4
      have f5 := b9'.frozen 5
      have f6 := b9'.frozen 6
      obtain ⟨g9, y0, y1, y2, y3, y4, y5, y6⟩ := b9'.sevenC
      have ne9 : g11 ≠ w.heap.size + 1 + 1 := by have := b9.lt; omega
      have ne10 : ¬ w.heap.size + 1 + 1 = g11 := fun e => ne9 e.symm
      clear c0 c1 c2 c3 c4 c5
      refine wp_region_held_drew (S := fun w' => Blk w' g11 79 #[.int .i64 a.s.w, .int .i64 a.s.l, .int .i64 a.s.n, .int .i64 a.v.k, .float .f64 a.v.n, .string a.v.t]) (by kernel_rfl) b11 (fun hHeld => ?_)
      refine wpAnyH_take (i := 0) (v := .pointer (some ⟨g11, 3, none⟩)) rfl (by kernel_rfl) (by kernel_rfl) (by kernel_rfl) (fun _ _ _ h => h) (Or.inl ⟨by rfl, fun w hSw => by clear hSw; go_simp⟩) hHeld ?_
      go_frame
      refine wpAnyH_take (i := 1) rfl (by kernel_rfl) (by kernel_rfl) (by kernel_rfl) (fun _ _ _ h => h) (yieldsIf_load_mid (by rfl) _ _ rfl g11 3 rfl [.int .i64 a.v.k, .float .f64 a.v.n, .string a.v.t] _ (fun w h => h.range 3 _ (three_of rfl rfl rfl)) rfl rfl (by kernel_rfl)) hHeld ?_
      go_frame
      refine wpAnyH_take (i := 2) (v := .pointer (some ⟨g11, 0, none⟩)) rfl (by kernel_rfl) (by kernel_rfl) (by kernel_rfl) (fun _ _ _ h => h) (Or.inl ⟨by rfl, fun w hSw => by clear hSw; go_simp⟩) hHeld ?_
      go_frame
      refine wpAnyH_take (i := 3) rfl (by kernel_rfl) (by kernel_rfl) (by kernel_rfl) (fun _ _ _ h => h) (yieldsIf_load_mid (by rfl) _ _ rfl g11 0 rfl [.int .i64 a.s.w, .int .i64 a.s.l, .int .i64 a.s.n] _ (fun w h => h.range 0 _ (three_of rfl rfl rfl)) rfl rfl (by kernel_rfl)) hHeld ?_
      go_frame
      refine wpAnyH_take (i := 4) (v := .pointer (some ⟨w.heap.size + 1 + 1, 1, none⟩)) rfl (by kernel_rfl) (by kernel_rfl) (by kernel_rfl) (fun _ _ _ h => h) (Or.inl ⟨by rfl, fun w hSw => by clear hSw; go_simp⟩) hHeld ?_
      go_frame
      have b9a := b9'.drew.setCells3 (x := .int .i64 a.v.k) (y := .float .f64 a.v.n) (z := .string a.v.t)
      have b11a := b11.drew.setCells3_far (o := 1) (x := .int .i64 a.v.k) (y := .float .f64 a.v.n) (z := .string a.v.t) ne9
      have b8a := b8'.drew.setCells3_far (b := w.heap.size + 1 + 1) (o := 1) (x := .int .i64 a.v.k) (y := .float .f64 a.v.n) (z := .string a.v.t) (by omega)
      have hba := below_setCells3 (b := w.heap.size + 1 + 1) (o := 1) (x := .int .i64 a.v.k) (y := .float .f64 a.v.n) (z := .string a.v.t) hb'.drew (by omega)
      refine wpAnyH_store_mid (i := 5) (by kernel_rfl) rfl rfl _ _ _ rfl (w.heap.size + 1 + 1) 1 #[.int .i64 a.v.k, .float .f64 a.v.n, .string a.v.t] rfl rfl (b9'.drew.there 1 3 (by simp)) (by kernel_rfl) (by kernel_rfl) b11a ?_
      go_frame
      generalize (wz.drew.setCells (w.heap.size + 1 + 1) 1 [.int .i64 a.v.k, .float .f64 a.v.n, .string a.v.t]) = wq at *
      refine wpAnyH_take (i := 6) (v := .pointer (some ⟨w.heap.size + 1 + 1, 4, none⟩)) rfl (by kernel_rfl) (by kernel_rfl) (by kernel_rfl) (fun _ _ _ h => h) (Or.inl ⟨by rfl, fun w hSw => by clear hSw; go_simp⟩) b11a ?_
      go_frame
      have b9c := b9a.setCells3' (x := .int .i64 a.s.w) (y := .int .i64 a.s.l) (z := .int .i64 a.s.n)
      have b11c := b11a.setCells3_far (b := w.heap.size + 1 + 1) (o := 4) (x := .int .i64 a.s.w) (y := .int .i64 a.s.l) (z := .int .i64 a.s.n) ne9
      have b8c := b8a.setCells3_far (b := w.heap.size + 1 + 1) (o := 4) (x := .int .i64 a.s.w) (y := .int .i64 a.s.l) (z := .int .i64 a.s.n) (by omega)
      have hbc := below_setCells3 (b := w.heap.size + 1 + 1) (o := 4) (x := .int .i64 a.s.w) (y := .int .i64 a.s.l) (z := .int .i64 a.s.n) hba (by omega)
      refine wpAnyH_store_mid (i := 7) (by kernel_rfl) rfl rfl _ _ _ rfl (w.heap.size + 1 + 1) 4 #[.int .i64 a.s.w, .int .i64 a.s.l, .int .i64 a.s.n] rfl rfl (b9a.there 4 3 (by simp)) (by kernel_rfl) (by kernel_rfl) b11c ?_
      generalize (wq.setCells (w.heap.size + 1 + 1) 4 [.int .i64 a.s.w, .int .i64 a.s.l, .int .i64 a.s.n]) = wp at *
      refine wpAnyH_done (by kernel_rfl) ?_ _
      go_frame
      go_wp2
      go_roundw
      case rel =>
        refine ⟨k + 1, by omega, by go_num, b8c, ?_, hbc⟩
        rw [HS.out]
        exact b9c
      case measure => simp [intOf]; omega
    · have hd1 : decide ((k : Int) < (n : Int)) = false := by simp; omega
      rw [List.take_of_length_le (by omega)] at b9
      obtain ⟨g9, x0, x1, x2, x3, x4, x5, x6⟩ := b9.sevenC
      have l8 := b8.lt
      go_wp2_with (refine wpList_store_row rfl 98 _ _ rfl _ _ rfl rfl _ _ b8 (by kernel_rfl) (by kernel_rfl) (by kernel_rfl) ?_)
      refine post_cell rfl (by rfl) (b8.setRow _) rfl rfl (by kernel_rfl) ?_
      exact ⟨rfl, below_setRow hb (by omega) _⟩
end Go.Proofs.Ytipacjbegfingaa
