/- The store's maps written; steps of a region that draws; what Load answers. -/
import Derived.Test.YtipacjbegfingaaGreatYaaf
namespace Go.Proofs.YtipacjbegfingaaGreat
open Go.RowKit Fl
attribute [local go_sem] run_store_float

theorem cell_of_map {w : World} {b : Nat} {es : Array MapEntry} {c : Nat} (h : w.heap[b]? = some (.map es c)) (o : Nat) (sp : _) : w.cell? ⟨b, o, sp⟩ = none := by
  simp [World.cell?, h]
theorem owns_block {w : World} {P : Program} {k : TypeId} {b n : Nat} {D : DataW Value} (h : w.ownsMap P k anyE b n D) : ∃ es c, w.heap[b]? = some (.map es c) := by
  obtain ⟨es, c, h, _⟩ := h
  exact ⟨es, c, h⟩
/-- the cells stay where a map is written -/
theorem cell_map_kept {w w' : World} {P P' : Program} {k k' : TypeId} {b n n' : Nat} {D D' : DataW Value} (h : w.ownsMap P k anyE b n D) (h' : w'.ownsMap P' k' anyE b n' D') (hg : w.grownBy w' (some b)) : ∀ p : Addr, p.block < w.heap.size → w'.cell? p = w.cell? p := by
  intro p hp
  by_cases e : p.block = b
  · obtain ⟨es, c, h1⟩ := owns_block h
    obtain ⟨es', c', h2⟩ := owns_block h'
    obtain ⟨q, o, sp⟩ := p
    simp only at e
    subst e
    rw [cell_of_map h1, cell_of_map h2]
  · exact hg.cell_far p hp (fun e2 => by injection e2 with e2; exact e e2)
section
variable {w w' : World} {base g b1 b2 : Nat} {l : List Hs} {m : List Pn}
theorem KeysD.keep {B : Nat} {D : DataW Value} (h : KeysD w B D l) (hk : ∀ p : Addr, p.block < B → w'.cell? p = w.cell? p) : KeysD w' B D l := fun key => by
  obtain ⟨v, e, hv⟩ := h key
  exact ⟨v, e, hv.keep VnRel.kept hk⟩
theorem PendD.keep {B : Nat} {D : DataW Value} (h : PendD w B D m) (hk : ∀ p : Addr, p.block < B → w'.cell? p = w.cell? p) : PendD w' B D m := ⟨h.1, fun p hp => by
  obtain ⟨h1, h2, r, q, e, hr, hq⟩ := h.2 p hp
  exact ⟨h1, h2, r, q, e, hr.keep KyRel.kept hk, hq.keep WtRel.kept hk⟩⟩
set_option maxRecDepth 100000 in
theorem StoreW.put1 (h : StoreW w base g b1 b2 l m) {x : Hs} {v : Value} (hk : x.key.size ≤ maxLen) (hl : l.length < maxLen) (hv : HdRel VnRel 6 w w.heap.size v x.vs) :
    ∃ w', (Instr.mapUpdate 123 (.map (some b1)) (.string x.key) v).run Tryz.prog w = .ok () w' ∧ StoreW w' base g b1 b2 (l ++ [x]) m ∧ w.grownBy w' (some b1) ∧ (∀ p : Addr, p.block < w.heap.size → w'.cell? p = w.cell? p) := by
  obtain ⟨D1, o1, k1⟩ := h.ks
  obtain ⟨D2, o2, k2⟩ := h.ps
  have hkey : keyOf Tryz.prog 9 (.string x.key) = some (keyLit x.key) := WideMaps.keyOf_string_mk Tryz.underlying9 hk
  obtain ⟨w1, hrun, ho, hg⟩ := o1.update kStr Tryz.underlying123 hl hkey (val := v) (d := .held v) (ps := []) rfl
  have hc := cell_map_kept o1 ho hg
  have hs := hg.size
  refine ⟨w1, hrun, ⟨?_, h.g0, h.b10, h.b20, h.ne, h.ne1, h.ne2, ⟨_, by rw [List.length_append]; exact ho, ?_⟩, h.one, ⟨D2, o2.kept hg (fun e => h.ne (by injection e with e; exact e.symm)), (k2.keep hc).more hs⟩⟩, hg, hc⟩
  · exact h.blk.grown hg (fun e => h.ne1 (by injection e))
  · exact ((k1.put o1.isMap hv).keep hc).more hs
set_option maxRecDepth 100000 in
theorem StoreW.put2 (h : StoreW w base g b1 b2 l m) {x : Pn} {r q : Value} (ht : x.t.ok) (hs0 : x.s.ok) (hl : m.length < maxLen) (hr : HdRel KyRel 1 w w.heap.size r x.r) (hq : HdRel WtRel 4 w w.heap.size q x.w) (hn : ∀ y ∈ m, y.t ≠ x.t) :
    ∃ w', (Instr.mapUpdate 54 (.map (some b2)) x.t.val (x.val r q)).run Tryz.prog w = .ok () w' ∧ StoreW w' base g b1 b2 l (m ++ [x]) ∧ w.grownBy w' (some b2) ∧ (∀ p : Addr, p.block < w.heap.size → w'.cell? p = w.cell? p) := by
  obtain ⟨D1, o1, k1⟩ := h.ks
  obtain ⟨D2, o2, k2⟩ := h.ps
  obtain ⟨w1, hrun, ho, hg⟩ := o2.update kTxn Tryz.underlying54 hl (txl_of ht) (val := x.val r q) (d := .held (x.val r q)) (ps := []) rfl
  have hc := cell_map_kept o2 ho hg
  have hs := hg.size
  refine ⟨w1, hrun, ⟨?_, h.g0, h.b10, h.b20, h.ne, h.ne1, h.ne2, ⟨D1, o1.kept hg (fun e => h.ne (by injection e)), (k1.keep hc).more hs⟩, ?_, ⟨_, by rw [List.length_append]; exact ho, ?_⟩⟩, hg, hc⟩
  · exact h.blk.grown hg (fun e => h.ne2 (by injection e))
  · intro p hp p' hp' e
    rcases List.mem_append.1 hp with hq1 | hq1 <;> rcases List.mem_append.1 hp' with hq2 | hq2
    · exact h.one p hq1 p' hq2 e
    · simp only [List.mem_cons, List.not_mem_nil, or_false] at hq2
      rw [hq2] at e
      exact absurd e (hn p hq1)
    · simp only [List.mem_cons, List.not_mem_nil, or_false] at hq1
      rw [hq1] at e
      exact absurd e.symm (hn p' hq2)
    · simp only [List.mem_cons, List.not_mem_nil, or_false] at hq1 hq2
      rw [hq1, hq2]
  · exact ((k2.put o2.isMap ht hs0 hr hq hn).keep hc).more hs
set_option maxRecDepth 100000 in
/-- is a transaction pending? -/
theorem StoreW.look2 (h : StoreW w base g b1 b2 l m) {t : Tx} (ht : t.ok) :
    ∃ cs : Array Value, (∀ w', Below w.heap.size w w' → (Instr.lookup 54 (.map (some b2)) t.val true).run Tryz.prog w' = .ok (.tuple #[.agg cs, .bool (m.any fun y => decide (y.t = t))]) w') ∧ cs.size = 8 ∧ cs.all (·.oneCell') = true := by
  obtain ⟨D, o, k1, k2⟩ := h.ps
  have hh : Maps.has D (txl t) = m.any fun y => decide (y.t = t) := by
    rw [Bool.eq_iff_iff, List.any_eq_true]
    constructor
    · intro hd
      obtain ⟨p, hp, e⟩ := k1 _ hd
      exact ⟨p, hp, by simp [txl_inj (k2 p hp).1 ht e.symm]⟩
    · rintro ⟨p, hp, e⟩
      obtain ⟨_, _, r, q, e2, _⟩ := k2 p hp
      have e3 : p.t = t := by simpa using e
      rw [e3] at e2
      exact Maps.has_true_of_atKey e2
  have run : ∀ cs : Array Value, D.atKey (txl t) (.held (.agg #[.int .i64 0, .int .i64 0, .int .i64 0, .int .i64 0, .int .i64 0, .int .i64 0, .slice none 0 0, .slice none 0 0])) = .held (.agg cs) →
      ∀ w', Below w.heap.size w w' → (Instr.lookup 54 (.map (some b2)) t.val true).run Tryz.prog w' = .ok (.tuple #[.agg cs, .bool (m.any fun y => decide (y.t = t))]) w' := by
    intro cs hcs w' hb
    obtain ⟨v, ps, hrun, hat⟩ := (o.kept (grownBy_below hb none) (by simp)).look_ok kTxn Tryz.underlying54 (z := .agg #[.int .i64 0, .int .i64 0, .int .i64 0, .int .i64 0, .int .i64 0, .int .i64 0, .slice none 0 0, .slice none 0 0]) (by rfl) rfl (txl_of ht)
    injection hat with hat
    injection hat with hat _
    rw [hcs] at hat
    injection hat with hat
    rw [hh, hat] at hrun
    exact hrun
  cases hd : Maps.has D (txl t)
  · exact ⟨_, run _ (Maps.atKey_of_not_has hd _), rfl, by kernel_rfl⟩
  · obtain ⟨p, hp, e⟩ := k1 _ hd
    obtain ⟨_, _, r, q, e2, ⟨A1, n1, c1, rfl, _⟩, ⟨A2, n2, c2, rfl, _⟩⟩ := k2 p hp
    exact ⟨_, run _ (by rw [e, e2]), rfl, by kernel_rfl⟩
end

section
variable {P : Program} {md : Region.Mode} {ops : Array Oper} {Q : Exit → Act → World → Prop} {S : World → Prop} {fuel : Nat} {listed : Array Bool} {a : Act} {w : World} {i : Nat} {op : Oper}
/-- one store of a whole struct comes up alone, in a region that draws its order -/
theorem wpAnyH_store_row (hr : Region.ready md ops listed = [i]) (ho : ops[i]? = some op) (hg : op.guard = none) (ty : TypeId) (x y : Operand) (hop : op.op = .store ty x y)
    (g : Nat) (cells : Array Value) (hx : a.eval x = .pointer (some ⟨g, 0, none⟩)) (hy : a.eval y = .agg cells) (t : TypeId) (old : Array Value) (hb : Blk w g t old) (hi : (P.info? ty).map (·.size) = some cells.size) (hold : old.size = cells.size) (h1 : cells.all (·.oneCell') = true)
    (hS : S (w.setRow g cells)) (h : ∀ w', S w' → wpAnyH P md ops Q S fuel (listed.setIfInBounds i true) (a.put op.dst undef) w') : wpAnyH P md ops Q S (fuel + 1) listed a w := by
  refine wpAnyH_all hr (by simp) (fun j hj => ?_)
  obtain rfl : j = i := by simpa using hj
  refine wpOp_step ho (fun K' hK => ?_)
  have hw : Region.wanted op (yielded ops a.tmps) = true := by simp [Region.wanted, hg]
  rw [if_pos hw]
  exact wp_store_row ty x y hop g cells hx hy t old hb hi hold h1 (hK _ _ ⟨hS, h _ hS⟩)
/-- one box is made: it comes up alone -/
theorem wpAnyH_alloc (hr : Region.ready md ops listed = [i]) (ho : ops[i]? = some op) (hg : op.guard = none) (ty : TypeId) (_hop : op.op = .alloc ty) (o : Obj)
    (hrun : (execOp a.eval op).run P w = .ok (.value (.pointer (some ⟨w.heap.size, 0, none⟩))) (w.alloc o))
    (hS : S (w.alloc o)) (h : wpAnyH P md ops Q S fuel (listed.setIfInBounds i true) (a.put op.dst (.pointer (some ⟨w.heap.size, 0, none⟩))) (w.alloc o)) : wpAnyH P md ops Q S (fuel + 1) listed a w := by
  refine wpAnyH_all hr (by simp) (fun j hj => ?_)
  obtain rfl : j = i := by simpa using hj
  refine wpOp_step ho (fun K' hK => ?_)
  have hw : Region.wanted op (yielded ops a.tmps) = true := by simp [Region.wanted, hg]
  rw [if_pos hw]
  unfold Oper.wp
  rw [hrun]
  exact hK _ _ ⟨hS, h⟩
end
abbrev zeroPn : Array Value := #[.int .i64 0, .int .i64 0, .int .i64 0, .int .i64 0, .int .i64 0, .int .i64 0, .slice none 0 0, .slice none 0 0]
theorem alloc_pn (ev : Operand → Value) (op : Oper) (hop : op.op = .alloc 45) (w : World) : (execOp ev op).run Tryz.prog w = .ok (.value (.pointer (some ⟨w.heap.size, 0, none⟩))) (w.alloc (.cells zeroPn 45)) := by
  unfold execOp
  simp only [hop]
  go_simp
/-- are these histories that may be, their keys rising from p on? -/
def histsB : ByteArray → List Hs → Bool
  | _, [] => true
  | p, h :: l => histB p h && histsB h.key l
theorem histsB_drop {l : List Hs} {k : Nat} {a : Hs} (p : ByteArray) (h : l[k]? = some a) : histsB p (l.drop k) = (histB p a && histsB a.key (l.drop (k + 1))) := by
  have h1 := List.getElem?_eq_some_iff.1 h
  rw [List.drop_eq_getElem_cons h1.1, h1.2]; rfl
def pendsE (H : List Hs) : List Pn → List Pn → Int
  | _, [] => 0
  | m, x :: l => if pendE x ≠ 0 then pendE x else if (m.any fun y => decide (y.t = x.t)) then 9 else if lockedB m x then 18 else if oldB H x then 20 else pendsE H (m ++ [x]) l
def loadE (H : List Hs) (Q : List Pn) : Int := if histsB ⟨#[]⟩ H then pendsE H [] Q else 4
theorem pendsE_drop {H : List Hs} {l : List Pn} {k : Nat} {x : Pn} (h : l[k]? = some x) : pendsE H (l.take k) (l.drop k) =
    if pendE x ≠ 0 then pendE x else if ((l.take k).any fun y => decide (y.t = x.t)) then 9 else if lockedB (l.take k) x then 18 else if oldB H x then 20 else pendsE H (l.take (k + 1)) (l.drop (k + 1)) := by
  have h1 := List.getElem?_eq_some_iff.1 h
  rw [List.drop_eq_getElem_cons h1.1, h1.2, List.take_add_one, h]
  rfl
/-- short enough to be walked -/
def SmallH (H : List Hs) : Prop := H.length ≤ 1000000 ∧ ∀ h ∈ H, h.vs.length ≤ 1000000
def SmallP (Q : List Pn) : Prop := Q.length ≤ 1000000 ∧ ∀ p ∈ Q, p.r.length ≤ 1000000 ∧ p.w.length ≤ 1000000
def Load1 (H : List Hs) (base g b1 b2 : Nat) (w : World) (v i : Value) (wr : World) : Prop :=
  ∃ (k : Nat) (p : ByteArray), k ≤ H.length ∧ i = .int .i64 (k : Int) ∧ v = .string p ∧ histsB p (H.drop k) = histsB ⟨#[]⟩ H ∧ StoreW wr base g b1 b2 (H.take k) [] ∧ Below w.heap.size w wr
def Load2 (H : List Hs) (Q : List Pn) (base g b1 b2 : Nat) (w : World) (i : Value) (wr : World) : Prop :=
  ∃ k : Nat, k ≤ Q.length ∧ i = .int .i64 (k : Int) ∧ pendsE H (Q.take k) (Q.drop k) = pendsE H [] Q ∧ StoreW wr base g b1 b2 H (Q.take k) ∧ Below w.heap.size w wr

set_option maxRecDepth 100000 in
set_option maxHeartbeats 4000000 in
theorem load_any (A1 A2 : Option Addr) (n1 n2 c1 c2 : Nat) (H : List Hs) (Q : List Pn) (w : World) (h1 : Sl HsRel 2 w w.heap.size A1 n1 H) (h2 : Sl PnRel 8 w w.heap.size A2 n2 Q) (hH : SmallH H) (hQ : SmallP Q) :
    Calls Tryz.prog 48 #[.slice A1 n1 c1, .slice A2 n2 c2] w fun e w' => ∃ v, e = .returned (.tuple #[v, .int .i64 (loadE H Q)]) ∧ Below w.heap.size w w' := by
  have hl1 := h1.1
  have hl2 := h2.1
  have hge1 : n1 ≤ H.length := by omega
  have hle1 : H.length ≤ n1 := by omega
  have hge2 : n2 ≤ Q.length := by omega
  have hle2 : Q.length ≤ n2 := by omega
  have hn1 : n1 ≤ 1000000 := Nat.le_trans hge1 hH.1
  have hn2 : n2 ≤ 1000000 := Nat.le_trans hge2 hQ.1
  clear hl1 hl2
  go_enter Tryz.func48, Tryz.ntmps48
  go_wp2_with fail
  refine (new_store w).mono ?_
  rintro e w1 ⟨g, b1, b2, rfl, hst, hb1⟩
  go_wp2_with fail
  go_loopw [7, 18] (fun v i wr => Load1 H w.heap.size g b1 b2 w v i wr) (fun _ i _ => n1 - (intOf i).toNat)
  case atStart => exact ⟨0, ⟨#[]⟩, by omega, rfl, rfl, rfl, hst, hb1⟩
  case round =>
    obtain ⟨k, p, hk, rfl, rfl, hs, hst, hb⟩ := hrel
    have hzz := hb.size
    by_cases hlt : k < n1
    · obtain ⟨ad, a, A', n', c', rfl, ha, hbk, hkz, d0, d1, hn', hc', hsv⟩ := ((h1.below HsRel.kept hb).more HsRel.kept hb.size).hs hlt
      have hd1 : decide ((k : Int) < (n1 : Int)) = true := by simp; omega
      have hk0 : (0 : Int) ≤ (k : Int) := by omega
      have hk1 : (k : Int) < (n1 : Int) := by omega
      have hsm : n' ≤ 1000000 := by
        have := hH.2 a (List.mem_of_getElem? ha)
        have := hsv.1
        omega
      rw [histsB_drop p ha] at hs
      have hX : Below wr.heap.size wr (wr.alloc (.cells #[.string a.key, .slice A' n' c'] 59)) := by go_grown
      have i9 := Blk.new wr 59 #[.string a.key, .slice A' n' c']
      have hstX := hst.below hX
      have hsX := (hsv.below VnRel.kept hX).more VnRel.kept hX.size
      have hbX : Below w.heap.size w (wr.alloc (.cells #[.string a.key, .slice A' n' c'] 59)) := hb.trans (hX.mono hzz)
      have hHi := history_any A' n' c' a p _ hsX (by unfold maxLen; omega)
      cases hhb : histB p a
      · have HF := Lib.hid (show loadE H Q = 4 by unfold loadE; rw [← hs, hhb]; rfl)
        rw [hhb] at hHi
        clear hs ha
        go_wp2_with ((with_reducible refine hHi.mono ?_); rintro e w2 ⟨rfl, hb2⟩)
        go_ret2
        rw [HF.out]
        exact ⟨_, rfl, hbX.trans (hb2.mono hbX.size)⟩
      · rw [hhb] at hHi hs
        have HT := Lib.hid (show histsB a.key (H.drop (k + 1)) = histsB ⟨#[]⟩ H from hs)
        have HK := Lib.hid (show H.take (k + 1) = H.take k ++ [a] by rw [List.take_add_one, ha]; rfl)
        clear hs ha
        go_wp2_with ((with_reducible refine hHi.mono ?_); rintro e w2 ⟨rfl, hb2⟩)
        have j9 := i9.below hb2 i9.lt
        have hst2 := hstX.below hb2
        have hs2 := (hsX.below VnRel.kept hb2).more VnRel.kept hb2.size
        have hw2 : Below w.heap.size w w2 := hbX.trans (hb2.mono hbX.size)
        have hw2z := hw2.size
        clear i9 hstX hsX hX hbX hb2 hHi hst hsv d0 d1
        generalize hg9 : wr.heap.size = g9 at *
        have hlen : (H.take k).length ≤ 1000000 := by simp; omega
        have hsv5 : ∀ v ∈ a.vs, Vn.ok v := Sl.all_ok hs2
        have hC := clone_vn A' n' c' a.vs w2.drew hs2 hsm
        obtain ⟨l9, x0, -⟩ : g9 < w2.heap.size ∧ w2.cell? ⟨g9, 0, none⟩ = some (.string a.key) ∧ True := ⟨j9.lt, j9.cell 0, trivial⟩
        have x1 : w2.cell? ⟨g9, 1, none⟩ = some (.slice A' n' c') := j9.cell 1
        obtain ⟨lg, y0, -⟩ := hst2.blk.fiveC
        go_region_held3 (fun w' => w'.cell? ⟨g, 0, none⟩ = some (.map (some b1)) ∧ w'.cell? ⟨g9, 0, none⟩ = some (.string a.key) ∧ w'.cell? ⟨g9, 1, none⟩ = some (.slice A' n' c'))
          (first | exact ⟨y0, x0, x1⟩ | exact ⟨z0, z1, z2⟩ | exact ⟨(hc6 _ lg5).trans z0, (hc6 _ l95).trans z1, (hc6 _ l95).trans z2⟩)
          (first | ((with_reducible refine hC.mono ?_); rintro e w5 ⟨v5, rfl, ho5, hb5⟩; have z0 := (hb5.cell (p := ⟨g, 0, none⟩) lg).trans y0; have z1 := (hb5.cell (p := ⟨g9, 0, none⟩) l9).trans x0; have z2 := (hb5.cell (p := ⟨g9, 1, none⟩) l9).trans x1; have lg5 : g < w5.heap.size := Nat.lt_of_lt_of_le lg hb5.size; have l95 : g9 < w5.heap.size := Nat.lt_of_lt_of_le l9 hb5.size; obtain ⟨w6, hrun, hst6, hg6, hc6⟩ := (hst2.below (Below.trans (Below.refl _ _).drew hb5)).put1 (reach_max hkz) (by unfold maxLen; omega) (ho5.sl (by omega) vn_len hsv5)))
        have hw5 : Below w.heap.size w w5 := hw2.drew.trans (hb5.mono hw2z)
        have hw6 : Below w.heap.size w w6 := hw5.grown hg6 hw5.size (by intro q hq; injection hq with hq; rw [← hq]; exact hst6.b10)
        have u0 := (hc6 ⟨g9, 0, none⟩ l95).trans z1
        have l96 : g9 < w6.heap.size := Nat.lt_of_lt_of_le l95 hg6.size
        clear x0 x1 y0 z0 z1 z2 hrun hC hc6
        go_wp2
        go_roundw
        case rel =>
          refine ⟨k + 1, a.key, by omega, by go_num, rfl, HT.out, ?_, hw6⟩
          rw [HK.out]
          exact hst6
        case measure => simp [intOf]; omega
    · have hd1 : decide ((k : Int) < (n1 : Int)) = false := by simp; omega
      have hL : loadE H Q = pendsE H [] Q := by
        unfold loadE
        rw [← hs, List.drop_of_length_le (by omega)]; rfl
      rw [List.take_of_length_le (by omega)] at hst
      clear hs
      go_wp2
      obtain ⟨w3, rfl⟩ : ∃ w3, w3 = wr := ⟨_, rfl⟩
      go_loopw [40] (fun i wr => Load2 H Q w.heap.size g b1 b2 w i wr) (fun i _ => n2 - (intOf i).toNat)
      case atStart => exact ⟨0, by omega, rfl, rfl, hst, hb⟩
      case round =>
        clear hst hb hzz
        obtain ⟨k2, hk2, rfl, hs, hst, hb⟩ := hrel
        have hzz := hb.size
        by_cases hlt : k2 < n2
        · obtain ⟨ad, x, A3, n3, c3, A4, n4, c4, rfl, ha, hbk, hxt, hxs, d0, d1, d2, d3, d4, d5, d6, d7, hn3, hc3, hs3, hn4, hc4, hs4⟩ := ((h2.below PnRel.kept hb).more PnRel.kept hb.size).pn hlt
          have hd1 : decide ((k2 : Int) < (n2 : Int)) = true := by simp; omega
          have hk0 : (0 : Int) ≤ (k2 : Int) := by omega
          have hk1 : (k2 : Int) < (n2 : Int) := by omega
          have hsm := hQ.2 x (List.mem_of_getElem? ha)
          have hl3 := hs3.1
          have hl4 := hs4.1
          rw [pendsE_drop ha] at hs
          have HK := Lib.hid (show Q.take (k2 + 1) = Q.take k2 ++ [x] by rw [List.take_add_one, ha]; rfl)
          have hlen : (Q.take k2).length ≤ 1000000 := by simp; omega
          have hX : Below wr.heap.size wr (wr.alloc (.cells (x.arr (.slice A3 n3 c3) (.slice A4 n4 c4)) 45)) := by go_grown
          have i11 := Blk.new wr 45 (x.arr (.slice A3 n3 c3) (.slice A4 n4 c4))
          have hstX := hst.below hX
          have hr := (hs3.below KyRel.kept hX).more KyRel.kept hX.size
          have hw := (hs4.below WtRel.kept hX).more WtRel.kept hX.size
          have hbX : Below w.heap.size w (wr.alloc (.cells (x.arr (.slice A3 n3 c3) (.slice A4 n4 c4)) 45)) := hb.trans (hX.mono hzz)
          have hPe := pend_any x A3 A4 n3 n4 c3 c4 _ hr hw (by unfold maxLen; omega) (by omega)
          generalize hpe : pendE x = pe at *
          clear ha
          go_wp2_with ((with_reducible refine hPe.mono ?_); rintro e w4 ⟨rfl, hb4⟩)
          have j11 := i11.below hb4 i11.lt
          have hst4 := hstX.below hb4
          have hr4 := (hr.below KyRel.kept hb4).more KyRel.kept hb4.size
          have hw4 := (hw.below WtRel.kept hb4).more WtRel.kept hb4.size
          have hbw4 : Below w.heap.size w w4 := hbX.trans (hb4.mono hbX.size)
          clear i11 hstX hr hw hX hbX hb4 hPe d0 d1 d2 d3 d4 d5 d6 d7 hst hb hs3 hs4
          generalize hg11 : wr.heap.size = g11 at *
          obtain ⟨cs, hlk, hcs, hcs1⟩ := hst4.look2 hxt
          generalize htw : ((Q.take k2).any fun y => decide (y.t = x.t)) = tw at *
          have lg := hst4.blk.lt
          have l11 := j11.lt
          have y1 : w4.cell? ⟨g, 1, none⟩ = some (.map (some b2)) := hst4.blk.cell 1
          refine wp_region_held_drew (S := fun w' => Below w4.heap.size w4 w') (by kernel_rfl) (Below.refl _ _).drew (fun hHeld => ?_)
          refine wpAnyH_take (i := 0) (v := .pointer (some ⟨g, 0, none⟩)) rfl (by kernel_rfl) (by kernel_rfl) (by kernel_rfl) (fun _ _ _ h => h) (Or.inl ⟨by rfl, fun W hSw => by clear hSw; go_simp⟩) hHeld ?_
          go_frame
          refine wpAnyH_take (i := 1) (v := .pointer (some ⟨g, 0, none⟩)) rfl (by kernel_rfl) (by kernel_rfl) (by kernel_rfl) (fun _ _ _ h => h) (Or.inl ⟨by rfl, fun W hSw => by clear hSw; go_simp⟩) hHeld ?_
          go_frame
          refine wpAnyH_take (i := 2) (v := .pointer (some ⟨g, 1, none⟩)) rfl (by kernel_rfl) (by kernel_rfl) (by kernel_rfl) (fun _ _ _ h => h) (Or.inl ⟨by rfl, fun W hSw => by clear hSw; go_simp⟩) hHeld ?_
          go_frame
          refine wpAnyH_take (i := 3) (v := .map (some b2)) rfl (by kernel_rfl) (by kernel_rfl) (by kernel_rfl) (fun _ _ _ h => h) (Or.inl ⟨by rfl, fun W hSw => by have z := (hSw.cell (p := ⟨g, 1, none⟩) lg).trans y1; clear hSw; go_simp⟩) hHeld ?_
          go_frame
          refine wpAnyH_take (i := 4) (v := .pointer (some ⟨g11, 0, none⟩)) rfl (by kernel_rfl) (by kernel_rfl) (by kernel_rfl) (fun _ _ _ h => h) (Or.inl ⟨by rfl, fun W hSw => by clear hSw; go_simp⟩) hHeld ?_
          go_frame
          refine wpAnyH_take (i := 5) rfl (by kernel_rfl) (by kernel_rfl) (by kernel_rfl) (fun _ _ _ h => h) (yieldsIf_load_mid (by rfl) _ _ rfl g11 0 rfl [.int .i64 x.t.c, .int .i64 x.t.l, .int .i64 x.t.s] _ (fun W hSw => (j11.below hSw l11).range 0 _ (three_of rfl rfl rfl)) rfl rfl (by kernel_rfl)) hHeld ?_
          go_frame
          refine wpAnyH_take (i := 6) (v := .tuple #[.agg cs, .bool tw]) rfl (by kernel_rfl) (by kernel_rfl) (by kernel_rfl) (fun _ _ _ h => h) (Or.inl ⟨by rfl, fun W hSw => by have z := hlk W hSw; clear hSw; go_simp⟩) hHeld ?_
          go_frame
          refine wpAnyH_take (i := 7) (v := .tuple #[.agg cs, .bool tw]) rfl (by kernel_rfl) (by kernel_rfl) (by kernel_rfl) (fun _ _ _ h => h) (Or.inl ⟨by rfl, fun W hSw => by clear hSw; go_simp⟩) hHeld ?_
          go_frame
          refine wpAnyH_take (i := 8) (v := .agg cs) rfl (by kernel_rfl) (by kernel_rfl) (by kernel_rfl) (fun _ _ _ h => h) (Or.inl ⟨by rfl, fun W hSw => by clear hSw; go_simp⟩) hHeld ?_
          go_frame
          refine wpAnyH_take (i := 9) (v := .bool tw) rfl (by kernel_rfl) (by kernel_rfl) (by kernel_rfl) (fun _ _ _ h => h) (Or.inl ⟨by rfl, fun W hSw => by clear hSw; go_simp⟩) hHeld ?_
          go_frame
          have hbA : Below w4.heap.size w4 (w4.drew.alloc (.cells zeroPn 45)) := (Below.refl _ _).drew.alloc (Nat.le_refl _) _
          refine wpAnyH_alloc (i := 10) (by kernel_rfl) rfl rfl _ rfl (.cells zeroPn 45) (alloc_pn _ _ rfl _) hbA ?_
          go_frame
          have i13 := Blk.new w4.drew 45 zeroPn
          have hbB : Below w4.heap.size w4 ((w4.drew.alloc (.cells zeroPn 45)).setRow w4.drew.heap.size cs) := below_setRow hbA (Nat.le_refl _) cs
          have hi1 : (Tryz.prog.info? 45).map (·.size) = some cs.size := by rw [hcs]; kernel_rfl
          have hi2 : zeroPn.size = cs.size := by rw [hcs]; rfl
          refine wpAnyH_store_row (i := 11) (by kernel_rfl) rfl rfl _ _ _ rfl w4.drew.heap.size cs (by kernel_rfl) (by kernel_rfl) _ zeroPn i13 hi1 hi2 hcs1 hbB ?_
          clear hbB hbA i13
          intro w5 hbB
          go_frame
          refine wpAnyH_take (i := 12) (v := .bool tw) rfl (by kernel_rfl) (by kernel_rfl) (by kernel_rfl) (fun _ _ _ h => h) (Or.inl ⟨by rfl, fun W hSw => by clear hSw; go_simp⟩) hbB ?_
          go_frame
          refine wpAnyH_done (by kernel_rfl) ?_ _
          have k11 := j11.below hbB l11
          have hst5 := hst4.below hbB
          have hr5 := (hr4.below KyRel.kept hbB).more KyRel.kept hbB.size
          have hw5 := (hw4.below WtRel.kept hbB).more WtRel.kept hbB.size
          have hbw5 : Below w.heap.size w w5 := hbw4.trans (hbB.mono hbw4.size)
          clear j11 hst4 hr4 hw4 hbw4 hbB hHeld hlk hcs hcs1 y1 lg l11
          have lg := hst5.blk.lt
          have l11 := k11.lt
          have x0 := k11.cell 0
          have x1 := k11.cell 1
          have x2 := k11.cell 2
          have x3 := k11.cell 3
          have x4 := k11.cell 4
          have x5 := k11.cell 5
          have x6 := k11.cell 6
          have x7 := k11.cell 7
          simp only [List.getElem?_toArray, List.getElem?_cons_succ, List.getElem?_cons_zero] at x0 x1 x2 x3 x4 x5 x6 x7
          have hLk := locked_any w.heap.size g b1 b2 H (Q.take k2) x A3 A4 n3 n4 c3 c4 w5 hst5 hr5 hw5 (by unfold maxLen; omega) (by unfold maxLen; omega)
          by_cases hp0 : pe = 0
          · have hpn : (pe != 0) = false := by simp [hp0]
            rw [if_neg (fun e => e hp0)] at hs
            by_cases htb : tw = true
            · have HF := Lib.hid (show loadE H Q = 9 by rw [hL, ← hs, if_pos htb])
              clear hs hp0
              go_wp2
              go_ret2
              rw [HF.out]
              exact ⟨_, rfl, hbw5⟩
            rw [if_neg htb] at hs
            have htf : tw = false := by simpa using htb
            by_cases hlb : lockedB (Q.take k2) x = true
            · have HF := Lib.hid (show loadE H Q = 18 by rw [hL, ← hs, if_pos hlb])
              rw [hlb] at hLk
              clear hs hp0 hlb htb
              go_wp2_with ((with_reducible refine hLk.mono ?_); rintro e w6 ⟨rfl, hb6⟩)
              go_ret2
              rw [HF.out]
              exact ⟨_, rfl, hbw5.trans (hb6.mono hbw5.size)⟩
            rw [if_neg hlb] at hs
            have hlf : lockedB (Q.take k2) x = false := by simpa using hlb
            rw [hlf] at hLk
            clear hp0 hlb hlf htb
            go_wp2_with (go_at_call 80; fail)
            refine hLk.mono ?_
            rintro e w6 ⟨rfl, hb6⟩
            have k116 := k11.below hb6 l11
            have hst6 := hst5.below hb6
            have hr6 := (hr5.below KyRel.kept hb6).more KyRel.kept hb6.size
            have hw6 := (hw5.below WtRel.kept hb6).more WtRel.kept hb6.size
            have hbw6 : Below w.heap.size w w6 := hbw5.trans (hb6.mono hbw5.size)
            clear k11 hst5 hr5 hw5 hbw5 hb6 x0 x1 x2 x3 x4 x5 x6 x7 l11 hLk lg
            have l11 := k116.lt
            have x0 := k116.cell 0
            have x1 := k116.cell 1
            have x2 := k116.cell 2
            have x3 := k116.cell 3
            have x4 := k116.cell 4
            have x5 := k116.cell 5
            have x6 := k116.cell 6
            have x7 := k116.cell 7
            simp only [List.getElem?_toArray, List.getElem?_cons_succ, List.getElem?_cons_zero] at x0 x1 x2 x3 x4 x5 x6 x7
            have hOl := old_any w.heap.size g b1 b2 H (Q.take k2) x A3 A4 n3 n4 c3 c4 w6 hst6 hw6 (by omega)
            by_cases hob : oldB H x = true
            · have HF := Lib.hid (show loadE H Q = 20 by rw [hL, ← hs, if_pos hob])
              rw [hob] at hOl
              clear hs hob
              go_wp2_with ((with_reducible refine hOl.mono ?_); rintro e w7 ⟨rfl, hb7⟩)
              go_ret2
              rw [HF.out]
              exact ⟨_, rfl, hbw6.trans (hb7.mono hbw6.size)⟩
            rw [if_neg hob] at hs
            have hof : oldB H x = false := by simpa using hob
            rw [hof] at hOl
            have HT := Lib.hid hs
            clear hob hof hs
            go_wp2_with (go_at_call 81; fail)
            refine hOl.mono ?_
            rintro e w7 ⟨rfl, hb7⟩
            have k117 := k116.below hb7 l11
            have hst7 := hst6.below hb7
            have hr7 := (hr6.below KyRel.kept hb7).more KyRel.kept hb7.size
            have hw7 := (hw6.below WtRel.kept hb7).more WtRel.kept hb7.size
            have hbw7 : Below w.heap.size w w7 := hbw6.trans (hb7.mono hbw6.size)
            have hn : ∀ y ∈ Q.take k2, y.t ≠ x.t := fun y hy e => by
              rw [htf] at htw
              have := List.any_eq_false.1 htw y hy
              simp [e] at this
            clear k116 hst6 hr6 hw6 hbw6 hb7 x0 x1 x2 x3 x4 x5 x6 x7 l11 hOl htw hpe hL
            have l11 := k117.lt
            have lg := hst7.blk.lt
            have y1 : w7.cell? ⟨g, 1, none⟩ = some (.map (some b2)) := hst7.blk.cell 1
            have x0 := k117.cell 0
            have x1 := k117.cell 1
            have x2 := k117.cell 2
            have x3 := k117.cell 3
            have x4 := k117.cell 4
            have x5 := k117.cell 5
            have x6 := k117.cell 6
            have x7 := k117.cell 7
            simp only [List.getElem?_toArray, List.getElem?_cons_succ, List.getElem?_cons_zero] at x0 x1 x2 x3 x4 x5 x6 x7
            have hCl := pclone_any x A3 A4 n3 n4 c3 c4 w7.drew hr7 hw7 (by omega) (by omega)
            have hok3 : ∀ a ∈ x.r, a.size ≤ 140737488351232 := Sl.all_ok hr7
            have hok4 : ∀ a ∈ x.w, Wt.ok a := Sl.all_ok hw7
            have HX := Lib.hid hok3
            have HY := Lib.hid hok4
            clear hok3 hok4
            go_wp2
            go_region_held3 (fun w' => w'.cell? ⟨g, 1, none⟩ = some (.map (some b2)) ∧ w'.cell? ⟨g11, 0, none⟩ = some (.int .i64 x.t.c) ∧ w'.cell? ⟨g11, 1, none⟩ = some (.int .i64 x.t.l) ∧ w'.cell? ⟨g11, 2, none⟩ = some (.int .i64 x.t.s) ∧ w'.cell? ⟨g11, 3, none⟩ = some (.int .i64 x.s.w) ∧ w'.cell? ⟨g11, 4, none⟩ = some (.int .i64 x.s.l) ∧ w'.cell? ⟨g11, 5, none⟩ = some (.int .i64 x.s.n) ∧ w'.cell? ⟨g11, 6, none⟩ = some (.slice A3 n3 c3) ∧ w'.cell? ⟨g11, 7, none⟩ = some (.slice A4 n4 c4))
              (first | exact ⟨y1, x0, x1, x2, x3, x4, x5, x6, x7⟩ | exact z0 | exact ⟨(hc6 _ lg5).trans z0.1, (hc6 _ l95).trans z0.2.1, (hc6 _ l95).trans z0.2.2.1, (hc6 _ l95).trans z0.2.2.2.1, (hc6 _ l95).trans z0.2.2.2.2.1, (hc6 _ l95).trans z0.2.2.2.2.2.1, (hc6 _ l95).trans z0.2.2.2.2.2.2.1, (hc6 _ l95).trans z0.2.2.2.2.2.2.2.1, (hc6 _ l95).trans z0.2.2.2.2.2.2.2.2⟩)
              (first | ((with_reducible refine hCl.mono ?_); rintro e w8 ⟨r8, q8, rfl, hor, hoq, hb8⟩; have z0 : w8.cell? ⟨g, 1, none⟩ = some (.map (some b2)) ∧ w8.cell? ⟨g11, 0, none⟩ = some (.int .i64 x.t.c) ∧ w8.cell? ⟨g11, 1, none⟩ = some (.int .i64 x.t.l) ∧ w8.cell? ⟨g11, 2, none⟩ = some (.int .i64 x.t.s) ∧ w8.cell? ⟨g11, 3, none⟩ = some (.int .i64 x.s.w) ∧ w8.cell? ⟨g11, 4, none⟩ = some (.int .i64 x.s.l) ∧ w8.cell? ⟨g11, 5, none⟩ = some (.int .i64 x.s.n) ∧ w8.cell? ⟨g11, 6, none⟩ = some (.slice A3 n3 c3) ∧ w8.cell? ⟨g11, 7, none⟩ = some (.slice A4 n4 c4) := ⟨(hb8.cell (p := ⟨_, _, none⟩) lg).trans y1, (hb8.cell (p := ⟨_, _, none⟩) l11).trans x0, (hb8.cell (p := ⟨_, _, none⟩) l11).trans x1, (hb8.cell (p := ⟨_, _, none⟩) l11).trans x2, (hb8.cell (p := ⟨_, _, none⟩) l11).trans x3, (hb8.cell (p := ⟨_, _, none⟩) l11).trans x4, (hb8.cell (p := ⟨_, _, none⟩) l11).trans x5, (hb8.cell (p := ⟨_, _, none⟩) l11).trans x6, (hb8.cell (p := ⟨_, _, none⟩) l11).trans x7⟩; have lg5 : g < w8.heap.size := Nat.lt_of_lt_of_le lg hb8.size; have l95 : g11 < w8.heap.size := Nat.lt_of_lt_of_le l11 hb8.size; obtain ⟨w9, hrun, hst9, hg9', hc6⟩ := (hst7.below (Below.trans (Below.refl _ _).drew hb8)).put2 hxt hxs (by unfold maxLen; omega) (hor.sl (by omega) ky_len HX.out) (hoq.sl (by omega) wt_len HY.out) hn))
            have hw8 : Below w.heap.size w w8 := hbw7.drew.trans (hb8.mono hbw7.size)
            have hw9 : Below w.heap.size w w9 := hw8.grown hg9' hw8.size (by intro q hq; injection hq with hq; rw [← hq]; exact hst9.b20)
            clear x0 x1 x2 x3 x4 x5 x6 x7 y1 z0 hrun hCl hc6
            go_wp2
            go_roundw
            case rel =>
              refine ⟨k2 + 1, by omega, by go_num, HT.out, ?_, hw9⟩
              rw [HK.out]
              exact hst9
            case measure => simp [intOf]; omega
          · have hpn : (pe != 0) = true := by simp [hp0]
            have HF := Lib.hid (show loadE H Q = pe by rw [hL, ← hs, if_pos hp0])
            clear hs
            go_wp2
            go_ret2
            rw [HF.out]
            exact ⟨_, rfl, hbw5⟩
        · have hd1 : decide ((k2 : Int) < (n2 : Int)) = false := by simp; omega
          have HF := Lib.hid (show loadE H Q = 0 by rw [hL, ← hs, List.drop_of_length_le (by omega)]; rfl)
          clear hs hL
          go_wp2
          go_ret2
          rw [HF.out]
          exact ⟨_, rfl, hb⟩
end Go.Proofs.YtipacjbegfingaaGreat
