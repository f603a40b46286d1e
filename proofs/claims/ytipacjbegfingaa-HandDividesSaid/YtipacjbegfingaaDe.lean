/- The store's two maps as plain words; New. -/
import Derived.Test.YtipacjbegfingaaDd
import Derived.Maps.RangeWalk
import Derived.DeepKeys4
namespace Go.Proofs.Ytipacjbegfingaa
open Go.RowKit Fl
attribute [local go_sem] run_store_float

/-- an element of a map, read as what it is -/
abbrev anyE : Value → Option (DataW Value × List MemPlace) := fun v => some (.held v, [])
theorem laidO : laidOutB Try.prog = true := by kernel_rfl
theorem kStr : Maps.Keyed Try.prog 9 := Maps.string_keyed Try.underlying9
theorem kTxn : Maps.Keyed Try.prog 43 := Maps.Keyed.of_law (deep_law_laid (m := 3) laidO (by omega) (of_decide_eq_true (by kernel_rfl)) (by kernel_rfl) (by kernel_rfl))
noncomputable def txl (t : Tx) : Lit := (keyOf Try.prog 43 t.val).getD .nil
theorem txl_of {t : Tx} (h : t.ok) : keyOf Try.prog 43 t.val = some (txl t) := by
  have hw : ∀ z, i64ok z → (Lit.int .i64 z).wf = true := fun z hz => by unfold i64ok at hz; simp [Lit.wf, IntKind.min, IntKind.max, IntKind.signed, IntKind.bits]; omega
  have e : keyOf Try.prog 43 t.val = some (.string (keyBytes [.int .i64 t.c, .int .i64 t.l, .int .i64 t.s])) := by
    unfold keyOf
    rw [Try.underlying43]
    have h1 : (Try.prog.keyType 43 && Value.formed Try.prog 43 t.val) = true := by kernel_rfl
    show (if _ then _ else _) = _
    rw [if_pos h1]
    obtain ⟨m, hm⟩ : ∃ m, Try.prog.types.size = m + 1 := ⟨Try.prog.types.size - 1, by
      have : 0 < Try.prog.types.size := of_decide_eq_true (by kernel_rfl)
      omega⟩
    rw [hm]
    have hc : Try.prog.cellsOf 43 = 3 := by kernel_rfl
    have hi : Try.prog.cellsOf 3 = 1 := by kernel_rfl
    simp [Program.keyLits, Try.underlying43, Try.underlying3, hc, hi, Value.cells, hw _ h.1, hw _ h.2.1, hw _ h.2.2]
  unfold txl
  rw [e]; rfl
theorem txl_inj {a b : Tx} (ha : a.ok) (hb : b.ok) (h : txl a = txl b) : a = b := by
  have h1 := txl_of ha
  have h2 := txl_of hb
  rw [h] at h1
  have := kTxn.inj h1 h2
  cases a; cases b
  simpa using this

/-- the versions of a key -/
def versOf (l : List Hs) (key : ByteArray) : List Vn := l.foldl (fun acc h => if h.key.toList == key.toList then h.vs else acc) []
theorem versOf_snoc (l : List Hs) (h : Hs) (key : ByteArray) : versOf (l ++ [h]) key = if h.key.toList == key.toList then h.vs else versOf l key := by
  unfold versOf
  rw [List.foldl_append]
  rfl
abbrev keyLit (k : ByteArray) : Lit := .string k.data.toList
abbrev zeroVs : DataW Value := .held (.slice none 0 0)
/-- the map of versions reads so -/
def KeysD (w : World) (B : Nat) (D : DataW Value) (l : List Hs) : Prop := ∀ key : ByteArray, ∃ v, D.atKey (keyLit key) zeroVs = .held v ∧ HdRel VnRel 6 w B v (versOf l key)
/-- the map of what is pending reads so -/
def PendD (w : World) (B : Nat) (D : DataW Value) (l : List Pn) : Prop :=
  (∀ kl, Maps.has D kl = true → ∃ p ∈ l, kl = txl p.t) ∧ ∀ p ∈ l, p.t.ok ∧ p.s.ok ∧ ∃ r q, (∀ zd, D.atKey (txl p.t) zd = .held (p.val r q)) ∧ HdRel KyRel 1 w B r p.r ∧ HdRel WtRel 4 w B q p.w
section
variable {w w' : World} {B B' : Nat} {D : DataW Value} {l : List Hs} {m : List Pn}
theorem KeysD.below (h : KeysD w B D l) (hb : Below B w w') : KeysD w' B D l := fun key => by
  obtain ⟨v, e, hv⟩ := h key
  exact ⟨v, e, hv.below VnRel.kept hb⟩
theorem KeysD.more (h : KeysD w B D l) (hB : B ≤ B') : KeysD w B' D l := fun key => by
  obtain ⟨v, e, hv⟩ := h key
  exact ⟨v, e, hv.more VnRel.kept hB⟩
theorem PendD.below (h : PendD w B D m) (hb : Below B w w') : PendD w' B D m := ⟨h.1, fun p hp => by
  obtain ⟨h1, h2, r, q, e, hr, hq⟩ := h.2 p hp
  exact ⟨h1, h2, r, q, e, hr.below KyRel.kept hb, hq.below WtRel.kept hb⟩⟩
theorem PendD.more (h : PendD w B D m) (hB : B ≤ B') : PendD w B' D m := ⟨h.1, fun p hp => by
  obtain ⟨h1, h2, r, q, e, hr, hq⟩ := h.2 p hp
  exact ⟨h1, h2, r, q, e, hr.more KyRel.kept hB, hq.more WtRel.kept hB⟩⟩
theorem KeysD.nil : KeysD w B (.map []) [] := fun _ => ⟨_, rfl, HdRel.nil⟩
theorem PendD.nil : PendD w B (.map []) [] := ⟨fun kl h => by simp [Maps.has] at h, fun p hp => by simp at hp⟩
theorem keyLit_inj {a b : ByteArray} (h : keyLit a = keyLit b) : a.toList = b.toList := by
  injection h with h
  rw [ByteArray.toList_eq, ByteArray.toList_eq, h]
theorem KeysD.put (h : KeysD w B D l) (hD : Maps.IsMap D) {x : Hs} {v : Value} (hv : HdRel VnRel 6 w B v x.vs) : KeysD w B (D.put (keyLit x.key) (.held v)) (l ++ [x]) := fun key => by
  rw [versOf_snoc]
  by_cases hk : x.key.toList = key.toList
  · have e : keyLit key = keyLit x.key := by rw [ByteArray.toList_eq, ByteArray.toList_eq] at hk; show Lit.string _ = Lit.string _; rw [hk]
    rw [e, Maps.atKey_put_same hD (show WideAt.IsKeyLit (keyLit x.key) from trivial)]
    refine ⟨v, rfl, ?_⟩
    simp only [hk, beq_self_eq_true, if_true]
    exact hv
  · obtain ⟨u, e, hu⟩ := h key
    refine ⟨u, ?_, ?_⟩
    · rw [Maps.atKey_put_other (fun e2 => hk (keyLit_inj e2).symm)]; exact e
    · simp only [beq_eq_false_iff_ne.2 hk, Bool.false_eq_true, if_false]
      exact hu
set_option maxRecDepth 100000 in
theorem PendD.put (h : PendD w B D m) (hD : Maps.IsMap D) {p : Pn} {r q : Value} (h1 : p.t.ok) (h2 : p.s.ok) (hr : HdRel KyRel 1 w B r p.r) (hq : HdRel WtRel 4 w B q p.w) (hn : ∀ x ∈ m, x.t ≠ p.t) :
    PendD w B (D.put (txl p.t) (.held (p.val r q))) (m ++ [p]) := by
  have hk : WideAt.IsKeyLit (txl p.t) := kTxn.key (txl_of h1)
  refine ⟨fun kl hkl => ?_, fun x hx => ?_⟩
  · by_cases e : kl = txl p.t
    · exact ⟨p, by simp, e⟩
    · rw [Maps.has_put_other e] at hkl
      obtain ⟨x, hx, e2⟩ := h.1 kl hkl
      exact ⟨x, by simp [hx], e2⟩
  · rcases List.mem_append.1 hx with hx | hx
    · obtain ⟨h3, h4, r', q', e, hr', hq'⟩ := h.2 x hx
      refine ⟨h3, h4, r', q', fun zd => ?_, hr', hq'⟩
      rw [Maps.atKey_put_other (fun e2 => hn x hx (txl_inj h3 h1 e2))]
      exact e zd
    · simp only [List.mem_cons, List.not_mem_nil, or_false] at hx
      subst hx
      exact ⟨h1, h2, r, q, fun zd => Maps.atKey_put_same hD hk _ _, hr, hq⟩
end

/-- a store: its block, its two maps; all from block base on -/
structure StoreW (w : World) (base g b1 b2 : Nat) (l : List Hs) (m : List Pn) : Prop where
  blk : Blk w g 132 #[.map (some b1), .map (some b2), .int .i64 0, .int .i64 0, .int .i64 0]
  g0 : base ≤ g
  b10 : base ≤ b1
  b20 : base ≤ b2
  ne : b1 ≠ b2
  ne1 : g ≠ b1
  ne2 : g ≠ b2
  ks : ∃ D, w.ownsMap Try.prog 9 anyE b1 l.length D ∧ KeysD w w.heap.size D l
  one : ∀ p ∈ m, ∀ p' ∈ m, p.t = p'.t → p = p'
  ps : ∃ D, w.ownsMap Try.prog 43 anyE b2 m.length D ∧ PendD w w.heap.size D m
theorem grownBy_below {w w' : World} (hb : Below w.heap.size w w') (row : Option Nat) : w.grownBy w' row := ⟨hb.os, hb.tape, hb.output, hb.size, fun k hk _ => hb.block k hk⟩
theorem StoreW.below {w w' : World} {base g b1 b2 : Nat} {l : List Hs} {m : List Pn} (h : StoreW w base g b1 b2 l m) (hb : Below w.heap.size w w') : StoreW w' base g b1 b2 l m := by
  obtain ⟨D1, o1, k1⟩ := h.ks
  obtain ⟨D2, o2, k2⟩ := h.ps
  exact ⟨h.blk.below hb h.blk.lt, h.g0, h.b10, h.b20, h.ne, h.ne1, h.ne2, ⟨D1, o1.kept (grownBy_below hb none) (by simp), (k1.below hb).more hb.size⟩, h.one, ⟨D2, o2.kept (grownBy_below hb none) (by simp), (k2.below hb).more hb.size⟩⟩

set_option maxHeartbeats 1000000 in
theorem new_store (w : World) : Calls Try.prog 82 #[] w fun e w' => ∃ g b1 b2, e = .returned (.pointer (some ⟨g, 0, none⟩)) ∧ StoreW w' w.heap.size g b1 b2 [] [] ∧ Below w.heap.size w w' := by
  have hmm := @run_makeMap Try.prog
  go_enter Try.func82, Try.ntmps82
  go_wp2
  go_ret
  refine ⟨_, w.heap.size, w.heap.size + 1, rfl, ⟨Blk.new' _ _ (by simp), by first | omega | (simp; omega), by first | omega | simp, by first | omega | simp, by first | omega | simp, by first | omega | (simp; omega), by first | omega | simp, ⟨.map [], ?_, KeysD.nil⟩, by simp, ⟨.map [], ?_, PendD.nil⟩⟩, (((Below.refl _ _).alloc (Nat.le_refl _) _).alloc (by simp) _).alloc (by simp; omega) _⟩
  · exact ((World.ownsMap_made w _ _ _).alloc _).alloc _
  · have h := (World.ownsMap_made (w.alloc (.map #[] 0)) Try.prog 43 anyE).alloc (.cells #[.map (some w.heap.size), .map (some (w.heap.size + 1)), .int .i64 0, .int .i64 0, .int .i64 0] 132)
    rw [show (w.alloc (.map #[] 0)).heap.size = w.heap.size + 1 from by simp] at h
    exact h
end Go.Proofs.Ytipacjbegfingaa
