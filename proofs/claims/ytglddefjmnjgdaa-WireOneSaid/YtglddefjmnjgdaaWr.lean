/- Words for a writer: a block of one slice of bytes; what an append onto it leaves; append of a string. -/
import Derived.Test.YtglddefjmnjgdaaAp
import Derived.Test.YtglddefjmnjgdaaEnc
import Derived.OneCell
import Derived.Lib.AppendStr
import Derived.Lib.OwnKind
import Derived.Deep.MidRow
import Derived.Test.YtglddefjmnjgdaaProg
namespace Go.Proofs.Ytglddefjmnjgdaa
open Go.RowKit

/-- bytes as cells -/
abbrev bytesV (l : List UInt8) : List Value := l.map fun c => .int .u8 (c.toNat : Int)
theorem bytesV_one (l : List UInt8) : ∀ u ∈ bytesV l, u.oneCell' = true := by
  intro u hu
  obtain ⟨b, _, rfl⟩ := List.mem_map.1 hu
  rfl
theorem bytesV_len (l : List UInt8) : (bytesV l).length = l.length := by simp

/-- block g is a writer that has written bs; v is its slice -/
def Wr (w : World) (B g : Nat) (v : Value) (bs : List UInt8) : Prop := B ≤ g ∧ Blk w g 65 #[v] ∧ w.ownsRow B 5 1 v bs.length (bytesV bs)

/-- what a writer's functions turn: its block, its row, what is new -/
structure Foot (w w' : World) (g : Nat) (v v' : Value) : Prop where
  os : w'.os = w.os
  tape : w'.tape = w.tape
  output : w'.output = w.output
  size : w.heap.size ≤ w'.heap.size
  block : ∀ k, k < w.heap.size → k ≠ g → some k ≠ v.ownBlock → w'.heap[k]? = w.heap[k]?
  own : v'.ownBlock = v.ownBlock ∨ ∃ k, v'.ownBlock = some k ∧ w.heap.size ≤ k

theorem Foot.refl (w : World) (g : Nat) (v : Value) : Foot w w g v v := ⟨rfl, rfl, rfl, Nat.le_refl _, fun _ _ _ _ => rfl, .inl rfl⟩
theorem Foot.trans {w w1 w2 : World} {g : Nat} {v v1 v2 : Value} (h : Foot w w1 g v v1) (k : Foot w1 w2 g v1 v2) : Foot w w2 g v v2 := by
  refine ⟨k.os.trans h.os, k.tape.trans h.tape, k.output.trans h.output, Nat.le_trans h.size k.size, fun i hi h1 h2 => (k.block i (Nat.lt_of_lt_of_le hi h.size) h1 ?_).trans (h.block i hi h1 h2), ?_⟩
  · rcases h.own with e | ⟨j, e, hj⟩
    · rw [e]; exact h2
    · rw [e]; intro e2; cases e2; omega
  · rcases k.own with e | ⟨j, e, hj⟩
    · rw [e]; exact h.own
    · exact .inr ⟨j, e, Nat.le_trans h.size hj⟩

section
variable {w w' X w1 : World} {B g : Nat} {v v' v1 : Value} {bs more : List UInt8}
theorem Wr.ge (h : Wr w B g v bs) : B ≤ g := h.1
theorem Wr.lt (h : Wr w B g v bs) : g < w.heap.size := h.2.1.lt
theorem Wr.blk (h : Wr w B g v bs) : Blk w g 65 #[v] := h.2.1
theorem Wr.row (h : Wr w B g v bs) : w.ownsRow B 5 1 v bs.length (bytesV bs) := h.2.2
theorem Wr.own_ge (h : Wr w B g v bs) : ∀ k, v.ownBlock = some k → B ≤ k := fun k hk => (h.row.lt k hk).1
theorem Wr.own_lt (h : Wr w B g v bs) : ∀ k, v.ownBlock = some k → k < w.heap.size := fun k hk => (h.row.lt k hk).2
theorem Wr.own_ne (h : Wr w B g v bs) : v.ownBlock ≠ some g := by
  intro e
  obtain ⟨c, fz, hc⟩ := Go.Lib.ownsRow_kind h.row g e
  have := h.blk
  unfold Blk at this
  rw [this] at hc
  simp at hc
theorem Wr.below (h : Wr w B g v bs) (hb : Below w.heap.size w w') : Wr w' B g v bs :=
  ⟨h.1, h.blk.below hb h.lt, h.row.kept (row := none) ⟨hb.os, hb.tape, hb.output, hb.size, fun k hk _ => hb.block k hk⟩ (by cases v.ownBlock <;> simp)⟩
theorem Foot.below (hf : Foot w w' g v v') (h : Wr w B g v bs) : Below B w w' :=
  ⟨hf.os, hf.tape, hf.output, hf.size, fun k hk => hf.block k (by have := h.lt; have := h.ge; omega) (by have := h.ge; omega) (fun e => by have := h.own_ge k e.symm; omega)⟩
/-- another writer is left as it is -/
theorem Wr.far {g2 : Nat} {v2 : Value} {b2 : List UInt8} (h2 : Wr w B g2 v2 b2) (hf : Foot w w' g v v') (hg : g2 ≠ g) (h3 : some g2 ≠ v.ownBlock) (h4 : v2.ownBlock ≠ some g) (h5 : v2.ownBlock = none ∨ v2.ownBlock ≠ v.ownBlock) : Wr w' B g2 v2 b2 := by
  refine ⟨h2.1, (hf.block g2 h2.lt hg h3).trans h2.blk, ?_⟩
  obtain ⟨h6, h7⟩ := h2.row
  refine ⟨h6, ?_⟩
  rcases h7 with h7 | ⟨k, cap, cur, e, hk, hh, r⟩
  · exact .inl h7
  · subst e
    refine .inr ⟨k, cap, cur, rfl, hk, ?_, r⟩
    rw [hf.block k (Array.getElem?_eq_some_iff.1 hh).1 (fun e => h4 (by simp [Value.ownBlock, e])) (by simpa [Value.ownBlock] using h5)]
    exact hh
/-- after an append onto its slice, stored in it -/
theorem Wr.app (h : Wr w B g v bs) (hb : Below w.heap.size w X) (hown : w1.ownsRow B 5 1 v1 (bs.length + more.length) (bytesV bs ++ bytesV more)) (hg : X.grownBy w1 v.ownBlock) (hat : v1.ownBlock = v.ownBlock ∨ v1.ownBlock = some X.heap.size) :
    Wr (w1.setCell ⟨g, 0, none⟩ v1) B g v1 (bs ++ more) ∧ Foot w (w1.setCell ⟨g, 0, none⟩ v1) g v v1 := by
  have hz := hb.size
  have hgl := h.lt
  have hne : v1.ownBlock ≠ some g := by
    rcases hat with e | e
    · rw [e]; exact h.own_ne
    · rw [e]; intro e2; cases e2; omega
  have hblk : Blk w1 g 65 #[v] := (h.blk.below hb hgl).grown hg (fun e => h.own_ne e.symm)
  refine ⟨⟨h.1, ?_, ?_⟩, ⟨?_, ?_, ?_, ?_, ?_, ?_⟩⟩
  · exact hblk.set_ 0 v1
  · rw [List.length_append, bytesV, List.map_append]
    exact ownsRow_setCell_other hown hne v1
  · exact hg.os.trans hb.os
  · exact hg.tape.trans hb.tape
  · exact hg.output.trans hb.output
  · rw [show (w1.setCell ⟨g, 0, none⟩ v1).heap.size = w1.heap.size from by simp [World.setCell]]
    exact Nat.le_trans hz hg.size
  · intro k hk h1 h2
    rw [Below.heap_setCell _ _ _ _ (by simpa using h1), hg.block k (by omega) h2, hb.block k hk]
  · rcases hat with e | e
    · exact .inl e
    · exact .inr ⟨_, e, hz⟩
/-- what the walk asks of the writer's block behind an append -/
theorem Wr.mid (h : Wr w B g v bs) (hb : Below w.heap.size w X) (hg : X.grownBy w1 v.ownBlock) : w1.cell? ⟨g, 0, none⟩ = some v ∧ w1.frozen? ⟨g, 0, none⟩ = false := by
  have hblk : Blk w1 g 65 #[v] := (h.blk.below hb h.lt).grown hg (fun e => h.own_ne e.symm)
  exact ⟨hblk.cell 0, hblk.frozen 0⟩
/-- a new writer -/
theorem Wr.new (w : World) : Wr (w.alloc (.cells #[.slice none 0 0] 65)) w.heap.size w.heap.size (.slice none 0 0) [] :=
  ⟨Nat.le_refl _, Blk.new w _ _, World.ownsRow_nil _ _ _ _⟩
theorem Wr.down (h : Wr w B g v bs) {B' : Nat} (hB : B' ≤ B) : Wr w B' g v bs :=
  ⟨Nat.le_trans hB h.1, h.2.1, by
    obtain ⟨h6, h7⟩ := h.row
    refine ⟨h6, ?_⟩
    rcases h7 with h7 | ⟨k, cap, cur, e, hk, r⟩
    · exact .inl h7
    · exact .inr ⟨k, cap, cur, e, Nat.le_trans hB hk, r⟩⟩
end

theorem reads_new (w : World) (t : TypeId) (cs : List Value) (k : Nat) (h : cs.length = k) : Reads (w.alloc (.cells cs.toArray t)) (w.heap.size + 1) k (some ⟨w.heap.size, 0, none⟩) 1 cs := by
  refine ⟨by rw [h, Nat.one_mul], fun _ => ⟨_, rfl, by simp, fun j u hj => ?_⟩⟩
  rw [Addr.add_mid, Nat.zero_add, (Blk.new w t cs.toArray).cell]
  simpa using hj
theorem u8_info : (Try.prog.info? 5).map (fun i => (i.zero, i.size, i.bytes)) = some (some (.int .u8 0), 1, 1) := by kernel_rfl
theorem info_parts {P : Program} {t : TypeId} {z : Value} {s b : Nat} (h : (P.info? t).map (fun i => (i.zero, i.size, i.bytes)) = some (some z, s, b)) : ∃ i, P.info? t = some i ∧ i.zero = some z ∧ i.size = s ∧ i.bytes = b := by
  cases hi : P.info? t with
  | none => rw [hi] at h; cases h
  | some i =>
    rw [hi] at h
    simp only [Option.map_some, Option.some.injEq, Prod.mk.injEq] at h
    exact ⟨i, rfl, h.1, h.2.1, h.2.2⟩

section
variable {P : Program} (w : World)
theorem run_append_str_any (base : Nat) (t u ty e : TypeId) (i : TypeInfo) (ht : P.underlying t = some (.slice e)) (hu : P.underlying u = some .string) (hi : P.info? e = some i) (hz : i.zero = some (.int .u8 0))
    (hsize : i.size = 1) (hby : i.bytes = 1)
    (v : Value) (n : Nat) (xs : List Value) (hown : w.ownsRow base e 1 v n xs) (s : ByteArray)
    (h63 : n + s.size ≤ maxLen) (hbytes : n + s.size ≤ 140737488355328) (hbase : base ≤ w.heap.size) :
    ∃ v' w', (Builtin.append_ #[t, u] ty #[v, .string s]).run P w = .ok v' w' ∧ w'.ownsRow base e 1 v' (n + s.size) (xs ++ Go.Lib.strCells s) ∧ w.grownBy w' v.ownBlock ∧
      (v'.ownBlock = v.ownBlock ∨ v'.ownBlock = some w.heap.size) := by
  obtain ⟨v', w', hr, h2, h3, h4⟩ := Go.Lib.run_append_own_string (P := P) w base t u ty e i ht hu hi hz hsize hby v n xs hown s h63 hbytes hbase
  refine ⟨v', w', hr, h2, h3, ?_⟩
  have hsmall : n + s.size ≤ 9223372036854775807 := by simp only [maxLen] at h63; omega
  have hxl : xs.length = n := by simpa using hown.1
  rcases hown.2 with ⟨rfl, rfl⟩ | ⟨g, cap, cur, rfl, hbg, hg, hnc, hcm, hcs, htake⟩
  · by_cases hm : s.size = 0
    · rw [h4.2 ⟨rfl, hm⟩]; exact .inl rfl
    · have hr2 := Go.run_append_nil_string (P := P) w t u ty e i (.int .u8 0) ht hu hi hz s (by omega) (by omega) (by rw [hby]; omega)
      rw [hr2] at hr
      injection hr with e1 e2
      rw [← e1]
      exact .inr rfl
  · by_cases hroom : n + s.size ≤ cap
    · have hcs' : cur.size = cap := by simpa using hcs
      have hr2 := Go.Lib.run_append_room_string (P := P) w t u ty e i ht hu hi hsize g n cap cur hg s hroom (by omega)
      rw [hr2] at hr
      injection hr with e1 e2
      rw [← e1]
      exact .inl rfl
    · have holds : ∀ j u, xs[j]? = some u → w.cell? ((⟨g, 0, none⟩ : Addr).add j) = some u := hown.cells (g := g) rfl
      have hr2 := Go.Lib.run_append_grow_string (P := P) w t u ty e i (.int .u8 0) ht hu hi hz ⟨g, 0, none⟩ n cap xs (by rw [hsize]; simpa using hxl) holds s (by omega) (by omega) (by rw [hby]; exact growslice_fits (by omega) (by omega))
      rw [hr2] at hr
      injection hr with e1 e2
      rw [← e1]
      exact .inr rfl
theorem wpList_append_str {ops : Array Oper} {rest : List Oper} {o : Oper} {a : Act} {Q : Exit → Act → World → Prop} (hgd : o.guard = none) (sl x : Operand) (t u : TypeId)
    (ho : o.op = .call { callee := .builtin .append, args := #[sl, x], argTypes := #[t, u] })
    (base : Nat) (e : TypeId) (i : TypeInfo) (ht : P.underlying t = some (.slice e)) (hu : P.underlying u = some .string) (hi : P.info? e = some i) (hz : i.zero = some (.int .u8 0))
    (hsize : i.size = 1) (hby : i.bytes = 1)
    (v : Value) (n : Nat) (xs : List Value) (hs : a.eval sl = v) (hown : w.ownsRow base e 1 v n xs) (s : ByteArray) (hx : a.eval x = .string s)
    (h63 : n + s.size ≤ maxLen) (hbytes : n + s.size ≤ 140737488355328) (hbase : base ≤ w.heap.size)
    (h : ∀ v' w', w'.ownsRow base e 1 v' (n + s.size) (xs ++ Go.Lib.strCells s) → w.grownBy w' v.ownBlock → (v'.ownBlock = v.ownBlock ∨ v'.ownBlock = some w.heap.size) → wpList P ops Q rest (a.put o.dst v') w') : wpList P ops Q (o :: rest) a w := by
  refine wpList_plain hgd fun K hK => ?_
  obtain ⟨v', w', hr, h2, h3, h4⟩ := run_append_str_any (P := P) w base t u o.type e i ht hu hi hz hsize hby v n xs hown s h63 hbytes hbase
  unfold Oper.wp execOp
  simp only [ho, resolve, invoke, builtin, Sem.run_bind, Sem.run_pure, Result.andThen_ok, List.map_toArray, List.map_cons, List.map_nil, hs, hx, hr]
  exact hK _ _ (h v' w' h2 h3 h4)
end
end Go.Proofs.Ytglddefjmnjgdaa
