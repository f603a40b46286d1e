/- Rows of writes of the call's own; the walks of Halve, of the program and of the document's answer. -/
import Derived.Test.YtipacjbegfingaaCm
import Derived.Laws.OwnMore
namespace Go.Proofs.Ytipacjbegfingaa
open Go.RowKit Fl
attribute [local go_sem] run_store_float

theorem info_parts {P : Program} {t : TypeId} {z : Value} {s b : Nat} (h : (P.info? t).map (fun i => (i.zero, i.size, i.bytes)) = some (some z, s, b)) : ∃ i, P.info? t = some i ∧ i.zero = some z ∧ i.size = s ∧ i.bytes = b := by
  cases hi : P.info? t with
  | none => rw [hi] at h; cases h
  | some i =>
    rw [hi] at h
    simp only [Option.map_some, Option.some.injEq, Prod.mk.injEq] at h
    exact ⟨i, rfl, h.1, h.2.1, h.2.2⟩
theorem wt_info : (Try.prog.info? 96).map (fun i => (i.zero, i.size, i.bytes)) = some (some (.agg #[.string ⟨#[]⟩, .int .i64 0, .float .f64 0, .string ⟨#[]⟩]), 4, 48) := by kernel_rfl
theorem reads_new' (w : World) (t : TypeId) (cs : List Value) (k : Nat) (h : cs.length = k) : Reads (w.alloc (.cells cs.toArray t)) (w.heap.size + 1) k (some ⟨w.heap.size, 0, none⟩) 1 cs := by
  refine ⟨by rw [h, Nat.one_mul], fun _ => ⟨_, rfl, by simp, fun j u hj => ?_⟩⟩
  rw [Addr.add_mid, Nat.zero_add, (Blk.new w t cs.toArray).cell]
  simpa using hj

/-- the rows of two slices are not one -/
def Dis (v v2 : Value) : Prop := ∀ k, v.ownBlock = some k → v2.ownBlock ≠ some k
theorem Dis.symm {v v2 : Value} (h : Dis v v2) : Dis v2 v := fun k e e2 => h k e2 e
theorem Dis.nil (v : Value) : Dis v (.slice none 0 0) := fun k _ e => by simp [Value.ownBlock] at e
/-- a row of structs of the call's own, from block base on -/
def OwnL {α : Type} (f : α → List Value) (E size base : Nat) (w : World) (v : Value) (l : List α) : Prop := w.ownsRow base E size v l.length (l.flatMap f)
section
variable {α : Type} {f : α → List Value} {E size base : Nat} {w w' X w1 : World} {v v1 v2 : Value} {l m : List α}
theorem OwnL.below (h : OwnL f E size base w v l) (hb : Below w.heap.size w w') : OwnL f E size base w' v l :=
  h.kept (row := none) ⟨hb.os, hb.tape, hb.output, hb.size, fun k hk _ => hb.block k hk⟩ (by cases v.ownBlock <;> simp)
theorem OwnL.nil (w : World) : OwnL f E size base w (.slice none 0 0) [] := World.ownsRow_nil _ _ _ _
theorem OwnL.form (h : OwnL f E size base w v l) : ∃ A c, v = .slice A l.length c ∧ l.length ≤ c ∧ c ≤ maxLen := own_form h
/-- one more -/
theorem OwnL.push (a : α) (hown : w1.ownsRow base E size v1 (l.length + 1) (l.flatMap f ++ f a)) : OwnL f E size base w1 v1 (l ++ [a]) := by
  unfold OwnL
  rw [List.length_append, List.flatMap_append]
  simpa using hown
theorem OwnL.beside (h2 : OwnL f E size base w v2 m) (hg : w.grownBy w' v.ownBlock) (hd : Dis v v2) : OwnL f E size base w' v2 m :=
  h2.kept hg (by
    cases e : v2.ownBlock with
    | none => exact .inl rfl
    | some k => exact .inr fun e2 => hd k e2.symm e)
theorem Dis.push (h2 : OwnL f E size base w v2 m) (hd : Dis v v2) (hat : v1.ownBlock = v.ownBlock ∨ v1.ownBlock = some w.heap.size) : Dis v1 v2 := by
  intro k e e2
  rcases hat with e3 | e3
  · exact hd k (e3.symm.trans e) e2
  · have := (h2.lt k e2).2
    rw [e3] at e; injection e; omega
theorem OwnL.sl {cells : α → List Value} {ok : α → Prop} (hk : 0 < size) (hf : ∀ a, (cells a).length = size) (h : OwnL cells E size base w v l) (hok : ∀ a ∈ l, ok a) : HdRel (Flat cells ok) size w w.heap.size v l := by
  obtain ⟨A, c, rfl, h1, h2⟩ := h.form
  exact ⟨A, _, c, rfl, h1, h2, (Reads.of_own h).sl hk hf hok rfl⟩
end

def belowB (k : ByteArray) (p : Nat) : Bool := flt (ofB k) p
def halveL (l : List Wt) (p : Nat) : List Wt := l.filter fun a => belowB a.key p
def halveR (l : List Wt) (p : Nat) : List Wt := l.filter fun a => !belowB a.key p
theorem halve_snoc {l : List Wt} {k : Nat} {a : Wt} (p : Nat) (h : l[k]? = some a) :
    (belowB a.key p = true → halveL (l.take (k + 1)) p = halveL (l.take k) p ++ [a] ∧ halveR (l.take (k + 1)) p = halveR (l.take k) p) ∧
    (belowB a.key p = false → halveL (l.take (k + 1)) p = halveL (l.take k) p ∧ halveR (l.take (k + 1)) p = halveR (l.take k) p ++ [a]) := by
  unfold halveL halveR
  rw [List.take_add_one, h, List.filter_append, List.filter_append]
  constructor
  · intro hb; simp [hb]
  · intro hb; simp [hb]

def Halves (w : World) (a b : List Wt) (v1 v2 : Value) (w' : World) : Prop :=
  OwnL Wt.cells 96 4 w.heap.size w' v1 a ∧ OwnL Wt.cells 96 4 w.heap.size w' v2 b ∧ Dis v1 v2 ∧ Below w.heap.size w w'
def HalvePost (w : World) (a b : List Wt) : Ending → World → Prop := fun e w' => ∃ v1 v2, e = .returned (.tuple #[v1, v2]) ∧ Halves w a b v1 v2 w'
def HalveRel (w : World) (l : List Wt) (p : Nat) (v1 v2 i : Value) (wr : World) : Prop := ∃ k : Nat, k ≤ l.length ∧ i = .int .i64 (k : Int) ∧ Halves w (halveL (l.take k) p) (halveR (l.take k) p) v1 v2 wr

set_option maxRecDepth 100000 in
set_option maxHeartbeats 8000000 in
theorem halve_any (A : Option Addr) (n c : Nat) (l : List Wt) (p : Nat) (w : World) (h : Sl WtRel 4 w w.heap.size A n l) (hn : n ≤ 1000000) :
    Calls Try.prog 22 #[.slice A n c, .float .f64 p] w (HalvePost w (halveL l p) (halveR l p)) := by
  obtain ⟨i0, hi0, hz0, hz1, hz2⟩ := info_parts wt_info
  have hl := h.1
  have hle : l.length ≤ n := by omega
  have hge : n ≤ l.length := by omega
  clear hl
  go_enter Try.func22, Try.ntmps22
  go_wp2
  go_loopw [4, 5, 10] (fun v1 v2 i wr => HalveRel w l p v1 v2 i wr) (fun _ _ i _ => n - (intOf i).toNat)
  case atStart => exact ⟨0, by omega, rfl, OwnL.nil _, OwnL.nil _, Dis.nil _, Below.refl _ _⟩
  case round =>
    obtain ⟨k, hk, rfl, ho1, ho2, hdis, hb⟩ := hrel
    have hzz := hb.size
    have hf1 : (halveL (l.take k) p).length ≤ 1000000 := by
      have h1 := List.length_filter_le (fun a : Wt => belowB a.key p) (l.take k)
      have h2 := List.length_take_le k l
      unfold halveL; omega
    have hf2 : (halveR (l.take k) p).length ≤ 1000000 := by
      have h1 := List.length_filter_le (fun a : Wt => !belowB a.key p) (l.take k)
      have h2 := List.length_take_le k l
      unfold halveR; omega
    by_cases hlt : k < n
    · obtain ⟨ad, a, rfl, ha, hbk, hok, c0, c1, c2, c3⟩ := (h.below WtRel.kept hb).wt hlt
      have hd1 : decide ((k : Int) < (n : Int)) = true := by simp; omega
      have hsn := halve_snoc p ha
      have hokk := reach_max hok.1
      clear ha
      obtain ⟨A1, q1, rfl, hq1, hq1m⟩ := ho1.form
      obtain ⟨A2, q2, rfl, hq2, hq2m⟩ := ho2.form
      generalize halveL (l.take k) p = a1 at *
      generalize halveR (l.take k) p = a2 at *
      cases hbel : belowB a.key p
      · have HS := Lib.hid (hsn.2 hbel)
        have hlt2 : (FloatKind.f64.format.order (ofB a.key) p == some Ordering.lt) = false := hbel
        clear hsn hbel
        have hX := ((Below.refl wr.heap.size wr).alloc (Nat.le_refl _) (.cells a.cells.toArray 96)).alloc (by simp) (.cells a.cells.toArray 96)
        have hown0 := ho2.below hX
        have hrd0 := reads_new' (wr.alloc (.cells a.cells.toArray 96)) 96 a.cells 4 rfl
        rw [show (wr.alloc (.cells a.cells.toArray 96)).heap.size = wr.heap.size + 1 from by simp] at hrd0
        have hsz0 : ((wr.alloc (.cells a.cells.toArray 96)).alloc (.cells a.cells.toArray 96)).heap.size = wr.heap.size + 2 := by simp
        go_wp2_with (first
          | ((with_reducible refine (of_any _ _ hokk).mono ?_); rintro e w1 ⟨rfl, rfl⟩)
          | (at_builtin
             refine wpList_append_any _ rfl (.tmp 23) (.tmp 25) _ rfl w.heap.size 96 i0 _ 4 48 Try.underlying45 hi0 hz0 hz1 hz2 rfl (by omega) (.slice A2 a2.length q2) _ (a2.flatMap Wt.cells) (by rfl) hown0 _ (some ⟨wr.heap.size + 1, 0, none⟩) 1 1 a.cells (by rfl)
               hrd0 (wt_one a) (by unfold maxLen; omega) (by omega) (by simp; omega) ?_
             intro v3 w3 hown3 hg3 hat3
             obtain ⟨A3, q3, rfl, hq3, hq3m⟩ := own_form hown3))
        have hp := OwnL.push a hown3
        have hbw := (hb.trans (hX.mono hzz)).grown hg3 (by simp; omega) (fun q hq => (hown0.lt q hq).1)
        have ho1' := (ho1.below hX).beside hg3 hdis.symm
        have hdis' := hdis.symm.push (ho1.below hX) hat3
        go_roundw
        case rel =>
          refine ⟨k + 1, by omega, by go_num, ?_⟩
          rw [HS.out.1, HS.out.2]
          exact ⟨ho1', hp, hdis'.symm, hbw⟩
        case measure => simp [intOf]; omega
      · have HS := Lib.hid (hsn.1 hbel)
        have hlt2 : (FloatKind.f64.format.order (ofB a.key) p == some Ordering.lt) = true := hbel
        clear hsn hbel
        have hX := ((Below.refl wr.heap.size wr).alloc (Nat.le_refl _) (.cells a.cells.toArray 96)).alloc (by simp) (.cells a.cells.toArray 96)
        have hown0 := ho1.below hX
        have hrd0 := reads_new' (wr.alloc (.cells a.cells.toArray 96)) 96 a.cells 4 rfl
        rw [show (wr.alloc (.cells a.cells.toArray 96)).heap.size = wr.heap.size + 1 from by simp] at hrd0
        have hsz0 : ((wr.alloc (.cells a.cells.toArray 96)).alloc (.cells a.cells.toArray 96)).heap.size = wr.heap.size + 2 := by simp
        go_wp2_with (first
          | ((with_reducible refine (of_any _ _ hokk).mono ?_); rintro e w1 ⟨rfl, rfl⟩)
          | (at_builtin
             refine wpList_append_any _ rfl (.tmp 19) (.tmp 21) _ rfl w.heap.size 96 i0 _ 4 48 Try.underlying45 hi0 hz0 hz1 hz2 rfl (by omega) (.slice A1 a1.length q1) _ (a1.flatMap Wt.cells) (by rfl) hown0 _ (some ⟨wr.heap.size + 1, 0, none⟩) 1 1 a.cells (by rfl)
               hrd0 (wt_one a) (by unfold maxLen; omega) (by omega) (by simp; omega) ?_
             intro v3 w3 hown3 hg3 hat3
             obtain ⟨A3, q3, rfl, hq3, hq3m⟩ := own_form hown3))
        have hp := OwnL.push a hown3
        have hbw := (hb.trans (hX.mono hzz)).grown hg3 (by simp; omega) (fun q hq => (hown0.lt q hq).1)
        have ho2' := (ho2.below hX).beside hg3 hdis
        have hdis' := hdis.push (ho2.below hX) hat3
        go_roundw
        case rel =>
          refine ⟨k + 1, by omega, by go_num, ?_⟩
          rw [HS.out.1, HS.out.2]
          exact ⟨hp, ho2', hdis', hbw⟩
        case measure => simp [intOf]; omega
    · have hd1 : decide ((k : Int) < (n : Int)) = false := by simp; omega
      have he : l.take k = l := List.take_of_length_le (by omega)
      rw [he] at ho1 ho2
      obtain ⟨A1, q1, rfl, hq1, hq1m⟩ := ho1.form
      obtain ⟨A2, q2, rfl, hq2, hq2m⟩ := ho2.form
      clear he
      generalize halveL l p = a1 at *
      generalize halveR l p = a2 at *
      go_wp2
      go_ret2
      exact ⟨_, _, rfl, ho1, ho2, hdis, hb⟩
end Go.Proofs.Ytipacjbegfingaa
