/- The walk of the document's Load. -/
import Derived.Test.YtipacjbegfingaaKaae
import Derived.Test.YtipacjbegfingaaKabe
namespace Go.Proofs.Ytipacjbegfingaa
set_option linter.unusedVariables false
open Go.RowKit Fl
attribute [local go_sem] run_store_float

theorem Blk.two {w : World} {g : Nat} {t : TypeId} {a b : Value} (h : Blk w g t #[a, b]) : g < w.heap.size ∧ w.cell? ⟨g, 0, none⟩ = some a ∧ w.cell? ⟨g, 1, none⟩ = some b := ⟨h.lt, h.cell 0, h.cell 1⟩
theorem cmp_swap (a b : Sp) : decide (0 < a.cmp b) = decide (b.cmp a < 0) := by
  rw [decide_eq_decide, Sp.cmp_steps, Sp.cmp_steps]
  unfold ordI
  repeat' split
  all_goals omega
def rhistB (p : Option ByteArray) (h : Hs) : Bool := keyB h.key && (match p with | none => true | some q => !leB h.key q) && !decide (h.vs.length = 0) && versB ⟨0, 0, 0⟩ h.vs
def rhistsB : Option ByteArray → List Hs → Bool
  | _, [] => true
  | p, h :: l => rhistB p h && rhistsB (some h.key) l
/-- the key ahead of place k -/
def aheadH (l : List Hs) : Nat → Option ByteArray
  | 0 => none
  | k + 1 => (l[k]?).map (·.key)
theorem rhistsB_drop {l : List Hs} {k : Nat} {a : Hs} (h : l[k]? = some a) : rhistsB (aheadH l k) (l.drop k) =
    (keyB a.key && (match aheadH l k with | none => true | some q => !leB a.key q) && !decide (a.vs.length = 0) && versB ⟨0, 0, 0⟩ a.vs && rhistsB (aheadH l (k + 1)) (l.drop (k + 1))) := by
  have h1 := List.getElem?_eq_some_iff.1 h
  rw [List.drop_eq_getElem_cons h1.1, h1.2, show aheadH l (k + 1) = some a.key from by show (l[k]?).map (·.key) = _; rw [h]; rfl]
  rfl
/-- the pending ones, each put in its place -/
def putAll (l : List Pn) : List Pn := l.foldl putL []
theorem putAll_snoc (l : List Pn) (x : Pn) : putAll (l ++ [x]) = putL (putAll l) x := by unfold putAll; rw [List.foldl_append]; rfl
theorem putL_length (l : List Pn) (p : Pn) : (putL l p).length = l.length + 1 := by
  unfold putL
  have := congrArg List.length (List.takeWhile_append_dropWhile (p := fun x : Pn => x.t.less p.t) (l := l))
  simp only [List.length_append, List.length_cons] at *
  omega
theorem putAll_length (l : List Pn) : (putAll l).length = l.length := by
  have h : ∀ (l m : List Pn), (l.foldl putL m).length = m.length + l.length := by
    intro l
    induction l with
    | nil => intro m; rfl
    | cons a l ih => intro m; rw [List.foldl_cons, ih, putL_length, List.length_cons]; omega
  unfold putAll
  rw [h]
  simp
def rpendsE (H : List Hs) : List Pn → List Pn → Int
  | _, [] => 0
  | m, x :: l => if pendE x ≠ 0 then pendE x else if (0 : Int) ≤ whFrom x.t 0 (putAll m) then 9 else if lockedB m x then 18 else if roldB H x then 20 else rpendsE H (m ++ [x]) l
def rloadE (H : List Hs) (Q : List Pn) : Int := if rhistsB none H then rpendsE H [] Q else 4
theorem rpendsE_drop {H : List Hs} {l : List Pn} {k : Nat} {x : Pn} (h : l[k]? = some x) : rpendsE H (l.take k) (l.drop k) =
    if pendE x ≠ 0 then pendE x else if (0 : Int) ≤ whFrom x.t 0 (putAll (l.take k)) then 9 else if lockedB (l.take k) x then 18 else if roldB H x then 20 else rpendsE H (l.take (k + 1)) (l.drop (k + 1)) := by
  have h1 := List.getElem?_eq_some_iff.1 h
  rw [List.drop_eq_getElem_cons h1.1, h1.2, List.take_add_one, h]
  rfl
def RLoad1 (H : List Hs) (w : World) (i : Value) (wr : World) : Prop :=
  ∃ k : Nat, k ≤ H.length ∧ i = .int .i64 (k : Int) ∧ rhistsB (aheadH H k) (H.drop k) = rhistsB none H ∧ Blk wr w.heap.size 86 #[.slice none 0 0, .slice none 0 0, .int .i64 0, .int .i64 0, .int .i64 0] ∧ Below w.heap.size w wr
def RVersRel (a : Hs) (A : Option Addr) (n c : Nat) (w wo : World) (gh gl : Nat) (i : Value) (wr : World) : Prop :=
  ∃ (j : Nat) (q : Sp), j ≤ a.vs.length ∧ i = .int .i64 (j : Int) ∧ versB q (a.vs.drop j) = versB ⟨0, 0, 0⟩ a.vs ∧ Blk wr w.heap.size 86 #[.slice none 0 0, .slice none 0 0, .int .i64 0, .int .i64 0, .int .i64 0] ∧ Blk wr gh 76 #[.string a.key, .slice A n c] ∧ Blk wr gl 26 q.arr ∧ Below w.heap.size w wr ∧ Below wo.heap.size wo wr
theorem RSt.start {w1 : World} {g base : Nat} {v1 : Value} {H : List Hs} (hblk : Blk w1 g 86 #[.slice none 0 0, .slice none 0 0, .int .i64 0, .int .i64 0, .int .i64 0]) (hr : RowR HsRel 76 2 base (freeB base w1.heap.size v1 (.slice none 0 0)) w1 v1 H) (hg : g < base) :
    ∃ B1 m1 d1, v1 = .slice B1 m1 d1 ∧ RSt (w1.setCell ⟨g, 0, none⟩ v1) g B1 m1 d1 none 0 0 ⟨0, 0, 0⟩ H [] := by
  have hs : (w1.setCell ⟨g, 0, none⟩ v1).heap.size = w1.heap.size := by simp [World.setCell]
  have hbl : ∀ k, k ≠ g → (w1.setCell ⟨g, 0, none⟩ v1).heap[k]? = w1.heap[k]? := fun k hk => Below.heap_setCell _ _ _ _ hk
  have hcell : ∀ p : Addr, (only (nb g) (w1.setCell ⟨g, 0, none⟩ v1)).cell? p = (only (nb g) w1).cell? p := fun p => by
    cases hn : nb g p.block
    · rw [only_cell_out hn, only_cell_out hn]
    · rw [only_cell_in hn, only_cell_in hn]; exact World.cell?_of_block (hbl _ (nb_iff.1 hn))
  obtain ⟨A, n, c, rfl, h1, h2, h3⟩ := hr.held (K' := nb g) HsRel.mono (by omega) (fun k hk => nb_iff.2 (by have := (freeB_iff.1 hk).1; omega)) (fun k hk => nb_iff.2 (by have := (hr.lt k hk).1; omega))
  exact ⟨A, n, c, rfl, ⟨hblk.set_ 0 _, by rw [hs]; exact h3.keep HsRel.kept fun p _ => hcell p, by rw [hs]; exact ⟨rfl, fun i a hi => by simp at hi⟩, Nat.le_refl _, Nat.zero_le _, Nat.le_trans h1 h2, Nat.zero_le _⟩⟩
def RLoad4 (l : List Pn) (x : Pn) (wo : World) (i : Value) (wr : World) : Prop :=
  ∃ j : Nat, j ≤ l.length ∧ i = .int .i64 (j : Int) ∧ (l.drop j).any (fun y => clashB y x) = lockedB l x ∧ Below wo.heap.size wo wr

end Go.Proofs.Ytipacjbegfingaa
