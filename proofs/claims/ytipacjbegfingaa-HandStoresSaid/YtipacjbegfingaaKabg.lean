/- The document's Load answers what the program's Load answers: plain laws. -/
import Derived.Test.YtipacjbegfingaaKaaf
import Derived.Test.YtipacjbegfingaaKaag
import Derived.Test.YtipacjbegfingaaKabf
import Derived.Test.YtipacjbegfingaaKabh
namespace Go.Proofs.Ytipacjbegfingaa
set_option linter.unusedVariables false
open Go.RowKit Fl

theorem le_empty {k : ByteArray} (h : keyB k = true) : leB k ⟨#[]⟩ = false := by
  unfold keyB at h
  rw [Bool.and_eq_true, decide_eq_true_eq] at h
  have h1 : k.toList ≠ [] := fun e => by
    have : k.toList.length = 0 := by rw [e]; rfl
    rw [ByteArray.toList_eq, Array.length_toList] at this
    have h2 : k.size = 0 := this
    omega
  unfold leB
  rw [show (⟨#[]⟩ : ByteArray).toList = [] by rw [ByteArray.toList_eq]]
  cases hk : k.toList with
  | nil => exact absurd hk h1
  | cons a l => rfl
theorem rhistsB_some : ∀ (l : List Hs) (q : ByteArray), rhistsB (some q) l = histsB q l := by
  intro l
  induction l with
  | nil => intro q; rfl
  | cons a l ih => intro q; show (rhistB (some q) a && rhistsB (some a.key) l) = (histB q a && histsB a.key l); rw [ih]; rfl
theorem rhistsB_eq (H : List Hs) : rhistsB none H = histsB ⟨#[]⟩ H := by
  cases H with
  | nil => rfl
  | cons a l =>
    show (rhistB none a && rhistsB (some a.key) l) = (histB ⟨#[]⟩ a && histsB a.key l)
    rw [rhistsB_some]
    congr 1
    unfold rhistB histB
    cases hk : keyB a.key
    · rfl
    · rw [le_empty hk]; rfl
theorem hists_far : ∀ (l : List Hs) (q : ByteArray), histsB q l = true → ∀ a ∈ l, bl q a.key = true := by
  intro l
  induction l with
  | nil => intro q _ a ha; cases ha
  | cons b l ih =>
    intro q h a ha
    have h' : (histB q b && histsB b.key l) = true := h
    rw [Bool.and_eq_true] at h'
    rcases List.mem_cons.1 ha with rfl | ha
    · exact histB_lt h'.1
    · exact bl_trans (histB_lt h'.1) (ih _ h'.2 a ha)
theorem bl_irrefl (a b : ByteArray) (h : bl a b = true) : (a.toList == b.toList) = false := by
  rw [bl_le] at h
  unfold leB at h
  cases he : (b.toList == a.toList)
  · rw [Bool.beq_comm]; exact he
  · rw [he] at h; simp at h
theorem versOf_none : ∀ (l : List Hs) (key : ByteArray) (acc : List Vn), (∀ a ∈ l, (a.key.toList == key.toList) = false) → l.foldl (fun acc h => if h.key.toList == key.toList then h.vs else acc) acc = acc := by
  intro l
  induction l with
  | nil => intro _ _ _; rfl
  | cons a l ih =>
    intro key acc h
    rw [List.foldl_cons, h a (List.mem_cons_self ..)]
    exact ih key acc fun b hb => h b (List.mem_cons_of_mem _ hb)
theorem rvers_eq : ∀ (l : List Hs) (q key : ByteArray), histsB q l = true → rvers key l = versOf l key := by
  intro l
  induction l with
  | nil => intro _ _ _; rfl
  | cons a l ih =>
    intro q key h
    have h' : (histB q a && histsB a.key l) = true := h
    rw [Bool.and_eq_true] at h'
    cases he : (a.key.toList == key.toList)
    · have e1 : rvers key (a :: l) = rvers key l := by unfold rvers; rw [List.find?_cons, he]
      have e2 : versOf (a :: l) key = versOf l key := by unfold versOf; rw [List.foldl_cons, he]; rfl
      rw [e1, e2]
      exact ih _ _ h'.2
    · have e1 : rvers key (a :: l) = a.vs := by unfold rvers; rw [List.find?_cons, he]
      rw [e1]
      unfold versOf
      rw [List.foldl_cons, he]
      refine (versOf_none l key a.vs fun b hb => ?_).symm
      have e3 : a.key.toList = key.toList := by simpa using he
      rw [← e3, Bool.beq_comm]
      exact bl_irrefl _ _ (hists_far l _ h'.2 b hb)
theorem whFrom_any (t : Tx) : ∀ (l : List Pn) (i : Nat), decide ((0 : Int) ≤ whFrom t i l) = l.any fun y => decide (y.t = t) := by
  intro l
  induction l with
  | nil => intro i; rfl
  | cons a l ih =>
    intro i
    rw [List.any_cons, ← ih (i + 1)]
    by_cases h : a.t = t
    · have e : whFrom t i (a :: l) = (i : Int) := by unfold whFrom; simp [h]
      rw [e]
      simp [h]
    · have e : whFrom t i (a :: l) = whFrom t (i + 1) l := by rw [whFrom]; simp [h]
      rw [e]
      simp [h]
theorem putL_any (f : Pn → Bool) (l : List Pn) (p : Pn) : (putL l p).any f = (l.any f || f p) := by
  unfold putL
  rw [List.any_append, List.any_cons]
  have e : l.any f = ((l.takeWhile fun x => x.t.less p.t).any f || (l.dropWhile fun x => x.t.less p.t).any f) := by rw [← List.any_append, List.takeWhile_append_dropWhile]
  rw [e]
  cases f p <;> simp
theorem putAll_any (f : Pn → Bool) (l : List Pn) : (putAll l).any f = l.any f := by
  have h : ∀ (l m : List Pn), (l.foldl putL m).any f = (m.any f || l.any f) := by
    intro l
    induction l with
    | nil => intro m; simp
    | cons a l ih => intro m; rw [List.foldl_cons, ih, putL_any, List.any_cons, Bool.or_assoc]
  unfold putAll
  rw [h]
  rfl
theorem zero_cmp {s : Sp} (h1 : s.may = true) (h2 : s.zero = false) : ¬ (0 : Int) ≤ (⟨0, 0, 0⟩ : Sp).cmp s := by
  unfold Sp.may at h1
  simp only [Bool.and_eq_true, decide_eq_true_eq] at h1
  unfold Sp.zero at h2
  have h3 : ¬ (s.w = 0 ∧ s.l = 0 ∧ s.n = 0) := fun ⟨a, b, c⟩ => by rw [a, b, c] at h2; simp at h2
  unfold Sp.cmp ordI
  simp only
  repeat' split
  all_goals omega
theorem roldB_eq {H : List Hs} {x : Pn} {q : ByteArray} (hH : histsB q H = true) (hp : pendE x = 0) : roldB H x = oldB H x := by
  unfold roldB oldB
  congr 1
  funext a
  unfold roldF
  have h := pendE_zero.1 hp
  rw [← rvers_eq H q a.key hH]
  rcases at_vers a.key H with ⟨h1, h2⟩ | ⟨i, b, h1, h2, h3⟩
  · rw [h2]
    have e : decide ((0 : Int) ≤ (lastV []).s.cmp x.s) = false := decide_eq_false (zero_cmp h.2.1 h.2.2.1)
    rw [e, Bool.and_false]
  · rw [h1]
    have e : decide ((0 : Int) ≤ (i : Int)) = true := by simp
    rw [e, Bool.true_and]
theorem rpendsE_eq {H : List Hs} {q : ByteArray} (hH : histsB q H = true) : ∀ (l m : List Pn), rpendsE H m l = pendsE H m l := by
  intro l
  induction l with
  | nil => intro m; rfl
  | cons x l ih =>
    intro m
    have e1 : ((0 : Int) ≤ whFrom x.t 0 (putAll m)) ↔ (m.any fun y => decide (y.t = x.t)) = true := by
      rw [← putAll_any, ← whFrom_any x.t _ 0, decide_eq_true_eq]
    unfold rpendsE pendsE
    by_cases hp : pendE x = 0
    · have hpn : ¬ pendE x ≠ 0 := fun e => e hp
      simp only [if_neg hpn, roldB_eq hH hp, ih]
      by_cases h2 : (m.any fun y => decide (y.t = x.t)) = true
      · rw [if_pos (e1.2 h2), if_pos h2]
      · rw [if_neg (fun e => h2 (e1.1 e)), if_neg h2]
    · simp only [if_pos hp]
theorem rloadE_eq (H : List Hs) (Q : List Pn) : rloadE H Q = loadE H Q := by
  unfold rloadE loadE
  rw [rhistsB_eq]
  cases h : histsB ⟨#[]⟩ H
  · rfl
  · simp only [if_true]
    exact rpendsE_eq h Q []
end Go.Proofs.Ytipacjbegfingaa
/- Plain law of HandStores: a version more in its place; what is read at a stamp; both go through a choice of keys. -/
namespace Go.Proofs.Ytipacjbegfingaa
set_option linter.unusedVariables false
open Go.RowKit Fl

/-- a version in its place -/
def insV (v : Vn) (l : List Vn) : List Vn := l.takeWhile (fun x => decide (x.s.cmp v.s < 0)) ++ v :: l.dropWhile fun x => decide (x.s.cmp v.s < 0)
/-- one more version of a key, in histories that rise -/
def insH (k : ByteArray) (v : Vn) : List Hs → List Hs
  | [] => [⟨k, [v]⟩]
  | h :: t => if h.key.toList == k.toList then ⟨h.key, insV v h.vs⟩ :: t else if bl h.key k then h :: insH k v t else ⟨k, [v]⟩ :: h :: t
/-- the newest version not above a stamp -/
def lastUp (at_ : Sp) (l : List Vn) : Vn := lastV (l.filter fun v => decide (v.s.cmp at_ ≤ 0))
/-- what is read at a stamp -/
def atL (at_ : Sp) (H : List Hs) : List Wt := H.filterMap fun h => if (lastUp at_ (rvers h.key H)).v.k ≠ 0 then some ⟨h.key, (lastUp at_ (rvers h.key H)).v⟩ else none
/-- histories whose keys rise -/
def riseH : ByteArray → List Hs → Prop
  | _, [] => True
  | p, h :: t => bl p h.key = true ∧ riseH h.key t
theorem histsB_rise : ∀ (l : List Hs) (p : ByteArray), histsB p l = true → riseH p l := by
  intro l
  induction l with
  | nil => intro p _; trivial
  | cons a l ih =>
    intro p h
    have h' : (histB p a && histsB a.key l) = true := h
    rw [Bool.and_eq_true] at h'
    exact ⟨histB_lt h'.1, ih _ h'.2⟩
theorem riseH_weak {p q : ByteArray} (hpq : bl p q = true) {l : List Hs} (h : riseH q l) : riseH p l := by
  cases l with
  | nil => trivial
  | cons a l => exact ⟨bl_trans hpq h.1, h.2⟩
theorem riseH_mem : ∀ {l : List Hs} {p : ByteArray}, riseH p l → ∀ h ∈ l, bl p h.key = true := by
  intro l
  induction l with
  | nil => intro p _ h hh; cases hh
  | cons a l ih =>
    intro p h x hx
    rcases List.mem_cons.1 hx with rfl | hx
    · exact h.1
    · exact bl_trans h.1 (ih h.2 x hx)
theorem riseH_F (f : ByteArray → Bool) : ∀ (l : List Hs) (p : ByteArray), riseH p l → riseH p (hsF f l) := by
  intro l
  unfold hsF
  induction l with
  | nil => intro p _; trivial
  | cons a l ih =>
    intro p h
    by_cases hf : f a.key = true
    · rw [List.filter_cons_of_pos (by exact hf)]
      exact ⟨h.1, ih _ h.2⟩
    · rw [List.filter_cons_of_neg (by exact hf)]
      exact ih p (riseH_weak h.1 h.2)
theorem keys_eq {a b : ByteArray} : (a.toList == b.toList) = true ↔ a = b := ⟨fun h => bytes_toList (beq_iff_eq.1 h), fun h => by subst h; exact beq_self_eq_true _⟩
theorem bl_ne {a b : ByteArray} (h : bl a b = true) : a ≠ b := fun e => by
  subst e
  have := bl_irrefl a a h
  rw [beq_self_eq_true] at this; cases this
theorem bl_asymm {a b : ByteArray} (h : bl a b = true) : bl b a = false := by
  rw [Bool.eq_false_iff]
  intro h2
  exact bl_ne (bl_trans h h2) rfl
theorem bl_total {a b : ByteArray} (h1 : a ≠ b) (h2 : bl a b = false) : bl b a = true := by
  rw [bl_le]
  unfold leB
  have h3 : Op.bytesLess a.toList b.toList = false := h2
  have h4 : (a.toList == b.toList) = false := by
    rw [Bool.eq_false_iff]; intro e; exact h1 (keys_eq.1 e)
  rw [h3, h4]; rfl
/-- ahead of all that are kept -/
theorem insH_ahead {k : ByteArray} (v : Vn) {l : List Hs} (h : riseH k l) : insH k v l = ⟨k, [v]⟩ :: l := by
  cases l with
  | nil => rfl
  | cons a l =>
    have hne : ¬ (a.key.toList == k.toList) = true := fun e => bl_ne h.1 (keys_eq.1 e).symm
    have hlt : ¬ bl a.key k = true := by rw [bl_asymm h.1]; exact Bool.false_ne_true
    show (if _ then _ else _) = _
    rw [if_neg hne, if_neg hlt]
theorem insH_F (f : ByteArray → Bool) (k : ByteArray) (v : Vn) : ∀ (l : List Hs) (p : ByteArray), riseH p l → hsF f (insH k v l) = if f k = true then insH k v (hsF f l) else hsF f l := by
  intro l
  induction l with
  | nil => intro p _; show [Hs.mk k [v]].filter _ = _; by_cases hf : f k = true <;> simp [hf, hsF, insH]
  | cons a l ih =>
    intro p h
    show hsF f (if _ then _ else _) = _
    by_cases he : (a.key.toList == k.toList) = true
    · have hk := keys_eq.1 he
      rw [if_pos he]
      by_cases hf : f k = true
      · have hfa : f a.key = true := by rw [hk]; exact hf
        rw [if_pos hf]
        unfold hsF
        rw [List.filter_cons_of_pos (by exact hfa), List.filter_cons_of_pos (by exact hfa)]
        show _ = if _ then _ else _
        rw [if_pos he]
      · have hfa : ¬ f a.key = true := by rw [hk]; exact hf
        rw [if_neg hf]
        unfold hsF
        rw [List.filter_cons_of_neg (by exact hfa), List.filter_cons_of_neg (by exact hfa)]
    · have hne : a.key ≠ k := fun e => he (keys_eq.2 e)
      rw [if_neg he]
      by_cases hl : bl a.key k = true
      · rw [if_pos hl]
        have i := ih a.key h.2
        by_cases hfa : f a.key = true
        · have e1 : hsF f (a :: insH k v l) = a :: hsF f (insH k v l) := by unfold hsF; rw [List.filter_cons_of_pos (by exact hfa)]
          have e2 : hsF f (a :: l) = a :: hsF f l := by unfold hsF; rw [List.filter_cons_of_pos (by exact hfa)]
          rw [e1, e2, i]
          by_cases hf : f k = true
          · rw [if_pos hf, if_pos hf]
            show _ = if _ then _ else _
            rw [if_neg he, if_pos hl]
          · rw [if_neg hf, if_neg hf]
        · have e1 : hsF f (a :: insH k v l) = hsF f (insH k v l) := by unfold hsF; rw [List.filter_cons_of_neg (by exact hfa)]
          have e2 : hsF f (a :: l) = hsF f l := by unfold hsF; rw [List.filter_cons_of_neg (by exact hfa)]
          rw [e1, e2, i]
      · rw [if_neg hl]
        have hka := bl_total hne (by rw [Bool.eq_false_iff]; exact hl)
        have hr : riseH k (a :: l) := ⟨hka, h.2⟩
        by_cases hf : f k = true
        · rw [if_pos hf, insH_ahead v (riseH_F f _ _ hr)]
          show (Hs.mk k [v] :: a :: l).filter _ = _
          rw [List.filter_cons_of_pos (by exact hf)]
          rfl
        · rw [if_neg hf]
          show (Hs.mk k [v] :: a :: l).filter _ = _
          rw [List.filter_cons_of_neg (by exact hf)]
          rfl
theorem insH_rise (k : ByteArray) (v : Vn) : ∀ (l : List Hs) (p : ByteArray), riseH p l → bl p k = true → riseH p (insH k v l) := by
  intro l
  induction l with
  | nil => intro p _ hp; exact ⟨hp, trivial⟩
  | cons a l ih =>
    intro p h hp
    show riseH p (if _ then _ else _)
    by_cases he : (a.key.toList == k.toList) = true
    · rw [if_pos he]; exact ⟨h.1, h.2⟩
    · have hne : a.key ≠ k := fun e => he (keys_eq.2 e)
      rw [if_neg he]
      by_cases hl : bl a.key k = true
      · rw [if_pos hl]; exact ⟨h.1, ih _ h.2 hl⟩
      · rw [if_neg hl]; exact ⟨hp, bl_total hne (by rw [Bool.eq_false_iff]; exact hl), h.2⟩
/-- all writes of one that is resolved -/
def insAll (at_ : Sp) (W : List Wt) (H : List Hs) : List Hs := W.foldl (fun H a => insH a.key ⟨at_, a.v⟩ H) H
theorem insAll_rise (at_ : Sp) : ∀ (W : List Wt) (H : List Hs) (p : ByteArray), riseH p H → (∀ a ∈ W, bl p a.key = true) → riseH p (insAll at_ W H) := by
  intro W
  induction W with
  | nil => intro H p h _; exact h
  | cons a W ih =>
    intro H p h hW
    exact ih _ p (insH_rise _ _ _ _ h (hW a (List.mem_cons_self ..))) fun b hb => hW b (List.mem_cons_of_mem _ hb)
theorem insAll_F (f : ByteArray → Bool) (at_ : Sp) : ∀ (W : List Wt) (H : List Hs) (p : ByteArray), riseH p H → (∀ a ∈ W, bl p a.key = true) → hsF f (insAll at_ W H) = insAll at_ (wtF f W) (hsF f H) := by
  intro W
  induction W with
  | nil => intro H p h _; rfl
  | cons a W ih =>
    intro H p h hW
    have ha := hW a (List.mem_cons_self ..)
    have i := ih (insH a.key ⟨at_, a.v⟩ H) p (insH_rise _ _ _ _ h ha) fun b hb => hW b (List.mem_cons_of_mem _ hb)
    show hsF f (insAll at_ W (insH a.key ⟨at_, a.v⟩ H)) = _
    rw [i, insH_F f a.key _ H p h]
    unfold wtF
    by_cases hf : f a.key = true
    · rw [if_pos hf, List.filter_cons_of_pos (by exact hf)]; rfl
    · rw [if_neg hf, List.filter_cons_of_neg (by exact hf)]
theorem rvers_head {a : Hs} {l : List Hs} : rvers a.key (a :: l) = a.vs := by
  unfold rvers
  rw [List.find?_cons_of_pos (by exact beq_self_eq_true _)]
theorem rvers_tail {a : Hs} {l : List Hs} {k : ByteArray} (h : bl a.key k = true) : rvers k (a :: l) = rvers k l := by
  unfold rvers
  rw [List.find?_cons_of_neg (by exact fun e => bl_ne h (keys_eq.1 e))]
theorem atL_eq (at_ : Sp) : ∀ (l : List Hs) (p : ByteArray), riseH p l → atL at_ l = l.filterMap fun h => if (lastUp at_ h.vs).v.k ≠ 0 then some ⟨h.key, (lastUp at_ h.vs).v⟩ else none := by
  intro l
  suffices hq : ∀ (l m : List Hs) (p : ByteArray), riseH p l → (∀ h ∈ l, rvers h.key m = h.vs) → (l.filterMap fun h => if (lastUp at_ (rvers h.key m)).v.k ≠ 0 then some (⟨h.key, (lastUp at_ (rvers h.key m)).v⟩ : Wt) else none) = l.filterMap fun h => if (lastUp at_ h.vs).v.k ≠ 0 then some ⟨h.key, (lastUp at_ h.vs).v⟩ else none by
    intro p h
    refine hq l l p h ?_
    clear hq
    intro x hx
    induction l generalizing p with
    | nil => cases hx
    | cons a l ih =>
      rcases List.mem_cons.1 hx with rfl | hx'
      · exact rvers_head
      · rw [rvers_tail (riseH_mem h.2 x hx')]; exact ih a.key h.2 hx'
  intro l m p h hm
  clear h
  induction l with
  | nil => rfl
  | cons a l ih =>
    have i := ih fun x hx => hm x (List.mem_cons_of_mem _ hx)
    have e := hm a (List.mem_cons_self ..)
    simp only [List.filterMap_cons, e, i]
theorem atL_F (f : ByteArray → Bool) (at_ : Sp) (l : List Hs) (p : ByteArray) (h : riseH p l) : atL at_ (hsF f l) = wtF f (atL at_ l) := by
  rw [atL_eq at_ l p h, atL_eq at_ _ p (riseH_F f l p h)]
  unfold hsF wtF
  clear h
  induction l with
  | nil => rfl
  | cons a l ih =>
    by_cases hk : (lastUp at_ a.vs).v.k ≠ 0
    · by_cases hf : f a.key = true
      · simp only [List.filter_cons, List.filterMap_cons, hf, if_pos hk, ih, if_true]
      · simp only [List.filter_cons, List.filterMap_cons, hf, if_pos hk, ih, Bool.false_eq_true, if_false]
    · by_cases hf : f a.key = true
      · simp only [List.filter_cons, List.filterMap_cons, hf, if_neg hk, ih, if_true]
      · simp only [List.filter_cons, List.filterMap_cons, hf, if_neg hk, ih, Bool.false_eq_true, if_false]
end Go.Proofs.Ytipacjbegfingaa
/- The document's store: what is read at a stamp. -/
namespace Go.Proofs.Ytipacjbegfingaa
set_option linter.unusedVariables false
open Go.RowKit Fl
attribute [local go_sem] run_store_float

def UpRel (key : ByteArray) (s : Sp) (l : List Vn) (w : World) (i : Value) (wr : World) : Prop :=
  ∃ k : Nat, k ≤ l.length ∧ i = .int .i64 (k : Int) ∧ Blk wr w.heap.size 26 s.arr ∧ Blk wr (w.heap.size + 1) 98 (seenArr ⟨#[]⟩ zeroVn) ∧ Blk wr (w.heap.size + 1 + 1) 98 (seenArr key (lastUp s (l.take k))) ∧ Below w.heap.size w wr
theorem upV_take {l : List Vn} {k : Nat} {a : Vn} {s : Sp} (h : l[k]? = some a) : lastUp s (l.take (k + 1)) = if decide (a.s.cmp s ≤ 0) = true then a else lastUp s (l.take k) := by
  unfold lastUp
  rw [List.take_add_one, h, List.filter_append]
  by_cases hc : decide (a.s.cmp s ≤ 0) = true
  · rw [if_pos hc, show (some a).toList = [a] from rfl, List.filter_cons_of_pos (by exact hc)]
    unfold lastV
    rw [List.foldl_append]; rfl
  · rw [if_neg hc, show (some a).toList = [a] from rfl, List.filter_cons_of_neg (by exact hc)]
    rw [List.filter_nil, List.append_nil]

end Go.Proofs.Ytipacjbegfingaa
/- Plain law of HandStores: what Would and Resolve do; in both halves as in the whole; what is met. -/
namespace Go.Proofs.Ytipacjbegfingaa
set_option linter.unusedVariables false
open Go.RowKit Fl

/-- what Would tells -/
def wouldE (H : List Hs) (P : List Pn) (t : Tx) (commit : Bool) (at_ : Sp) : Int :=
  match P.find? fun p => decide (p.t = t) with
  | none => 8
  | some p => if !commit then 0 else if !at_.may then 17 else if decide (at_.cmp p.s < 0) then 20 else if p.w.any fun a => (rvers a.key H).any fun v => decide (v.s = at_) then 9 else 0
/-- the histories behind Resolve -/
def resH (H : List Hs) (P : List Pn) (t : Tx) (commit : Bool) (at_ : Sp) : List Hs :=
  if wouldE H P t commit at_ = 0 then (match P.find? fun p => decide (p.t = t) with
  | none => H
  | some p => if commit then insAll at_ p.w H else H) else H
theorem mem_putL {l : List Pn} {p x : Pn} : x ∈ putL l p ↔ x = p ∨ x ∈ l := by
  unfold putL
  have h := List.takeWhile_append_dropWhile (p := fun x : Pn => x.t.less p.t) (l := l)
  constructor
  · intro hx
    rcases List.mem_append.1 hx with hx | hx
    · exact .inr (List.takeWhile_subset _ hx)
    · rcases List.mem_cons.1 hx with hx | hx
      · exact .inl hx
      · exact .inr (List.dropWhile_subset _ hx)
  · rintro (rfl | hx)
    · exact List.mem_append_right _ (List.mem_cons_self ..)
    · rw [← h] at hx
      rcases List.mem_append.1 hx with hx | hx
      · exact List.mem_append_left _ hx
      · exact List.mem_append_right _ (List.mem_cons_of_mem _ hx)
theorem mem_foldl : ∀ (l m : List Pn) (x : Pn), x ∈ l.foldl putL m ↔ x ∈ m ∨ x ∈ l := by
  intro l
  induction l with
  | nil => intro m x; simp
  | cons a l ih =>
    intro m x
    rw [List.foldl_cons, ih, mem_putL, List.mem_cons]
    constructor
    · rintro ((h | h) | h)
      · exact .inr (.inl h)
      · exact .inl h
      · exact .inr (.inr h)
    · rintro (h | h | h)
      · exact .inl (.inr h)
      · exact .inl (.inl h)
      · exact .inr h
theorem mem_putAll {l : List Pn} {x : Pn} : x ∈ putAll l ↔ x ∈ l := by
  unfold putAll
  rw [mem_foldl]
  simp
/-- one of each number alone -/
def OneT (l : List Pn) : Prop := ∀ a ∈ l, ∀ b ∈ l, a.t = b.t → a = b
theorem OneT.find {l : List Pn} (h : OneT l) {p : Pn} (hp : p ∈ l) : (l.find? fun x => decide (x.t = p.t)) = some p := by
  cases e : l.find? fun x => decide (x.t = p.t) with
  | none =>
    have := List.find?_eq_none.1 e p hp
    simp at this
  | some q =>
    have h1 := List.find?_some e
    rw [decide_eq_true_eq] at h1
    rw [h q (List.mem_of_find?_eq_some e) p hp h1]
theorem pendsE_one {H : List Hs} : ∀ (l m : List Pn), pendsE H m l = 0 → OneT m → OneT (m ++ l) := by
  intro l
  induction l with
  | nil => intro m _ hm; rw [List.append_nil]; exact hm
  | cons x l ih =>
    intro m h hm
    obtain ⟨h1, h2, h3, h4, h5⟩ := pendsE_cons.1 h
    have hx : ∀ y ∈ m, ¬ y.t = x.t := fun y hy e => by
      have : (m.any fun y => decide (y.t = x.t)) = true := List.any_eq_true.2 ⟨y, hy, by simpa using e⟩
      rw [h2] at this; cases this
    have hm' : OneT (m ++ [x]) := fun a ha b hb e => by
      rcases List.mem_append.1 ha with a1 | a1 <;> rcases List.mem_append.1 hb with b1 | b1
      · exact hm a a1 b b1 e
      · rw [List.mem_singleton] at b1; rw [b1] at e; exact absurd e (hx a a1)
      · rw [List.mem_singleton] at a1; rw [a1] at e; exact absurd e.symm (hx b b1)
      · rw [List.mem_singleton] at a1 b1; rw [a1, b1]
    have := ih (m ++ [x]) h5 hm'
    rwa [List.append_assoc] at this
theorem load_one {H : List Hs} {Q : List Pn} (h : loadE H Q = 0) : OneT (putAll Q) ∧ riseH ⟨#[]⟩ H ∧ ∀ p ∈ Q, pendE p = 0 := by
  unfold loadE at h
  by_cases hh : histsB ⟨#[]⟩ H = true
  · rw [if_pos hh] at h
    have h1 := pendsE_one Q [] h (fun a ha => by cases ha)
    rw [List.nil_append] at h1
    refine ⟨fun a ha b hb e => h1 a (mem_putAll.1 ha) b (mem_putAll.1 hb) e, histsB_rise _ _ hh, ?_⟩
    clear h1 hh
    suffices hq : ∀ (l m : List Pn), pendsE H m l = 0 → ∀ p ∈ l, pendE p = 0 from hq Q [] h
    intro l
    induction l with
    | nil => intro m _ p hp; cases hp
    | cons x l ih =>
      intro m h p hp
      obtain ⟨h1, -, -, -, h5⟩ := pendsE_cons.1 h
      rcases List.mem_cons.1 hp with rfl | hp
      · exact h1
      · exact ih _ h5 p hp
  · rw [if_neg hh] at h; cases h
theorem riseFrom_lt : ∀ (l : List ByteArray) (p : Option ByteArray), riseFrom p l = true → ∀ k ∈ l, keyB k = true := by
  intro l
  induction l with
  | nil => intro p _ k hk; cases hk
  | cons a l ih =>
    intro p h k hk
    have h' := h
    unfold riseFrom at h'
    simp only [Bool.and_eq_true] at h'
    rcases List.mem_cons.1 hk with rfl | hk
    · exact h'.1.1
    · exact ih _ h'.2 k hk
theorem keyB_pos {k : ByteArray} (h : keyB k = true) : bl ⟨#[]⟩ k = true := by
  rw [bl_le, le_empty h]; rfl
theorem pend_keys {p : Pn} (h : pendE p = 0) : ∀ a ∈ p.w, bl ⟨#[]⟩ a.key = true := fun a ha => by
  have h5 := (pendE_zero.1 h).2.2.2.2.1
  unfold riseB at h5
  rw [Bool.and_eq_true] at h5
  exact keyB_pos (riseFrom_lt _ _ h5.1 a.key (List.mem_map_of_mem ha))
theorem rvers_F {f : ByteArray → Bool} {key : ByteArray} (hf : f key = true) (H : List Hs) : rvers key (hsF f H) = rvers key H := by
  unfold rvers hsF
  rw [List.find?_filter]
  have e : (fun a : Hs => decide (f a.key = true ∧ (a.key.toList == key.toList) = true)) = fun h => h.key.toList == key.toList := by
    funext a
    by_cases ha : (a.key.toList == key.toList) = true
    · have := keys_eq.1 ha
      rw [ha, this, hf]; rfl
    · rw [Bool.eq_false_iff.2 ha]; simp
  rw [e]
/-- Resolve in a half does what Resolve in the whole does there -/
theorem res_F (f : ByteArray → Bool) (g : Pn → Bool) {H : List Hs} {Q : List Pn} {p : Pn} (h : loadE H Q = 0) (hp : p ∈ Q) (hg : ∀ q, g q = false → q.w = []) (commit : Bool) (at_ : Sp) (h0 : wouldE H (putAll Q) p.t commit at_ = 0) :
    resH (hsF f H) (putAll ((Q.map (pnF f)).filter g)) p.t commit at_ = hsF f (resH H (putAll Q) p.t commit at_) := by
  obtain ⟨h1, hr, hk⟩ := load_one h
  obtain ⟨h1F, -, -⟩ := load_one (load_F f g h)
  have e1 := h1.find (mem_putAll.2 hp)
  unfold resH
  rw [if_pos h0, e1]
  have hin := insAll_F f at_ p.w H _ hr (pend_keys (hk p hp))
  have hw : ∀ b : Bool, (if b = true then hsF f (insAll at_ p.w H) else hsF f H) = hsF f (if b = true then insAll at_ p.w H else H) := fun b => by cases b <;> rfl
  show _ = hsF f (if commit = true then insAll at_ p.w H else H)
  rw [← hw]
  by_cases hgp : g (pnF f p) = true
  · have hm : pnF f p ∈ putAll ((Q.map (pnF f)).filter g) := mem_putAll.2 (List.mem_filter.2 ⟨List.mem_map_of_mem hp, hgp⟩)
    have e2 := h1F.find hm
    have e3 : (pnF f p).t = p.t := rfl
    rw [e3] at e2
    have h0F : wouldE (hsF f H) (putAll ((Q.map (pnF f)).filter g)) p.t commit at_ = 0 := by
      unfold wouldE at *
      rw [e1] at h0
      rw [e2]
      cases commit
      · rfl
      · simp only [Bool.not_true, Bool.false_eq_true, if_false] at *
        by_cases m1 : (!at_.may) = true
        · rw [if_pos m1] at h0; cases h0
        · rw [if_neg m1] at *
          have e4 : (pnF f p).s = p.s := rfl
          rw [e4]
          by_cases m2 : decide (at_.cmp p.s < 0) = true
          · rw [if_pos m2] at h0; cases h0
          · rw [if_neg m2] at *
            by_cases m3 : (p.w.any fun a => (rvers a.key H).any fun v => decide (v.s = at_)) = true
            · rw [if_pos m3] at h0; cases h0
            · rw [if_neg]
              intro m4
              apply m3
              obtain ⟨a, ha, e⟩ := List.any_eq_true.1 m4
              obtain ⟨ha1, ha2⟩ := List.mem_filter.1 ha
              rw [rvers_F ha2] at e
              exact List.any_eq_true.2 ⟨a, ha1, e⟩
    rw [if_pos h0F, e2]
    show (if commit = true then insAll at_ (wtF f p.w) (hsF f H) else hsF f H) = _
    rw [hin]
  · have hnil := hg _ (Bool.eq_false_iff.2 hgp)
    have e2 : ((putAll ((Q.map (pnF f)).filter g)).find? fun x => decide (x.t = p.t)) = none := by
      rw [List.find?_eq_none]
      intro q hq e
      rw [decide_eq_true_eq] at e
      obtain ⟨hq1, hq2⟩ := List.mem_filter.1 (mem_putAll.1 hq)
      obtain ⟨q', hq', rfl⟩ := List.mem_map.1 hq1
      have := h1 q' (mem_putAll.2 hq') p (mem_putAll.2 hp) e
      subst this
      exact hgp hq2
    have h0F : wouldE (hsF f H) (putAll ((Q.map (pnF f)).filter g)) p.t commit at_ = 8 := by
      unfold wouldE; rw [e2]
    rw [if_neg (by rw [h0F]; decide)]
    cases commit
    · rfl
    · show hsF f H = hsF f (insAll at_ p.w H)
      rw [hin]
      have : wtF f p.w = [] := hnil
      rw [this]; rfl
end Go.Proofs.Ytipacjbegfingaa
/- Plain: the places at which the document's store takes one more version; the first place of a pending one. -/
namespace Go.Proofs.Ytipacjbegfingaa
set_option linter.unusedVariables false
open Go.RowKit Fl

theorem while_at {α : Type} {f : α → Bool} {l : List α} {k : Nat} (hall : ∀ x ∈ l.take k, f x = true) (hend : ∀ a, l[k]? = some a → f a = false) (hk : k ≤ l.length) : l.takeWhile f = l.take k ∧ l.dropWhile f = l.drop k := by
  induction l generalizing k with
  | nil => simp
  | cons a l ih =>
    cases k with
    | zero =>
      have := hend a rfl
      simp [this]
    | succ k =>
      have ha := hall a (by simp)
      obtain ⟨e1, e2⟩ := ih (k := k) (fun x hx => hall x (by simp [hx])) (fun b hb => hend b (by simpa using hb)) (by simpa using hk)
      simp [ha, e1, e2]
theorem insV_at {v : Vn} {l : List Vn} {k : Nat} (hk : k ≤ l.length) (hall : ∀ x ∈ l.take k, decide (x.s.cmp v.s < 0) = true) (hend : ∀ a, l[k]? = some a → decide (a.s.cmp v.s < 0) = false) : insV v l = l.take k ++ v :: l.drop k := by
  unfold insV
  obtain ⟨e1, e2⟩ := while_at hall hend hk
  rw [e1, e2]
/-- where there is none of the key -/
theorem insH_none {k : ByteArray} {v : Vn} : ∀ {l : List Hs} {i : Nat}, i ≤ l.length → (∀ x ∈ l, (x.key.toList == k.toList) = false) → (∀ x ∈ l.take i, bl x.key k = true) → (∀ a, l[i]? = some a → bl a.key k = false) → insH k v l = l.take i ++ ⟨k, [v]⟩ :: l.drop i := by
  intro l
  induction l with
  | nil => intro i _ _ _ _; simp [insH]
  | cons a l ih =>
    intro i hi hne hall hend
    have h1 : ¬ (a.key.toList == k.toList) = true := by rw [hne a (List.mem_cons_self ..)]; exact Bool.false_ne_true
    show (if _ then _ else _) = _
    rw [if_neg h1]
    cases i with
    | zero =>
      rw [if_neg (by rw [hend a rfl]; exact Bool.false_ne_true)]
      rfl
    | succ i =>
      rw [if_pos (hall a (by simp)), ih (i := i) (by simpa using hi) (fun x hx => hne x (List.mem_cons_of_mem _ hx)) (fun x hx => hall x (by simp [hx])) (fun b hb => hend b (by simpa using hb))]
      rfl
/-- where there is one -/
theorem insH_at {k : ByteArray} {v : Vn} : ∀ {l : List Hs} {i : Nat} {h : Hs} {p : ByteArray}, riseH p l → l[i]? = some h → (h.key.toList == k.toList) = true → insH k v l = l.set i ⟨h.key, insV v h.vs⟩ := by
  intro l
  induction l with
  | nil => intro i h p _ e; cases e
  | cons a l ih =>
    intro i h p hr e hk
    show (if _ then _ else _) = _
    cases i with
    | zero =>
      have e : a = h := Option.some.inj e
      subst e
      rw [if_pos hk]; rfl
    | succ i =>
      have e : l[i]? = some h := e
      have hlt := riseH_mem hr.2 h (List.mem_of_getElem? e)
      rw [keys_eq.1 hk] at hlt
      rw [if_neg (fun e => bl_ne hlt (keys_eq.1 e)), if_pos hlt, ih hr.2 e hk]
      rfl
theorem at_none {k : ByteArray} {l : List Hs} (h : (l.find? fun h => h.key.toList == k.toList) = none) : ∀ x ∈ l, (x.key.toList == k.toList) = false := fun x hx => by
  have := List.find?_eq_none.1 h x hx
  exact Bool.eq_false_iff.2 this
theorem wh_find (t : Tx) : ∀ (l : List Pn) (k : Nat), (whFrom t k l < 0 ∧ (l.find? fun p => decide (p.t = t)) = none) ∨ ∃ (i : Nat) (p : Pn), whFrom t k l = ((k + i : Nat) : Int) ∧ l[i]? = some p ∧ (l.find? fun p => decide (p.t = t)) = some p := by
  intro l
  induction l with
  | nil => intro k; exact .inl ⟨by show (-1 : Int) < 0; omega, rfl⟩
  | cons a l ih =>
    intro k
    by_cases h : decide (a.t = t) = true
    · exact .inr ⟨0, a, by show (if _ then _ else _) = _; rw [if_pos h]; rfl, rfl, by rw [List.find?_cons_of_pos (by exact h)]⟩
    · have e : whFrom t k (a :: l) = whFrom t (k + 1) l := by show (if _ then _ else _) = _; rw [if_neg h]
      have e2 : ((a :: l).find? fun p => decide (p.t = t)) = l.find? fun p => decide (p.t = t) := List.find?_cons_of_neg (by exact h)
      rw [e, e2]
      rcases ih (k + 1) with h1 | ⟨i, p, h1, h2, h3⟩
      · exact .inl h1
      · exact .inr ⟨i + 1, p, by rw [h1]; omega, h2, h3⟩
end Go.Proofs.Ytipacjbegfingaa
/- The histories of the document's store alone; what may turn beside them; at and upto. -/
namespace Go.Proofs.Ytipacjbegfingaa
set_option linter.unusedVariables false
open Go.RowKit Fl
attribute [local go_sem] run_store_float

/-- the document's store: its histories, read anywhere; their row may be written -/
structure RSh (w : World) (g : Nat) (B1 : Option Addr) (m1 d1 : Nat) (vP : Value) (L : Sp) (Hl : List Hs) : Prop where
  blk : Blk w g 86 #[.slice B1 m1 d1, vP, .int .i64 L.w, .int .i64 L.l, .int .i64 L.n]
  hs : Sl HsRel 2 w w.heap.size B1 m1 Hl
  le1 : m1 ≤ d1
  d1m : d1 ≤ maxLen
  m1 : m1 ≤ maxLen
  row : HRow w g B1
/-- what holds no slice stays -/
def KeepN (w w' : World) : Prop := ∀ p u, w.cell? p = some u → (∀ A n c, u ≠ .slice A n c) → w'.cell? p = some u
theorem KeepN.refl (w : World) : KeepN w w := fun _ _ h _ => h
theorem KeepN.trans {w w1 w2 : World} (h : KeepN w w1) (k : KeepN w1 w2) : KeepN w w2 := fun p u hc hn => k p u (h p u hc hn) hn
theorem cell_lt {w : World} {p : Addr} {u : Value} (h : w.cell? p = some u) : p.block < w.heap.size := by
  rcases Nat.lt_or_ge p.block w.heap.size with hlt | hge
  · exact hlt
  · unfold World.cell? at h
    rw [Array.getElem?_eq_none hge] at h
    cases h
theorem KeepN.below {w w' : World} (hb : Below w.heap.size w w') : KeepN w w' := fun p u hc _ => (hb.cell (cell_lt hc)).trans hc
/-- a cell that holds a slice is written -/
theorem KeepN.set {w : World} {q : Addr} {A : Option Addr} {n c : Nat} (hq : w.cell? q = some (.slice A n c)) (v : Value) : KeepN w (w.setCell q v) := fun p u hc hn => by
  by_cases e : p = q
  · subst e; rw [hq] at hc; injection hc with hc; exact absurd hc.symm (hn A n c)
  · rw [World.cell?_setCell_other w q p v (fun h => e h.symm)]; exact hc
/-- what Resolve and its parts turn: the store's block, the row of its histories, what is new -/
structure Chg (w w' : World) (g : Nat) (B : Option Addr) : Prop where
  os : w'.os = w.os
  tape : w'.tape = w.tape
  output : w'.output = w.output
  size : w.heap.size ≤ w'.heap.size
  block : ∀ k, k < w.heap.size → k ≠ g → (∀ p, B = some p → k ≠ p.block) → w'.heap[k]? = w.heap[k]?
theorem Chg.ofBelow {w w' : World} (g : Nat) (B : Option Addr) (h : Below w.heap.size w w') : Chg w w' g B := ⟨h.os, h.tape, h.output, h.size, fun k hk _ _ => h.block k hk⟩
theorem Chg.trans {w w1 w2 : World} {g : Nat} {B B' : Option Addr} (h : Chg w w1 g B) (k : Chg w1 w2 g B') (hB : ∀ p, B' = some p → B = some p ∨ w.heap.size ≤ p.block) : Chg w w2 g B :=
  ⟨k.os.trans h.os, k.tape.trans h.tape, k.output.trans h.output, Nat.le_trans h.size k.size, fun i hi h1 h2 => (k.block i (Nat.lt_of_lt_of_le hi h.size) h1 fun p hp => by
    rcases hB p hp with e | e
    · exact h2 p e
    · omega).trans (h.block i hi h1 h2)⟩
theorem Chg.below {w w' : World} {g : Nat} {B : Option Addr} (h : Chg w w' g B) {n : Nat} (hg : n ≤ g) (hB : ∀ p, B = some p → g < p.block) (hn : n ≤ w.heap.size) : Below n w w' :=
  ⟨h.os, h.tape, h.output, h.size, fun k hk => h.block k (by omega) (by omega) fun p hp => by have := hB p hp; omega⟩
section
variable {w w' : World} {g : Nat} {B1 : Option Addr} {m1 d1 : Nat} {vP : Value} {L : Sp} {Hl : List Hs}
theorem RSh.below (h : RSh w g B1 m1 d1 vP L Hl) (hb : Below w.heap.size w w') : RSh w' g B1 m1 d1 vP L Hl :=
  ⟨h.blk.below hb h.blk.lt, (h.hs.below HsRel.kept hb).more HsRel.kept hb.size, h.le1, h.d1m, h.m1, h.row.below hb⟩
theorem RSh.hist (h : RSh w g B1 m1 d1 vP L Hl) : Sl HsRel 2 w w.heap.size B1 m1 Hl := h.hs
/-- versions hold no slices -/
theorem vn_keep {A : Option Addr} {n B B' : Nat} {l : List Vn} (h : Sl VnRel 6 w B A n l) (hk : KeepN w w') (hB : B ≤ B') : Sl VnRel 6 w' B' A n l :=
  ⟨h.1, fun i a hi => by
    obtain ⟨ad, cs, e, hb, hl, hc, hr⟩ := h.2 i a hi
    refine ⟨ad, cs, e, by omega, hl, fun j u hj => hk _ _ (hc j u hj) ?_, hr⟩
    obtain ⟨rfl, _⟩ := hr
    intro A n c e
    subst e
    have := List.mem_of_getElem? hj
    simp [Vn.cells] at this⟩
/-- the histories stay, if their row does and what holds no slice does -/
theorem hs_keep (h : Sl HsRel 2 w w.heap.size B1 m1 Hl) (hrow : ∀ p, B1 = some p → w'.heap[p.block]? = w.heap[p.block]?) (hk : KeepN w w') (hz : w.heap.size ≤ w'.heap.size) : Sl HsRel 2 w' w'.heap.size B1 m1 Hl :=
  ⟨h.1, fun i a hi => by
    obtain ⟨ad, cs, e, hb, hl, hc, v, e2, hkz, A, n, c, e3, h1, h2, h3⟩ := h.2 i a hi
    refine ⟨ad, cs, e, by omega, hl, fun j u hj => ?_, v, e2, hkz, A, n, c, e3, h1, h2, vn_keep h3 hk hz⟩
    rw [World.cell?_of_block (w := w) (w' := w') (by rw [block_of_add]; exact hrow ad e)]
    exact hc j u hj⟩
theorem RSh.keep (h : RSh w g B1 m1 d1 vP L Hl) (hg : w'.heap[g]? = w.heap[g]?) (hrow : ∀ p, B1 = some p → w'.heap[p.block]? = w.heap[p.block]?) (hk : KeepN w w') (hz : w.heap.size ≤ w'.heap.size) : RSh w' g B1 m1 d1 vP L Hl :=
  ⟨hg.trans h.blk, hs_keep h.hs hrow hk hz, h.le1, h.d1m, h.m1, fun p hp => by
    obtain ⟨h1, t, cs, h2⟩ := h.row p hp
    exact ⟨h1, t, cs, (hrow p hp).trans h2⟩⟩
end
theorem RSu.rsh {w : World} {g : Nat} {B1 B2 : Option Addr} {m1 d1 m2 d2 : Nat} {L : Sp} {Hl : List Hs} {Pl : List Pn} (h : RSu w g B1 m1 d1 B2 m2 d2 L Hl Pl) (hr : HRow w g B1) (h1 : m1 ≤ d1) (h2 : d1 ≤ maxLen) : RSh w g B1 m1 d1 (.slice B2 m2 d2) L Hl :=
  ⟨h.blk, h.hist, h1, h2, h.m1, hr⟩
/-- a store is left as it is where what is at it and above stays -/
theorem RSu.far {w w' : World} {g : Nat} {B1 B2 : Option Addr} {m1 d1 m2 d2 : Nat} {L : Sp} {Hl : List Hs} {Pl : List Pn} (h : RSu w g B1 m1 d1 B2 m2 d2 L Hl Pl) (hb : ∀ k, g ≤ k → k < w.heap.size → w'.heap[k]? = w.heap[k]?) (hz : w.heap.size ≤ w'.heap.size) : RSu w' g B1 m1 d1 B2 m2 d2 L Hl Pl := by
  have hk : ∀ p : Addr, p.block < w.heap.size → (only (ab g) w').cell? p = (only (ab g) w).cell? p := fun p hp => by
    cases hn : ab g p.block
    · rw [only_cell_out hn, only_cell_out hn]
    · rw [only_cell_in hn, only_cell_in hn]; exact World.cell?_of_block (hb _ (Nat.le_of_lt (ab_iff.1 hn)) hp)
  exact ⟨(hb g (Nat.le_refl _) h.blk.lt).trans h.blk, (h.hs.keep HsRel.kept hk).more HsRel.kept hz, (h.ps.keep PnRel.kept hk).more PnRel.kept hz, h.le2, h.d2m, h.m1, h.m2⟩
theorem HRow.far {w w' : World} {g : Nat} {B : Option Addr} (h : HRow w g B) (hb : ∀ k, g ≤ k → k < w.heap.size → w'.heap[k]? = w.heap[k]?) : HRow w' g B := fun p hp => by
  obtain ⟨h1, t, cs, h2⟩ := h p hp
  exact ⟨h1, t, cs, (hb p.block (Nat.le_of_lt h1) h2.lt).trans h2⟩
/-- all blocks but the row's own -/
def oB (size : Nat) (v : Value) : Nat → Bool := fun k => decide (k < size) && decide (v.ownBlock ≠ some k)
theorem oB_iff {size k : Nat} {v : Value} : oB size v k = true ↔ k < size ∧ v.ownBlock ≠ some k := by
  unfold oB
  simp only [Bool.and_eq_true, decide_eq_true_eq]
section
variable {α : Type} {R : Rel α} {E size base : Nat} {w w' : World} {v : Value} {l : List α}
theorem RowR.keepO (hR : R.Kept) (hRm : R.Mono) (h : RowR R E size base (oB w.heap.size v) w v l) (hs : w.heap.size ≤ w'.heap.size) (hb : ∀ k, k < w.heap.size → w'.heap[k]? = w.heap[k]?) : RowR R E size base (oB w'.heap.size v) w' v l := by
  obtain ⟨css, ho, hlen, hl, hc⟩ := h
  refine ⟨css, owns_same ho (fun k h1 h2 => hb k h2), hlen, hl, fun i cs a h1 h2 => ((hc i cs a h1 h2).keep hR (fun k hk => ?_) hs).wider hRm fun k hk => ?_⟩
  · rw [oB_iff] at hk; exact hb k hk.1
  · rw [oB_iff] at *; exact ⟨by omega, hk.2⟩
theorem RowR.ownO (hR : R.Kept) (hRm : R.Mono) (h : RowR R E size base (oB w.heap.size v) w v l) : ∃ xs, w.ownsRow base E size v l.length xs ∧
    ∀ (ds : List (List Value)) (es : List α) (w' : World) (v' : Value), ds.length = es.length → (∀ cs ∈ ds, cs.length = size) → (∀ (i : Nat) (cs : List Value) (a : α), ds[i]? = some cs → es[i]? = some a → Inn R (oB w.heap.size v) w cs a) → w'.ownsRow base E size v' (l.length + es.length) (xs ++ ds.flatten) → w.grownBy w' v.ownBlock → (v'.ownBlock = v.ownBlock ∨ v'.ownBlock = some w.heap.size) →
      RowR R E size base (oB w'.heap.size v') w' v' (l ++ es) := by
  obtain ⟨css, ho, hlen, hl, hc⟩ := h
  refine ⟨css.flatten, ho, fun ds es w' v' hds hdl hin hown hg hat => ?_⟩
  have hK : ∀ k, oB w.heap.size v k = true → oB w'.heap.size v' k = true := fun k hk => by
    rw [oB_iff] at *
    have := hg.size
    refine ⟨by omega, fun e => ?_⟩
    rcases hat with e2 | e2
    · rw [e2] at e; exact hk.2 e
    · rw [e2] at e; injection e with e; omega
  have hB : ∀ k, oB w.heap.size v k = true → w'.heap[k]? = w.heap[k]? := fun k hk => by
    rw [oB_iff] at hk
    exact hg.block k hk.1 (fun e => hk.2 e.symm)
  have up : ∀ {cs : List Value} {a : α}, Inn R (oB w.heap.size v) w cs a → Inn R (oB w'.heap.size v') w' cs a := fun hi => (hi.keep hR hB hg.size).wider hRm hK
  refine ⟨css ++ ds, ?_, by simp [hlen, hds], ?_, ?_⟩
  · rw [List.length_append, List.flatten_append]; exact hown
  · intro c hc'
    rcases List.mem_append.1 hc' with h1 | h1
    · exact hl c h1
    · exact hdl c h1
  · intro i c b h1 h2
    by_cases hi : i < l.length
    · rw [List.getElem?_append_left (by omega)] at h1 h2
      exact up (hc i c b h1 h2)
    · rw [List.getElem?_append_right (by omega)] at h1 h2
      rw [hlen] at h1
      exact up (hin _ c b h1 h2)
end
/-- a new row of histories laid into the store -/
theorem RSh.put_end {w w9 : World} {g base m1 d1 n9 q9 : Nat} {B1 A9 : Option Addr} {vP : Value} {L : Sp} {Hl l9 : List Hs} (h : RSh w g B1 m1 d1 vP L Hl) (hb : Below w.heap.size w w9)
    (hblk : Blk w9 g 86 #[.slice B1 m1 d1, vP, .int .i64 L.w, .int .i64 L.l, .int .i64 L.n]) (hr : RowR HsRel 76 2 base (oB w9.heap.size (.slice A9 n9 q9)) w9 (.slice A9 n9 q9) l9) (hbase : w.heap.size ≤ base) :
    RSh (w9.setCell ⟨g, 0, none⟩ (.slice A9 n9 q9)) g A9 n9 q9 vP L l9 ∧ KeepN w (w9.setCell ⟨g, 0, none⟩ (.slice A9 n9 q9)) ∧ Chg w (w9.setCell ⟨g, 0, none⟩ (.slice A9 n9 q9)) g B1 ∧ ∀ p, A9 = some p → B1 = some p ∨ w.heap.size ≤ p.block := by
  have hg : g < w.heap.size := h.blk.lt
  have hz : (w9.setCell ⟨g, 0, none⟩ (.slice A9 n9 q9)).heap.size = w9.heap.size := by simp [World.setCell]
  have hc : w9.cell? ⟨g, 0, none⟩ = some (.slice B1 m1 d1) := hblk.cell 0
  have hK2 := KeepN.set hc (.slice A9 n9 q9)
  obtain ⟨A, n, c, e, h1, h2, h3⟩ := hr.sl HsRel.mono (by omega)
  injection e with e1 e2 e3
  subst e1 e2 e3
  have hrow : ∀ p, A9 = some p → base ≤ p.block ∧ ∃ t cs, Blk w9 p.block t cs := fun p hp => by
    obtain ⟨css, ho, _⟩ := hr
    obtain ⟨_, ⟨e, _⟩ | ⟨rb, cap, cur, e, hb1, hh, _⟩⟩ := ho
    · injection e with e; rw [e] at hp; cases hp
    · injection e with e; rw [e] at hp
      injection hp with hp
      subst hp
      exact ⟨hb1, _, _, hh⟩
  have hne : ∀ p, A9 = some p → p.block ≠ g := fun p hp => by have := (hrow p hp).1; omega
  refine ⟨⟨hblk.set_ 0 _, hs_keep h3 (fun p hp => Below.heap_setCell _ _ _ _ (hne p hp)) hK2 (Nat.le_of_eq hz.symm), h1, h2, Nat.le_trans h1 h2, fun p hp => ?_⟩, (KeepN.below hb).trans hK2, ⟨hb.os, hb.tape, hb.output, by rw [hz]; exact hb.size, fun k hk h4 _ => (Below.heap_setCell _ _ _ _ h4).trans (hb.block k hk)⟩, fun p hp => .inr (Nat.le_trans hbase (hrow p hp).1)⟩
  obtain ⟨h5, t, cs, h6⟩ := hrow p hp
  exact ⟨by omega, t, cs, h6.far (p := ⟨g, 0, none⟩) (hne p hp) _⟩
theorem add_off (a : Addr) (n : Nat) : (a.add n).off = a.off + n := by unfold Addr.add; split <;> simp_all
/-- the versions of one history set anew -/
theorem RSh.set {w : World} {g : Nat} {p q : Addr} {m1 d1 i n c : Nat} {vP : Value} {L : Sp} {Hl : List Hs} {a : Hs} {A : Option Addr} {vs : List Vn} (h : RSh w g (some p) m1 d1 vP L Hl) (hi : Hl[i]? = some a) (hv : Sl VnRel 6 w w.heap.size A n vs) (hn : n ≤ c) (hc : c ≤ maxLen)
    (hq : q = ⟨(p.add (i * 2)).block, (p.add (i * 2)).off + 1, none⟩) :
    RSh (w.setCell q (.slice A n c)) g (some p) m1 d1 vP L (Hl.set i ⟨a.key, vs⟩) ∧ KeepN w (w.setCell q (.slice A n c)) ∧ Chg w (w.setCell q (.slice A n c)) g (some p) := by
  obtain ⟨h1, t, cs, h2⟩ := h.row p rfl
  obtain ⟨ad, xs, e, hb, hl, hcx, v, rfl, hkz, A', n', c', rfl, q1, q2, q3⟩ := h.hs.2 i a hi
  obtain rfl := Option.some.inj e
  have hq2 : q = p.add (i * 2 + 1) := by rw [hq, ← add_of_add]; rfl
  have hcell : w.cell? q = some (.slice A' n' c') := by rw [hq2]; exact hcx 1 _ rfl
  have hK := KeepN.set hcell (.slice A n c)
  have hz : (w.setCell q (.slice A n c)).heap.size = w.heap.size := by simp [World.setCell]
  have hbl : q.block = p.block := by rw [hq2, block_of_add]
  have hoff : q.off = p.off + (i * 2 + 1) := by rw [hq2, add_off]
  refine ⟨⟨h.blk.far (by rw [hbl]; omega) _, ⟨by rw [List.length_set]; exact h.hs.1, fun j b hj => ?_⟩, h.le1, h.d1m, h.m1, fun r hr => ?_⟩, hK, ⟨rfl, rfl, rfl, Nat.le_of_eq hz.symm, fun k hk h3 h4 => Below.heap_setCell _ _ _ _ (by rw [hbl]; exact h4 p rfl)⟩⟩
  · rw [hz]
    by_cases hij : i = j
    · subst hij
      have hlt : i < Hl.length := (List.getElem?_eq_some_iff.1 hi).1
      rw [List.getElem?_set_self hlt] at hj
      obtain rfl := Option.some.inj hj
      refine ⟨p, [.string a.key, .slice A n c], rfl, hb, rfl, fun k u hk => ?_, _, rfl, hkz, A, n, c, rfl, hn, hc, vn_keep hv hK (Nat.le_refl _)⟩
      match k, hk with
      | 0, hk => exact hK _ _ (hcx 0 u hk) (by obtain rfl := Option.some.inj hk; intro _ _ _ e; cases e)
      | 1, hk =>
        obtain rfl := Option.some.inj hk
        rw [← hq2]
        exact World.cell?_setCell_same' w q _ (by rw [hcell]; rfl)
    · rw [List.getElem?_set_ne hij] at hj
      obtain ⟨ad, ys, e, hb2, hl2, hcy, v, rfl, hkz2, A2, n2, c2, rfl, r1, r2, r3⟩ := h.hs.2 j b hj
      obtain rfl := Option.some.inj e
      refine ⟨p, _, rfl, hb2, rfl, fun k u hk => ?_, _, rfl, hkz2, A2, n2, c2, rfl, r1, r2, vn_keep r3 hK (Nat.le_refl _)⟩
      have hk2 : k < 2 := (List.getElem?_eq_some_iff.1 hk).1
      rw [World.cell?_setCell_other]
      · exact hcy k u hk
      · intro e
        have e2 := congrArg Addr.off e
        rw [add_off, hoff] at e2
        omega
  · obtain rfl := Option.some.inj hr
    refine ⟨h1, t, cs.setIfInBounds q.off (.slice A n c), ?_⟩
    have e : q = ⟨p.block, q.off, none⟩ := by rw [hq, block_of_add]
    have h3 := h2.set_ q.off (.slice A n c)
    rw [← e] at h3
    exact h3
set_option maxRecDepth 100000 in
set_option maxHeartbeats 4000000 in
theorem rat3_any (g : Nat) (B1 : Option Addr) (m1 d1 : Nat) (vP : Value) (L : Sp) (Hl : List Hs) (key : ByteArray) (w : World) (h : RSh w g B1 m1 d1 vP L Hl) :
    Calls Try.prog 77 #[.pointer (some ⟨g, 0, none⟩), .string key] w fun e w' => e = .returned (.int .i64 (atFrom key 0 Hl)) ∧ Below w.heap.size w w' := by
  have hm := h.m1
  unfold maxLen at hm
  have hl := h.hs.1
  have hge : m1 ≤ Hl.length := by omega
  have hle : Hl.length ≤ m1 := by omega
  clear hl
  go_enter Try.func77, Try.ntmps77
  go_wp2
  go_loopw [5] (fun i wr => AtRel key Hl w i wr) (fun i _ => m1 - (intOf i).toNat)
  case atStart => exact ⟨0, by omega, rfl, rfl, Below.refl _ _⟩
  case round =>
    obtain ⟨k, hk, rfl, hs, hb⟩ := hrel
    have hzz := hb.size
    have hr := h.below hb
    obtain ⟨gl, k0, k1, -, -, -⟩ := hr.blk.fiveC
    by_cases hlt : k < m1
    · obtain ⟨ad, a, A', n', c', rfl, ha, hbk, hok, c0, c1, hn', hc', hsv⟩ := hr.hist.hs hlt
      have hd1 : decide ((k : Int) < (m1 : Int)) = true := by simp; omega
      have hk0 : (0 : Int) ≤ (k : Int) := by omega
      have hk1 : (k : Int) < (m1 : Int) := by omega
      rw [atFrom_drop ha] at hs
      clear ha
      cases he : (a.key.toList == key.toList)
      · rw [he] at hs
        have HS := Lib.hid (show atFrom key (k + 1) (Hl.drop (k + 1)) = atFrom key 0 Hl from hs)
        clear hs
        go_wp2
        go_roundw
        case rel => exact ⟨k + 1, by omega, by go_num, HS.out, hb⟩
        case measure => simp [intOf]; omega
      · rw [he] at hs
        have HS := Lib.hid (show (k : Int) = atFrom key 0 Hl from hs)
        clear hs
        go_wp2
        go_ret
        rw [← HS.out]
        exact ⟨rfl, hb⟩
    · have hd1 : decide ((k : Int) < (m1 : Int)) = false := by simp; omega
      rw [List.drop_of_length_le (by omega)] at hs
      have HS := Lib.hid (show (-1 : Int) = atFrom key 0 Hl from hs)
      clear hs
      go_wp2
      go_ret
      rw [← HS.out]
      exact ⟨rfl, hb⟩

set_option maxRecDepth 100000 in
set_option maxHeartbeats 8000000 in
theorem rupto3_any (g : Nat) (B1 : Option Addr) (m1 d1 : Nat) (vP : Value) (L : Sp) (Hl : List Hs) (key : ByteArray) (s : Sp) (w : World) (h : RSh w g B1 m1 d1 vP L Hl) :
    Calls Try.prog 51 #[.pointer (some ⟨g, 0, none⟩), .string key, s.val, .bool false] w fun e w' => e = .returned (.agg (seenArr key (lastUp s (rvers key Hl)))) ∧ Below w.heap.size w w' := by
  have hm := h.m1
  unfold maxLen at hm
  have hl := h.hs.1
  have hX : Below w.heap.size w (((w.alloc (.cells s.arr 26)).alloc (.cells (seenArr ⟨#[]⟩ zeroVn) 98)).alloc (.cells (seenArr key zeroVn) 98)) := by go_grown
  have i8 : Blk (((w.alloc (.cells s.arr 26)).alloc (.cells (seenArr ⟨#[]⟩ zeroVn) 98)).alloc (.cells (seenArr key zeroVn) 98)) (w.heap.size + 1) 98 (seenArr ⟨#[]⟩ zeroVn) := (Blk.new' _ _ (by simp)).alloc _
  have i6 : Blk (((w.alloc (.cells s.arr 26)).alloc (.cells (seenArr ⟨#[]⟩ zeroVn) 98)).alloc (.cells (seenArr key zeroVn) 98)) w.heap.size 26 s.arr := ((Blk.new _ _ _).alloc _).alloc _
  have i9 : Blk (((w.alloc (.cells s.arr 26)).alloc (.cells (seenArr ⟨#[]⟩ zeroVn) 98)).alloc (.cells (seenArr key zeroVn) 98)) (w.heap.size + 1 + 1) 98 (seenArr key zeroVn) := Blk.new' _ _ (by simp)
  have hA := rat3_any g B1 m1 d1 vP L Hl key _ (h.below hX)
  rcases at_vers key Hl with ⟨hneg, hv⟩ | ⟨i, hh, hat, hi, hv⟩
  · have HV := Lib.hid hv
    clear hv hl
    generalize atFrom key 0 Hl = z at *
    have hz : decide (z < 0) = true := by simp; omega
    go_enter Try.func51, Try.ntmps51
    go_wp2_with (go_at_call 77; fail)
    refine hA.mono ?_
    rintro e w1 ⟨rfl, hb1⟩
    have b8 := i8.below hb1 i8.lt
    have b6 := i6.below hb1 i6.lt
    have b9 := i9.below hb1 i9.lt
    have hb := hX.trans (hb1.mono hX.size)
    obtain ⟨g9, x0, x1, x2, x3, x4, x5, x6⟩ := b9.sevenC
    have l8 := b8.lt
    go_wp2_with (refine wpList_store_row rfl 98 _ _ rfl _ _ rfl rfl _ _ b8 (by kernel_rfl) (by kernel_rfl) (by kernel_rfl) ?_)
    refine post_cell rfl (by rfl) (b8.setRow _) rfl rfl (by kernel_rfl) ?_
    rw [HV.out]
    exact ⟨rfl, below_setRow hb (by omega) _⟩
  · have HV := Lib.hid hv
    have hilt : i < m1 := by have := (List.getElem?_eq_some_iff.1 hi).1; omega
    rw [hat] at hA
    have HI := Lib.hid hi
    have hz : decide ((i : Int) < 0) = false := by simp
    have hi0 : (0 : Int) ≤ (i : Int) := by omega
    have hi1 : (i : Int) < (m1 : Int) := by omega
    clear hv hl hat hi
    go_enter Try.func51, Try.ntmps51
    go_wp2_with (go_at_call 77; fail)
    refine hA.mono ?_
    rintro e w1 ⟨rfl, hb1⟩
    have b8 := i8.below hb1 i8.lt
    have b6 := i6.below hb1 i6.lt
    have b9 := i9.below hb1 i9.lt
    have hb0 := hX.trans (hb1.mono hX.size)
    clear hb1 i6 i8 i9 hX hA
    go_wp2
    go_loopw [11] (fun j wr => UpRel key s hh.vs w j wr) (fun j _ => hh.vs.length - (intOf j).toNat)
    case atStart => exact ⟨0, by omega, rfl, b6, b8, b9, hb0⟩
    case round =>
      clear b6 b8 b9 hb0
      obtain ⟨k, hk', rfl, b6, b8, b9, hb⟩ := hrel
      have hzz := hb.size
      have hr := h.below hb
      obtain ⟨gl, k0, k1', -, -, -⟩ := hr.blk.fiveC
      obtain ⟨ad, a1, A', n', c', rfl, ha1, hbk, hok, d0, d1', hn', hc', hsv⟩ := hr.hist.hs hilt
      obtain rfl : hh = a1 := Option.some.inj (HI.out.symm.trans ha1)
      have hll := hsv.1
      have hge : n' ≤ hh.vs.length := by omega
      have hle : hh.vs.length ≤ n' := by omega
      unfold maxLen at hc'
      clear hll ha1
      by_cases hlt : k < n'
      · obtain ⟨bd, a, rfl, ha, hbk2, hok2, c0, c1, c2, c3, c4, c5⟩ := hsv.vn hlt
        have hd1 : decide ((k : Int) < (n' : Int)) = true := by simp; omega
        have hk0 : (0 : Int) ≤ (k : Int) := by omega
        have hk1 : (k : Int) < (n' : Int) := by omega
        have HS := Lib.hid (upV_take (s := s) ha)
        have b11 := Blk.new wr 79 #[.int .i64 a.s.w, .int .i64 a.s.l, .int .i64 a.s.n, .int .i64 a.v.k, .float .f64 a.v.n, .string a.v.t]
        have b9' := b9.alloc (.cells #[.int .i64 a.s.w, .int .i64 a.s.l, .int .i64 a.s.n, .int .i64 a.v.k, .float .f64 a.v.n, .string a.v.t] 79)
        have b6' := b6.alloc (.cells #[.int .i64 a.s.w, .int .i64 a.s.l, .int .i64 a.s.n, .int .i64 a.v.k, .float .f64 a.v.n, .string a.v.t] 79)
        have b8' := b8.alloc (.cells #[.int .i64 a.s.w, .int .i64 a.s.l, .int .i64 a.s.n, .int .i64 a.v.k, .float .f64 a.v.n, .string a.v.t] 79)
        have hb' := hb.alloc hzz (.cells #[.int .i64 a.s.w, .int .i64 a.s.l, .int .i64 a.s.n, .int .i64 a.v.k, .float .f64 a.v.n, .string a.v.t] 79)
        clear ha
        have hcm := fun w => rcmp_any a.s s w
        obtain ⟨l11, p0, p1, p2, p3, p4, p5⟩ := b11.six
        obtain ⟨l6, o0, o1, o2⟩ := b6'.three
        generalize hg11 : wr.heap.size = g11 at *
        go_wp2_with fail
        refine (hcm _).mono ?_
        rintro e wz ⟨rfl, hb2⟩
        replace b11 := b11.below hb2 b11.lt
        replace b6' := b6'.below hb2 b6'.lt
        replace b8' := b8'.below hb2 b8'.lt
        replace b9' := b9'.below hb2 b9'.lt
        replace hb' := hb'.trans (hb2.mono hb'.size)
        clear p0 p1 p2 p3 p4 p5 o0 o1 o2 l11 l6 hb2 hcm
        by_cases hzz2 : a.s.cmp s ≤ 0
        case' neg =>
          have hd2 : decide (a.s.cmp s ≤ 0) = false := decide_eq_false hzz2
          have HS2 := Lib.hid (HS.out.trans (if_neg (by rw [hd2]; exact Bool.false_ne_true)))
          clear HS
          go_wp2
          go_roundw
          case rel =>
            refine ⟨k + 1, by omega, by go_num, b6', b8', ?_, hb'⟩
            rw [HS2.out]
            exact b9'
          case measure => simp [intOf]; omega
        have hd2 : decide (a.s.cmp s ≤ 0) = true := decide_eq_true hzz2
        replace HS := Lib.hid (HS.out.trans (if_pos hd2))
        go_wp2_with fail
        obtain ⟨l11, x0, x1, x2, x3, x4, x5⟩ := b11.six
        obtain ⟨g9, y0, y1, y2, y3, y4, y5, y6⟩ := b9'.sevenC
        have ne9 : g11 ≠ w.heap.size + 1 + 1 := by have := b9.lt; omega
        have ne10 : ¬ w.heap.size + 1 + 1 = g11 := fun e => ne9 e.symm
        clear c0 c1 c2 c3 c4 c5
        have ne8 : g11 ≠ w.heap.size := by have := b6.lt; omega
        have ne7 : w.heap.size ≠ w.heap.size + 1 + 1 := by omega
        refine wp_region_held_drew (S := fun w' => Blk w' g11 79 #[.int .i64 a.s.w, .int .i64 a.s.l, .int .i64 a.s.n, .int .i64 a.v.k, .float .f64 a.v.n, .string a.v.t]) (by kernel_rfl) b11 (fun hHeld => ?_)
        refine wpAnyH_take (i := 0) (oi := ⟨some 53, _, _, _, _, _⟩) (v := .pointer (some ⟨g11, 3, none⟩)) rfl (by kernel_rfl) (by kernel_rfl) (by kernel_rfl) (fun _ _ _ h => h) (Or.inl ⟨by kernel_rfl, fun w hSw => by clear hSw; go_simp⟩) hHeld ?_
        go_frame
        refine wpAnyH_take (i := 1) (oi := ⟨some 54, _, _, _, _, _⟩) rfl (by kernel_rfl) (by kernel_rfl) (by kernel_rfl) (fun _ _ _ h => h) (yieldsIf_load_mid (by kernel_rfl) _ _ rfl g11 3 rfl [.int .i64 a.v.k, .float .f64 a.v.n, .string a.v.t] _ (fun w h => h.range 3 _ (three_of rfl rfl rfl)) rfl rfl (by kernel_rfl)) hHeld ?_
        go_frame
        refine wpAnyH_take (i := 2) (oi := ⟨some 55, _, _, _, _, _⟩) (v := .pointer (some ⟨g11, 0, none⟩)) rfl (by kernel_rfl) (by kernel_rfl) (by kernel_rfl) (fun _ _ _ h => h) (Or.inl ⟨by kernel_rfl, fun w hSw => by clear hSw; go_simp⟩) hHeld ?_
        go_frame
        refine wpAnyH_take (i := 3) (oi := ⟨some 56, _, _, _, _, _⟩) rfl (by kernel_rfl) (by kernel_rfl) (by kernel_rfl) (fun _ _ _ h => h) (yieldsIf_load_mid (by kernel_rfl) _ _ rfl g11 0 rfl [.int .i64 a.s.w, .int .i64 a.s.l, .int .i64 a.s.n] _ (fun w h => h.range 0 _ (three_of rfl rfl rfl)) rfl rfl (by kernel_rfl)) hHeld ?_
        go_frame
        refine wpAnyH_take (i := 4) (oi := ⟨some 57, _, _, _, _, _⟩) (v := .pointer (some ⟨w.heap.size + 1 + 1, 1, none⟩)) rfl (by kernel_rfl) (by kernel_rfl) (by kernel_rfl) (fun _ _ _ h => h) (Or.inl ⟨by kernel_rfl, fun w hSw => by clear hSw; go_simp⟩) hHeld ?_
        go_frame
        have b9a := b9'.drew.setCells3 (x := .int .i64 a.v.k) (y := .float .f64 a.v.n) (z := .string a.v.t)
        have b11a := b11.drew.setCells3_far (o := 1) (x := .int .i64 a.v.k) (y := .float .f64 a.v.n) (z := .string a.v.t) ne9
        have b8a := b8'.drew.setCells3_far (b := w.heap.size + 1 + 1) (o := 1) (x := .int .i64 a.v.k) (y := .float .f64 a.v.n) (z := .string a.v.t) (by omega)
        have b6a := b6'.drew.setCells3_far (b := w.heap.size + 1 + 1) (o := 1) (x := .int .i64 a.v.k) (y := .float .f64 a.v.n) (z := .string a.v.t) (by omega)
        have hba := below_setCells3 (b := w.heap.size + 1 + 1) (o := 1) (x := .int .i64 a.v.k) (y := .float .f64 a.v.n) (z := .string a.v.t) hb'.drew (by omega)
        refine wpAnyH_store_mid (i := 5) (by kernel_rfl) rfl rfl _ _ _ rfl (w.heap.size + 1 + 1) 1 #[.int .i64 a.v.k, .float .f64 a.v.n, .string a.v.t] rfl rfl (b9'.drew.there 1 3 (by simp)) (by kernel_rfl) (by kernel_rfl) b11a ?_
        go_frame
        generalize (wz.drew.setCells (w.heap.size + 1 + 1) 1 [.int .i64 a.v.k, .float .f64 a.v.n, .string a.v.t]) = wq at *
        refine wpAnyH_take (i := 6) (oi := ⟨some 58, _, _, _, _, _⟩) (v := .pointer (some ⟨w.heap.size + 1 + 1, 4, none⟩)) rfl (by kernel_rfl) (by kernel_rfl) (by kernel_rfl) (fun _ _ _ h => h) (Or.inl ⟨by kernel_rfl, fun w hSw => by clear hSw; go_simp⟩) b11a ?_
        go_frame
        have b9c := b9a.setCells3' (x := .int .i64 a.s.w) (y := .int .i64 a.s.l) (z := .int .i64 a.s.n)
        have b11c := b11a.setCells3_far (b := w.heap.size + 1 + 1) (o := 4) (x := .int .i64 a.s.w) (y := .int .i64 a.s.l) (z := .int .i64 a.s.n) ne9
        have b8c := b8a.setCells3_far (b := w.heap.size + 1 + 1) (o := 4) (x := .int .i64 a.s.w) (y := .int .i64 a.s.l) (z := .int .i64 a.s.n) (by omega)
        have b6c := b6a.setCells3_far (b := w.heap.size + 1 + 1) (o := 4) (x := .int .i64 a.s.w) (y := .int .i64 a.s.l) (z := .int .i64 a.s.n) (by omega)
        have hbc := below_setCells3 (b := w.heap.size + 1 + 1) (o := 4) (x := .int .i64 a.s.w) (y := .int .i64 a.s.l) (z := .int .i64 a.s.n) hba (by omega)
        refine wpAnyH_store_mid (i := 7) (by kernel_rfl) rfl rfl _ _ _ rfl (w.heap.size + 1 + 1) 4 #[.int .i64 a.s.w, .int .i64 a.s.l, .int .i64 a.s.n] rfl rfl (b9a.there 4 3 (by simp)) (by kernel_rfl) (by kernel_rfl) b11c ?_
        generalize (wq.setCells (w.heap.size + 1 + 1) 4 [.int .i64 a.s.w, .int .i64 a.s.l, .int .i64 a.s.n]) = wp at *
        refine wpAnyH_done (by kernel_rfl) ?_ _
        go_frame
        go_wp2
        go_roundw
        case rel =>
          refine ⟨k + 1, by omega, by go_num, b6c, b8c, ?_, hbc⟩
          rw [HS.out]
          exact b9c
        case measure => simp [intOf]; omega
      · have hd1 : decide ((k : Int) < (n' : Int)) = false := by simp; omega
        rw [List.take_of_length_le (by omega)] at b9
        obtain ⟨g9, x0, x1, x2, x3, x4, x5, x6⟩ := b9.sevenC
        have l8 := b8.lt
        go_wp2_with (refine wpList_store_row rfl 98 _ _ rfl _ _ rfl rfl _ _ b8 (by kernel_rfl) (by kernel_rfl) (by kernel_rfl) ?_)
        refine post_cell rfl (by rfl) (b8.setRow _) rfl rfl (by kernel_rfl) ?_
        rw [HV.out]
        exact ⟨rfl, below_setRow hb (by omega) _⟩

end Go.Proofs.Ytipacjbegfingaa
/- Words for Resolve: the pending ones set anew; writes hold no slices; how long histories grow. -/
namespace Go.Proofs.Ytipacjbegfingaa
set_option linter.unusedVariables false
open Go.RowKit Fl

theorem RSh.setP {w : World} {g m1 d1 m d : Nat} {B1 B : Option Addr} {L : Sp} {Hl : List Hs} (h : RSh w g B1 m1 d1 (.slice B m d) L Hl) (v : Value) :
    RSh (w.setCell ⟨g, 1, none⟩ v) g B1 m1 d1 v L Hl ∧ KeepN w (w.setCell ⟨g, 1, none⟩ v) ∧ Chg w (w.setCell ⟨g, 1, none⟩ v) g B1 := by
  have hc : w.cell? ⟨g, 1, none⟩ = some (.slice B m d) := h.blk.cell 1
  have hK := KeepN.set hc v
  have hz : (w.setCell ⟨g, 1, none⟩ v).heap.size = w.heap.size := by simp [World.setCell]
  have hne : ∀ p, B1 = some p → p.block ≠ g := fun p hp => by have := (h.row p hp).1; omega
  refine ⟨⟨h.blk.set_ 1 v, hs_keep h.hs (fun p hp => Below.heap_setCell _ _ _ _ (hne p hp)) hK (Nat.le_of_eq hz.symm), h.le1, h.d1m, h.m1, fun p hp => ?_⟩, hK, ⟨rfl, rfl, rfl, Nat.le_of_eq hz.symm, fun k hk h4 _ => Below.heap_setCell _ _ _ _ h4⟩⟩
  obtain ⟨h1, t, cs, h2⟩ := h.row p hp
  exact ⟨h1, t, cs, h2.far (p := ⟨g, 1, none⟩) (hne p hp) _⟩
theorem wt_keep {w w' : World} {A : Option Addr} {n B B' : Nat} {l : List Wt} (h : Sl WtRel 4 w B A n l) (hk : KeepN w w') (hB : B ≤ B') : Sl WtRel 4 w' B' A n l :=
  ⟨h.1, fun i a hi => by
    obtain ⟨ad, cs, e, hb, hl, hc, hr⟩ := h.2 i a hi
    refine ⟨ad, cs, e, by omega, hl, fun j u hj => hk _ _ (hc j u hj) ?_, hr⟩
    obtain ⟨rfl, _⟩ := hr
    intro A n c e
    subst e
    have := List.mem_of_getElem? hj
    simp [Wt.cells] at this⟩
/-- no more histories than, and none with more versions than -/
def LenH (M : Nat) (H : List Hs) : Prop := H.length ≤ M ∧ ∀ a ∈ H, a.vs.length ≤ M
theorem insV_len (v : Vn) (l : List Vn) : (insV v l).length = l.length + 1 := by
  unfold insV
  have h := congrArg List.length (List.takeWhile_append_dropWhile (p := fun x : Vn => decide (x.s.cmp v.s < 0)) (l := l))
  rw [List.length_append] at h
  rw [List.length_append, List.length_cons]
  omega
theorem insH_lenH {M : Nat} (k : ByteArray) (v : Vn) : ∀ {H : List Hs}, LenH M H → LenH (M + 1) (insH k v H) := by
  intro H
  suffices hq : (insH k v H).length ≤ H.length + 1 ∧ ∀ a ∈ insH k v H, a.vs.length ≤ 1 ∨ ∃ b ∈ H, a.vs.length ≤ b.vs.length + 1 by
    intro h
    refine ⟨by have := h.1; omega, fun a ha => ?_⟩
    rcases hq.2 a ha with e | ⟨b, hb, e⟩
    · omega
    · have := h.2 b hb; omega
  induction H with
  | nil => exact ⟨by simp [insH], fun a ha => by simp [insH] at ha; subst ha; exact .inl (by simp)⟩
  | cons b l ih =>
    by_cases he : (b.key.toList == k.toList) = true
    · have e : insH k v (b :: l) = ⟨b.key, insV v b.vs⟩ :: l := by show (if _ then _ else _) = _; rw [if_pos he]
      rw [e]
      refine ⟨by simp, fun a ha => ?_⟩
      rcases List.mem_cons.1 ha with rfl | ha
      · exact .inr ⟨b, List.mem_cons_self .., by show (insV v b.vs).length ≤ _; rw [insV_len]; exact Nat.le_refl _⟩
      · exact .inr ⟨a, List.mem_cons_of_mem _ ha, by omega⟩
    · by_cases hl : bl b.key k = true
      · have e : insH k v (b :: l) = b :: insH k v l := by show (if _ then _ else _) = _; rw [if_neg he, if_pos hl]
        rw [e]
        refine ⟨by rw [List.length_cons, List.length_cons]; have := ih.1; omega, fun a ha => ?_⟩
        rcases List.mem_cons.1 ha with rfl | ha
        · exact .inr ⟨a, List.mem_cons_self .., by omega⟩
        · rcases ih.2 a ha with e | ⟨c, hc, e⟩
          · exact .inl e
          · exact .inr ⟨c, List.mem_cons_of_mem _ hc, e⟩
      · have e : insH k v (b :: l) = ⟨k, [v]⟩ :: b :: l := by show (if _ then _ else _) = _; rw [if_neg he, if_neg hl]
        rw [e]
        refine ⟨by simp, fun a ha => ?_⟩
        rcases List.mem_cons.1 ha with rfl | ha
        · exact .inl (by simp)
        · exact .inr ⟨a, ha, by omega⟩
theorem insAll_snoc (at_ : Sp) (W : List Wt) (a : Wt) (H : List Hs) : insAll at_ (W ++ [a]) H = insH a.key ⟨at_, a.v⟩ (insAll at_ W H) := by
  unfold insAll
  rw [List.foldl_append]; rfl
theorem insAll_lenH {M : Nat} (at_ : Sp) : ∀ (W : List Wt) {H : List Hs} {N : Nat}, LenH N H → N + W.length ≤ M → LenH M (insAll at_ W H) := by
  intro W
  induction W with
  | nil => intro H N h hM; exact ⟨by have := h.1; simp at hM; show H.length ≤ M; omega, fun a ha => by have := h.2 a ha; simp at hM; omega⟩
  | cons a W ih =>
    intro H N h hM
    rw [List.length_cons] at hM
    exact ih (insH_lenH a.key ⟨at_, a.v⟩ h) (by omega)
end Go.Proofs.Ytipacjbegfingaa
/- The walk of the document's Would. -/
namespace Go.Proofs.Ytipacjbegfingaa
set_option linter.unusedVariables false
open Go.RowKit Fl
attribute [local go_sem] run_store_float

theorem stamp_run (a t : Sp) (w : World) : (Op.equalIn 10000 26 (.agg #[.int .i64 a.w, .int .i64 a.l, .int .i64 a.n]) (.agg #[.int .i64 t.w, .int .i64 t.l, .int .i64 t.n])).run Try.prog w = .ok (decide (a = t)) w := by
  have e : decide (a = t) = ((a.w == t.w) && (a.l == t.l) && (a.n == t.n)) := by
    obtain ⟨a1, a2, a3⟩ := a
    obtain ⟨b1, b2, b3⟩ := t
    rw [Bool.eq_iff_iff]
    simp [and_assoc]
  rw [e]
  cases h1 : (a.w == t.w) <;> cases h2 : (a.l == t.l) <;> cases h3 : (a.n == t.n)
  all_goals simp [go_sem, h1, h2, h3]
def wouldV (at_ : Sp) (v : Vn) : Bool := decide (v.s = at_)
def wouldF (H : List Hs) (at_ : Sp) (a : Wt) : Bool := (rvers a.key H).any (wouldV at_)
def WRel1 (H : List Hs) (at_ : Sp) (l : List Wt) (w : World) (i : Value) (wr : World) : Prop :=
  ∃ k : Nat, k ≤ l.length ∧ i = .int .i64 (k : Int) ∧ (l.drop k).any (wouldF H at_) = l.any (wouldF H at_) ∧ Blk wr (w.heap.size + 1) 26 at_.arr ∧ Below w.heap.size w wr
def WRel2 (at_ : Sp) (l : List Vn) (w wo : World) (i : Value) (wr : World) : Prop :=
  ∃ k : Nat, k ≤ l.length ∧ i = .int .i64 (k : Int) ∧ (l.drop k).any (wouldV at_) = l.any (wouldV at_) ∧ Blk wr (w.heap.size + 1) 26 at_.arr ∧ Below w.heap.size w wr ∧ Below wo.heap.size wo wr
set_option maxRecDepth 100000 in
set_option maxHeartbeats 8000000 in
theorem rwould_any (g : Nat) (B1 B2 : Option Addr) (m1 d1 m2 d2 : Nat) (L : Sp) (Hl : List Hs) (Pl : List Pn) (t : Tx) (commit : Bool) (at_ : Sp) (w : World) (h : RSt w g B1 m1 d1 B2 m2 d2 L Hl Pl) :
    Calls Try.prog 49 #[.pointer (some ⟨g, 0, none⟩), t.val, .bool commit, at_.val] w fun e w' => e = .returned (.int .i64 (wouldE Hl Pl t commit at_)) ∧ Below w.heap.size w w' := by
  have hm := h.m2
  unfold maxLen at hm
  have hm1 := h.m1
  unfold maxLen at hm1
  have hX : Below w.heap.size w ((w.alloc (.cells #[.int .i64 t.c, .int .i64 t.l, .int .i64 t.s] 43)).alloc (.cells at_.arr 26)) := by go_grown
  have i5 : Blk ((w.alloc (.cells #[.int .i64 t.c, .int .i64 t.l, .int .i64 t.s] 43)).alloc (.cells at_.arr 26)) w.heap.size 43 #[.int .i64 t.c, .int .i64 t.l, .int .i64 t.s] := (Blk.new _ _ _).alloc _
  have i7 : Blk ((w.alloc (.cells #[.int .i64 t.c, .int .i64 t.l, .int .i64 t.s] 43)).alloc (.cells at_.arr 26)) (w.heap.size + 1) 26 at_.arr := Blk.new' _ _ (by simp)
  have hW := rwhere_any g B1 B2 m1 d1 m2 d2 L Hl Pl t _ (h.below hX)
  rcases wh_find t Pl 0 with ⟨hz, hf⟩ | ⟨i, p, hz, hi, hf⟩
  · have HE := Lib.hid (show wouldE Hl Pl t commit at_ = 8 by unfold wouldE; rw [hf])
    clear hf
    generalize whFrom t 0 Pl = z at *
    have hd : decide (z < 0) = true := decide_eq_true hz
    go_enter Try.func49, Try.ntmps49
    go_wp2_with fail
    refine hW.mono ?_
    rintro e w1 ⟨rfl, hb1⟩
    go_wp2
    go_ret
    rw [HE.out]
    exact ⟨rfl, hX.trans (hb1.mono hX.size)⟩
  rw [hz, Nat.zero_add] at hW
  have hd : decide ((i : Int) < 0) = false := by simp
  have hi0 : (0 : Int) ≤ (i : Int) := by omega
  have hi2 : i < m2 := by have := (List.getElem?_eq_some_iff.1 hi).1; have := h.ps.1; omega
  have hi1 : (i : Int) < (m2 : Int) := by omega
  clear hz
  cases commit
  · have HE := Lib.hid (show wouldE Hl Pl t false at_ = 0 by unfold wouldE; rw [hf]; rfl)
    clear hf
    go_enter Try.func49, Try.ntmps49
    go_wp2_with fail
    refine hW.mono ?_
    rintro e w1 ⟨rfl, hb1⟩
    go_wp2
    go_ret
    rw [HE.out]
    exact ⟨rfl, hX.trans (hb1.mono hX.size)⟩
  have hE0 : wouldE Hl Pl t true at_ = if !at_.may then 17 else if decide (at_.cmp p.s < 0) then 20 else if p.w.any (wouldF Hl at_) then 9 else 0 := by unfold wouldE; rw [hf]; rfl
  have HE0 := Lib.hid hE0
  have HI := Lib.hid hi
  have hMy := fun w => rhmay_any at_ w
  clear hf hE0 hi
  go_enter Try.func49, Try.ntmps49
  go_wp2_with fail
  refine hW.mono ?_
  rintro e w1 ⟨rfl, hb1⟩
  have j7 := i7.below hb1 i7.lt
  have hX1 := hX.trans (hb1.mono hX.size)
  clear hW hb1 i5 i7 hX
  obtain ⟨l7, y0, y1, y2⟩ := j7.three
  cases hmy : at_.may
  · rw [hmy] at hMy
    have HE := Lib.hid (show wouldE Hl Pl t true at_ = 17 by rw [HE0.out, hmy]; rfl)
    clear hmy
    go_wp2_with fail
    refine (hMy _).mono ?_
    rintro e w2 ⟨rfl, hb2⟩
    go_wp2
    go_ret
    rw [HE.out]
    exact ⟨rfl, hX1.trans (hb2.mono hX1.size)⟩
  rw [hmy] at hMy
  have HE1 := Lib.hid (show wouldE Hl Pl t true at_ = if decide (at_.cmp p.s < 0) then 20 else if p.w.any (wouldF Hl at_) then 9 else 0 by rw [HE0.out, hmy]; rfl)
  clear hmy HE0
  go_wp2_with fail
  refine (hMy _).mono ?_
  rintro e w2 ⟨rfl, hb2⟩
  have k7 := j7.below hb2 j7.lt
  have hX2 := hX1.trans (hb2.mono hX1.size)
  clear hMy y0 y1 y2 l7 j7 hb2 hX1
  have hz2 := hX2.size
  have hr := h.below hX2
  obtain ⟨gl, k0, k1, -, -, -⟩ := hr.blk.fiveC
  obtain ⟨l7, y0, y1, y2⟩ := k7.three
  obtain ⟨ad, a, A3, n3, c3, A4, n4, c4, rfl, ha, hbk, hxt, hxs, e0, e1, e2, e3, e4, e5, e6, e7, hn3, hc3, hs3, hn4, hc4, hs4⟩ := hr.pend.pn hi2
  obtain rfl : p = a := Option.some.inj (HI.out.symm.trans ha)
  have hLs := fun w => rless_any at_ p.s w
  have hfl : (p.w).length = n4 := hs4.1
  cases hcl : decide (at_.cmp p.s < 0)
  case' true =>
    rw [hcl] at hLs
    have HE := Lib.hid (show wouldE Hl Pl t true at_ = 20 by rw [HE1.out, hcl]; rfl)
    clear hcl hfl
    go_wp2_with fail
    go_region_held3 (fun w' => w'.cell? ⟨g, 1, none⟩ = some (.slice (some ad) m2 d2) ∧ w'.cell? ⟨(ad.add (i * 8)).block, (ad.add (i * 8)).off + 3, none⟩ = some (.int .i64 p.s.w) ∧ w'.cell? ⟨(ad.add (i * 8)).block, (ad.add (i * 8)).off + 4, none⟩ = some (.int .i64 p.s.l) ∧ w'.cell? ⟨(ad.add (i * 8)).block, (ad.add (i * 8)).off + 5, none⟩ = some (.int .i64 p.s.n) ∧ w'.cell? ⟨w.heap.size + 1, 0, none⟩ = some (.int .i64 at_.w) ∧ w'.cell? ⟨w.heap.size + 1, 1, none⟩ = some (.int .i64 at_.l) ∧ w'.cell? ⟨w.heap.size + 1, 2, none⟩ = some (.int .i64 at_.n))
      (first | exact ⟨k1, e3, e4, e5, y0, y1, y2⟩ | exact ⟨(hb9.cell (by exact gl)).trans k1, (hb9.cell (by exact hbk)).trans e3, (hb9.cell (by exact hbk)).trans e4, (hb9.cell (by exact hbk)).trans e5, (hb9.cell (by exact l7)).trans y0, (hb9.cell (by exact l7)).trans y1, (hb9.cell (by exact l7)).trans y2⟩)
      (first | ((with_reducible refine (hLs _).mono ?_); rintro e w5 ⟨rfl, hb5⟩; have hb9 : Below w2.heap.size w2 w5 := (Below.refl w2.heap.size w2).drew.trans hb5))
    go_wp2
    go_ret
    rw [HE.out]
    exact ⟨rfl, hX2.trans (hb9.mono hz2)⟩
  rw [hcl] at hLs
  have HE := Lib.hid (show wouldE Hl Pl t true at_ = if p.w.any (wouldF Hl at_) then 9 else 0 by rw [HE1.out, hcl]; rfl)
  have hge4 : n4 ≤ p.w.length := by omega
  have hle4 : p.w.length ≤ n4 := by omega
  clear hcl HE1 hfl
  go_wp2_with fail
  go_region_held3 (fun w' => w'.cell? ⟨g, 1, none⟩ = some (.slice (some ad) m2 d2) ∧ w'.cell? ⟨(ad.add (i * 8)).block, (ad.add (i * 8)).off + 3, none⟩ = some (.int .i64 p.s.w) ∧ w'.cell? ⟨(ad.add (i * 8)).block, (ad.add (i * 8)).off + 4, none⟩ = some (.int .i64 p.s.l) ∧ w'.cell? ⟨(ad.add (i * 8)).block, (ad.add (i * 8)).off + 5, none⟩ = some (.int .i64 p.s.n) ∧ w'.cell? ⟨w.heap.size + 1, 0, none⟩ = some (.int .i64 at_.w) ∧ w'.cell? ⟨w.heap.size + 1, 1, none⟩ = some (.int .i64 at_.l) ∧ w'.cell? ⟨w.heap.size + 1, 2, none⟩ = some (.int .i64 at_.n))
    (first | exact ⟨k1, e3, e4, e5, y0, y1, y2⟩ | exact ⟨(hb9.cell (by exact gl)).trans k1, (hb9.cell (by exact hbk)).trans e3, (hb9.cell (by exact hbk)).trans e4, (hb9.cell (by exact hbk)).trans e5, (hb9.cell (by exact l7)).trans y0, (hb9.cell (by exact l7)).trans y1, (hb9.cell (by exact l7)).trans y2⟩)
    (first | ((with_reducible refine (hLs _).mono ?_); rintro e w5 ⟨rfl, hb5⟩; have hb9 : Below w2.heap.size w2 w5 := (Below.refl w2.heap.size w2).drew.trans hb5))
  have k79 := k7.below hb9 k7.lt
  have hX3 := hX2.trans (hb9.mono hz2)
  clear hLs k7 y0 y1 y2 l7 hs3 hs4 e0 e1 e2 e3 e4 e5 e6 e7 hb9 hX2 hz2 k0 k1 gl hr ha hbk
  go_wp2_with fail
  go_loopw [10] (fun i wr => WRel1 Hl at_ p.w w i wr) (fun i _ => n4 - (intOf i).toNat)
  case atStart => exact ⟨0, by omega, rfl, rfl, k79, hX3⟩
  case round =>
    clear k79 hX3
    obtain ⟨j, hj, rfl, hs, b7, hb⟩ := hrel
    obtain ⟨wo, rfl⟩ : ∃ wo, wo = wr := ⟨_, rfl⟩
    have hzz := hb.size
    have hr := h.below hb
    obtain ⟨gl, k0, k1, -, -, -⟩ := hr.blk.fiveC
    obtain ⟨ad', a, A3', n3', c3', A4', n4', c4', e, ha, hbk, -, -, e0, e1, e2, e3, e4, e5, e6, e7, hn3', hc3', hs3', hn4', hc4', hs4⟩ := hr.pend.pn hi2
    injection e with e
    subst e
    obtain rfl : p = a := Option.some.inj (HI.out.symm.trans ha)
    obtain rfl : n4' = n4 := by have := hs4.1; omega
    unfold maxLen at hc4'
    have hl4 : n4' ≤ p.w.length := by have := hs4.1; omega
    have hl4' : p.w.length ≤ n4' := by have := hs4.1; omega
    clear ha hs3'
    by_cases hlt : j < n4'
    · obtain ⟨bd, x, rfl, hx, hbk2, hokx, x0, x1, x2, x3⟩ := hs4.wt hlt
      have hd1 : decide ((j : Int) < (n4' : Int)) = true := by simp; omega
      have hk0 : (0 : Int) ≤ (j : Int) := by omega
      have hk1 : (j : Int) < (n4' : Int) := by omega
      have hAt := rat_any g B1 (some ad) m1 d1 m2 d2 L Hl Pl x.key wo hr
      rw [any_drop hx] at hs
      clear hx
      rcases at_vers x.key Hl with ⟨hneg, hv⟩ | ⟨q, hh, hq, hqi, hv⟩
      · have hfx : wouldF Hl at_ x = false := by unfold wouldF; rw [hv]; rfl
        rw [hfx, Bool.false_or] at hs
        have HS := Lib.hid hs
        clear hs hfx hv
        generalize atFrom x.key 0 Hl = z at *
        have hdz : decide ((0 : Int) ≤ z) = false := by simp; omega
        go_wp2_with fail
        refine hAt.mono ?_
        rintro e w5 ⟨rfl, hb5⟩
        have b75 := b7.below hb5 b7.lt
        have hb9 := hb.trans (hb5.mono hzz)
        go_wp2_with fail
        go_loopw [12] (fun i wr => i = .int .i64 0 ∧ Blk wr (w.heap.size + 1) 26 at_.arr ∧ Below w.heap.size w wr) (fun i _ => 0)
        case atStart => exact ⟨rfl, b75, hb9⟩
        case round =>
          obtain ⟨rfl, b7', hb'⟩ := hrel
          go_wp2
          go_roundw
          case rel => exact ⟨j + 1, by omega, by go_num, HS.out, b7', hb'⟩
          case measure => simp [intOf]; omega
      · have hqm : q < m1 := by have := (List.getElem?_eq_some_iff.1 hqi).1; have := h.hs.1; omega
        have hFx : wouldF Hl at_ x = hh.vs.any (wouldV at_) := by unfold wouldF; rw [hv]
        rw [hFx] at hs
        have HQ := Lib.hid hqi
        have HS0 := Lib.hid hs
        rw [hq] at hAt
        have hdz : decide ((0 : Int) ≤ (q : Int)) = true := by simp
        have hq0 : (0 : Int) ≤ (q : Int) := by omega
        have hq1 : (q : Int) < (m1 : Int) := by omega
        clear hs hFx hv hq hqi
        go_wp2_with fail
        refine hAt.mono ?_
        rintro e w5 ⟨rfl, hb5⟩
        have b75 := b7.below hb5 b7.lt
        have hb9 := hb.trans (hb5.mono hzz)
        clear hAt k0 k1 e0 e1 e2 e3 e4 e5 e6 e7 x0 x1 x2 x3 hb5
        go_wp2_with fail
        go_loopw [12] (fun i wr => WRel2 at_ hh.vs w w5 i wr) (fun i _ => hh.vs.length - (intOf i).toNat)
        case atStart => exact ⟨0, by omega, rfl, rfl, b75, hb9, Below.refl _ _⟩
        case round =>
          clear b75 hb9
          obtain ⟨n, hn, rfl, hs2, b7', hb', hbo⟩ := hrel
          have hzz' := hb'.size
          have hr' := h.below hb'
          obtain ⟨gl', k0, k1, -, -, -⟩ := hr'.blk.fiveC
          obtain ⟨l7', y0, y1, y2⟩ := b7'.three
          obtain ⟨cd, a, A5, n5, c5, rfl, ha, hbkh, hkz, h0, h1, hn5, hc5, hsv⟩ := hr'.hist.hs hqm
          obtain rfl : hh = a := Option.some.inj (HQ.out.symm.trans ha)
          unfold maxLen at hc5
          have hl5 : n5 ≤ hh.vs.length := by have := hsv.1; omega
          have hl6 : hh.vs.length ≤ n5 := by have := hsv.1; omega
          clear ha
          by_cases hltn : n < n5
          · obtain ⟨ed, vv, rfl, hvv, hbk5, hok5, v0, v1, v2, v3, v4, v5⟩ := hsv.vn hltn
            have hd3 : decide ((n : Int) < (n5 : Int)) = true := by simp; omega
            have hn0 : (0 : Int) ≤ (n : Int) := by omega
            have hn1 : (n : Int) < (n5 : Int) := by omega
            have hrun := fun w => stamp_run vv.s at_ w
            rw [any_drop hvv] at hs2
            clear hvv
            cases he : decide (vv.s = at_)
            · rw [he] at hrun
              have HS2 := Lib.hid (show (hh.vs.drop (n + 1)).any (wouldV at_) = hh.vs.any (wouldV at_) by rw [← hs2]; unfold wouldV; rw [he]; rfl)
              clear hs2 he
              go_wp2
              go_quiet (fail)
              all_goals go_wp2
              all_goals go_roundw
              case rel => exact ⟨n + 1, by omega, by go_num, HS2.out, b7'.below (belowN _) b7'.lt, hb'.trans ((belowN _).mono hzz'), hbo.trans ((belowN _).mono hbo.size)⟩
              case measure => simp [intOf]; omega
            · rw [he] at hrun
              have HF := Lib.hid (show wouldE Hl Pl t true at_ = 9 by
                have e1 : hh.vs.any (wouldV at_) = true := by rw [← hs2]; unfold wouldV; rw [he]; rfl
                have e2 : p.w.any (wouldF Hl at_) = true := by rw [← HS0.out, e1]; rfl
                rw [HE.out, e2]; rfl)
              clear hs2 he
              go_wp2
              go_quiet (fail)
              all_goals go_wp2
              all_goals go_ret
              rw [HF.out]
              exact ⟨rfl, hb'.trans ((belowN _).mono hzz')⟩
          · have hd3 : decide ((n : Int) < (n5 : Int)) = false := by simp; omega
            rw [List.drop_of_length_le (by omega)] at hs2
            have HS := Lib.hid (show (p.w.drop (j + 1)).any (wouldF Hl at_) = p.w.any (wouldF Hl at_) by rw [← HS0.out, ← hs2]; rfl)
            clear hs2
            go_wp2
            go_roundw
            case rel => exact ⟨j + 1, by omega, by go_num, HS.out, b7', hb'⟩
            case measure => simp [intOf]; omega
    · have hd1 : decide ((j : Int) < (n4' : Int)) = false := by simp; omega
      rw [List.drop_of_length_le (by omega)] at hs
      have HF := Lib.hid (show wouldE Hl Pl t true at_ = 0 by rw [HE.out, ← hs]; rfl)
      clear hs
      go_wp2
      go_ret
      rw [HF.out]
      exact ⟨rfl, hb⟩
end Go.Proofs.Ytipacjbegfingaa
/- Plain law of HandStores: each key's value is met once, in its half. -/
namespace Go.Proofs.Ytipacjbegfingaa
set_option linter.unusedVariables false
open Go.RowKit Fl

def riseW (l : List Wt) : Prop := l.Pairwise fun a b => bl a.key b.key = true
theorem riseH_pair : ∀ (l : List Hs) (p : ByteArray), riseH p l → l.Pairwise fun a b => bl a.key b.key = true := by
  intro l
  induction l with
  | nil => intro p _; exact List.Pairwise.nil
  | cons a l ih => intro p h; exact List.Pairwise.cons (riseH_mem h.2) (ih _ h.2)
theorem atL_rise (at_ : Sp) {l : List Hs} {p : ByteArray} (h : riseH p l) : riseW (atL at_ l) := by
  rw [atL_eq at_ l p h]
  have hp := riseH_pair l p h
  clear h
  unfold riseW
  induction l with
  | nil => exact List.Pairwise.nil
  | cons a l ih =>
    obtain ⟨h1, h2⟩ := List.pairwise_cons.1 hp
    by_cases hk : (lastUp at_ a.vs).v.k ≠ 0
    · rw [List.filterMap_cons_some (b := ⟨a.key, (lastUp at_ a.vs).v⟩) (by rw [if_pos hk])]
      refine List.Pairwise.cons (fun b hb => ?_) (ih h2)
      obtain ⟨c, hc, e⟩ := List.mem_filterMap.1 hb
      by_cases hk2 : (lastUp at_ c.vs).v.k ≠ 0
      · rw [if_pos hk2] at e
        have e := Option.some.inj e
        subst e
        exact h1 c hc
      · rw [if_neg hk2] at e; cases e
    · rw [List.filterMap_cons_none (by rw [if_neg hk])]
      exact ih h2
/-- is it met? -/
def meetB (a b : Wt) : Bool := (b.key.toList == a.key.toList) && b.v.same a.v
def cntB (l : List Wt) (a : Wt) : Nat := (l.filter (meetB a)).length
theorem meetB_self (a : Wt) : meetB a a = true := by unfold meetB; rw [Vl.same_self]; simp
theorem meetB_ne {a b : Wt} (h : b.key ≠ a.key) : meetB a b = false := by
  unfold meetB
  rw [Bool.eq_false_iff.2 (fun e => h (keys_eq.1 e))]; rfl
theorem cnt_zero {l : List Wt} {a : Wt} (h : ∀ b ∈ l, b.key ≠ a.key) : cntB l a = 0 := by
  unfold cntB
  rw [List.length_eq_zero_iff, List.filter_eq_nil_iff]
  intro b hb e
  rw [meetB_ne (h b hb)] at e; cases e
theorem cnt_one (f : ByteArray → Bool) : ∀ (l : List Wt), riseW l → ∀ a ∈ l, f a.key = true → cntB (wtF f l) a = 1 := by
  intro l
  induction l with
  | nil => intro _ a ha; cases ha
  | cons b l ih =>
    intro h a ha hf
    obtain ⟨h1, h2⟩ := List.pairwise_cons.1 h
    rcases List.mem_cons.1 ha with rfl | ha'
    · have e : wtF f (a :: l) = a :: wtF f l := by unfold wtF; rw [List.filter_cons_of_pos (by exact hf)]
      have hz : cntB (wtF f l) a = 0 := cnt_zero fun c hc => by
        have := h1 c (List.mem_filter.1 hc).1
        exact fun e => bl_ne this e.symm
      unfold cntB at *
      rw [e, List.filter_cons_of_pos (by exact meetB_self a), List.length_cons, hz]
    · have i := ih h2 a ha' hf
      have hne := bl_ne (h1 a ha')
      by_cases hb : f b.key = true
      · have e : wtF f (b :: l) = b :: wtF f l := by unfold wtF; rw [List.filter_cons_of_pos (by exact hb)]
        unfold cntB at *
        rw [e, List.filter_cons_of_neg (by rw [meetB_ne hne]; exact Bool.false_ne_true), i]
      · have e : wtF f (b :: l) = wtF f l := by unfold wtF; rw [List.filter_cons_of_neg (by exact hb)]
        rw [e, i]
/-- what the law counts -/
def metB (f : ByteArray → Bool) (all p q : List Wt) : Nat := (all.map fun a => cntB (if f a.key = true then p else q) a).sum
theorem met_all (f : ByteArray → Bool) {all : List Wt} (h : riseW all) : metB f all (wtF f all) (wtF (fun k => !f k) all) = all.length := by
  suffices hq : ∀ l : List Wt, (∀ a ∈ l, a ∈ all) → (l.map fun a => cntB (if f a.key = true then wtF f all else wtF (fun k => !f k) all) a).sum = l.length from hq all fun a ha => ha
  intro l
  induction l with
  | nil => intro _; rfl
  | cons a l ih =>
    intro hl
    rw [List.map_cons, List.sum_cons, ih fun b hb => hl b (List.mem_cons_of_mem _ hb), List.length_cons]
    have ha := hl a (List.mem_cons_self ..)
    by_cases hf : f a.key = true
    · rw [if_pos hf, cnt_one f all h a ha hf]; omega
    · rw [if_neg hf, cnt_one (fun k => !f k) all h a ha (by rw [Bool.eq_false_iff.2 hf]; rfl)]; omega
theorem wtF_len (f : ByteArray → Bool) (l : List Wt) : (wtF f l).length + (wtF (fun k => !f k) l).length = l.length := by
  unfold wtF
  induction l with
  | nil => rfl
  | cons a l ih =>
    by_cases hf : f a.key = true
    · rw [List.filter_cons_of_pos (by exact hf), List.filter_cons_of_neg (by show ¬(!f a.key) = true; rw [hf]; simp), List.length_cons, List.length_cons]; omega
    · rw [List.filter_cons_of_neg (by exact hf), List.filter_cons_of_pos (by show (!f a.key) = true; rw [Bool.eq_false_iff.2 hf]; rfl), List.length_cons, List.length_cons]; omega
theorem stores_met (f : ByteArray → Bool) (at_ : Sp) {H' : List Hs} {p : ByteArray} (h : riseH p H') :
    metB f (atL at_ H') (atL at_ (hsF f H')) (atL at_ (hsF (fun k => !f k) H')) = (atL at_ H').length ∧ (atL at_ (hsF f H')).length + (atL at_ (hsF (fun k => !f k) H')).length = (atL at_ H').length := by
  rw [atL_F f at_ H' p h, atL_F (fun k => !f k) at_ H' p h]
  exact ⟨met_all f (atL_rise at_ h), wtF_len f _⟩
theorem resH_rise {H : List Hs} {Q : List Pn} {p : Pn} (h : loadE H Q = 0) (hp : p ∈ Q) (commit : Bool) (at_ : Sp) : riseH ⟨#[]⟩ (resH H (putAll Q) p.t commit at_) := by
  obtain ⟨h1, hr, hk⟩ := load_one h
  unfold resH
  rw [h1.find (mem_putAll.2 hp)]
  by_cases h0 : wouldE H (putAll Q) p.t commit at_ = 0
  · rw [if_pos h0]
    cases commit
    · exact hr
    · exact insAll_rise at_ p.w H _ hr (pend_keys (hk p hp))
  · rw [if_neg h0]; exact hr
end Go.Proofs.Ytipacjbegfingaa
