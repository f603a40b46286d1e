/- The walks of slices.Clone, slices.Contains and mvcc's writes. -/
import Derived.Test.YtipacjbegfingaaDc
namespace Go.Proofs.Ytipacjbegfingaa
open Go.RowKit Fl
attribute [local go_sem] run_store_float

theorem vn_info : (Try.prog.info? 79).map (fun i => (i.zero, i.size, i.bytes)) = some (some (.agg #[.int .i64 0, .int .i64 0, .int .i64 0, .int .i64 0, .float .f64 0, .string ⟨#[]⟩]), 6, 56) := by kernel_rfl

set_option maxRecDepth 100000 in
set_option maxHeartbeats 4000000 in
theorem clone_vn (A : Option Addr) (n c : Nat) (l : List Vn) (w : World) (h : Sl VnRel 6 w w.heap.size A n l) (hn : n ≤ 1000000) :
    Calls Try.prog 32 #[.slice A n c] w fun e w' => ∃ v, e = .returned v ∧ OwnL Vn.cells 79 6 w.heap.size w' v l ∧ Below w.heap.size w w' := by
  cases A with
  | none =>
    have hl : l = [] := by
      rcases Nat.eq_zero_or_pos n with h0 | h0
      · exact List.eq_nil_of_length_eq_zero (by rw [h.1]; exact h0)
      · obtain ⟨ad, _, _, e, _⟩ := h.at_ h0; cases e
    subst hl
    obtain rfl : n = 0 := h.1.symm
    have he : ∀ w : World, (binOp .eql 74 (.slice none 0 c) (.slice none 0 0)).run Try.prog w = .ok (.bool true) w := fun _ => rfl
    go_enter Try.func32, Try.ntmps32
    go_wp2
    go_ret
    exact ⟨_, rfl, OwnL.nil _, Below.refl _ _⟩
  | some ad =>
    obtain ⟨i0, hi0, hz0, hz1, hz2⟩ := info_parts vn_info
    have hl := h.1
    have he : ∀ w : World, (binOp .eql 74 (.slice (some ad) n c) (.slice none 0 0)).run Try.prog w = .ok (.bool false) w := fun _ => rfl
    have hr := h.reads (by omega) vn_len
    go_enter Try.func32, Try.ntmps32
    go_wp2_with (first
      | (at_builtin
         refine wpList_append_any _ rfl (.tmp 5) (.tmp 6) _ rfl w.heap.size 79 i0 _ 6 56 Try.underlying74 hi0 hz0 hz1 hz2 rfl (by omega) (.slice (some ⟨w.heap.size, 0, none⟩) 0 0) 0 [] (by rfl)
           (World.ownsRow_made w #[] 0 (Nat.le_refl _) (by unfold maxLen; omega) rfl) w.heap.size (some ad) n c (l.flatMap Vn.cells) (by rfl) (hr.alloc (Nat.le_refl _) _) (one_of vn_one l) (by unfold maxLen; omega) (by omega) (by simp) ?_
         intro v1 w1 hown1 hg1 hat1
         simp only [Nat.zero_add, List.nil_append] at hown1
         obtain ⟨A1, c1, rfl, hn1, hc1⟩ := own_form hown1))
    have hb1 : Below w.heap.size w w1 := ((Below.refl _ _).alloc (Nat.le_refl _) _).grown hg1 (by simp) (by intro k hk; simp [Value.ownBlock] at hk; omega)
    go_ret
    refine ⟨_, rfl, ?_, hb1⟩
    unfold OwnL
    rw [hl]
    exact hown1

set_option maxRecDepth 100000 in
set_option maxHeartbeats 4000000 in
theorem clone_ky (A : Option Addr) (n c : Nat) (l : List ByteArray) (w : World) (h : Sl KyRel 1 w w.heap.size A n l) (hn : n ≤ 1000000) :
    Calls Try.prog 103 #[.slice A n c] w fun e w' => ∃ v, e = .returned v ∧ OwnL keyCells 9 1 w.heap.size w' v l ∧ Below w.heap.size w w' := by
  cases A with
  | none =>
    have hl : l = [] := by
      rcases Nat.eq_zero_or_pos n with h0 | h0
      · exact List.eq_nil_of_length_eq_zero (by rw [h.1]; exact h0)
      · obtain ⟨ad, _, _, e, _⟩ := h.at_ h0; cases e
    subst hl
    obtain rfl : n = 0 := h.1.symm
    have he : ∀ w : World, (binOp .eql 44 (.slice none 0 c) (.slice none 0 0)).run Try.prog w = .ok (.bool true) w := fun _ => rfl
    go_enter Try.func103, Try.ntmps103
    go_wp2
    go_ret
    exact ⟨_, rfl, OwnL.nil _, Below.refl _ _⟩
  | some ad =>
    obtain ⟨i0, hi0, hz0, hz1, hz2⟩ := info_parts ky_info
    have hl := h.1
    have he : ∀ w : World, (binOp .eql 44 (.slice (some ad) n c) (.slice none 0 0)).run Try.prog w = .ok (.bool false) w := fun _ => rfl
    have hr := h.reads (by omega) ky_len
    go_enter Try.func103, Try.ntmps103
    go_wp2_with (first
      | (at_builtin
         refine wpList_append_any _ rfl (.tmp 5) (.tmp 6) _ rfl w.heap.size 9 i0 _ 1 16 Try.underlying44 hi0 hz0 hz1 hz2 rfl (by omega) (.slice (some ⟨w.heap.size, 0, none⟩) 0 0) 0 [] (by rfl)
           (World.ownsRow_made w #[] 0 (Nat.le_refl _) (by unfold maxLen; omega) rfl) w.heap.size (some ad) n c (l.flatMap keyCells) (by rfl) (hr.alloc (Nat.le_refl _) _) (one_of ky_one l) (by unfold maxLen; omega) (by omega) (by simp) ?_
         intro v1 w1 hown1 hg1 hat1
         simp only [Nat.zero_add, List.nil_append] at hown1
         obtain ⟨A1, c1, rfl, hn1, hc1⟩ := own_form hown1))
    have hb1 : Below w.heap.size w w1 := ((Below.refl _ _).alloc (Nat.le_refl _) _).grown hg1 (by simp) (by intro k hk; simp [Value.ownBlock] at hk; omega)
    go_ret
    refine ⟨_, rfl, ?_, hb1⟩
    unfold OwnL
    rw [hl]
    exact hown1

set_option maxRecDepth 100000 in
set_option maxHeartbeats 4000000 in
theorem clone_wt (A : Option Addr) (n c : Nat) (l : List Wt) (w : World) (h : Sl WtRel 4 w w.heap.size A n l) (hn : n ≤ 1000000) :
    Calls Try.prog 104 #[.slice A n c] w fun e w' => ∃ v, e = .returned v ∧ OwnL Wt.cells 96 4 w.heap.size w' v l ∧ Below w.heap.size w w' := by
  cases A with
  | none =>
    have hl : l = [] := by
      rcases Nat.eq_zero_or_pos n with h0 | h0
      · exact List.eq_nil_of_length_eq_zero (by rw [h.1]; exact h0)
      · obtain ⟨ad, _, _, e, _⟩ := h.at_ h0; cases e
    subst hl
    obtain rfl : n = 0 := h.1.symm
    have he : ∀ w : World, (binOp .eql 45 (.slice none 0 c) (.slice none 0 0)).run Try.prog w = .ok (.bool true) w := fun _ => rfl
    go_enter Try.func104, Try.ntmps104
    go_wp2
    go_ret
    exact ⟨_, rfl, OwnL.nil _, Below.refl _ _⟩
  | some ad =>
    obtain ⟨i0, hi0, hz0, hz1, hz2⟩ := info_parts wt_info
    have hl := h.1
    have he : ∀ w : World, (binOp .eql 45 (.slice (some ad) n c) (.slice none 0 0)).run Try.prog w = .ok (.bool false) w := fun _ => rfl
    have hr := h.reads (by omega) wt_len
    go_enter Try.func104, Try.ntmps104
    go_wp2_with (first
      | (at_builtin
         refine wpList_append_any _ rfl (.tmp 5) (.tmp 6) _ rfl w.heap.size 96 i0 _ 4 48 Try.underlying45 hi0 hz0 hz1 hz2 rfl (by omega) (.slice (some ⟨w.heap.size, 0, none⟩) 0 0) 0 [] (by rfl)
           (World.ownsRow_made w #[] 0 (Nat.le_refl _) (by unfold maxLen; omega) rfl) w.heap.size (some ad) n c (l.flatMap Wt.cells) (by rfl) (hr.alloc (Nat.le_refl _) _) (one_of wt_one l) (by unfold maxLen; omega) (by omega) (by simp) ?_
         intro v1 w1 hown1 hg1 hat1
         simp only [Nat.zero_add, List.nil_append] at hown1
         obtain ⟨A1, c1, rfl, hn1, hc1⟩ := own_form hown1))
    have hb1 : Below w.heap.size w w1 := ((Below.refl _ _).alloc (Nat.le_refl _) _).grown hg1 (by simp) (by intro k hk; simp [Value.ownBlock] at hk; omega)
    go_ret
    refine ⟨_, rfl, ?_, hb1⟩
    unfold OwnL
    rw [hl]
    exact hown1

/-- is a text in a list? -/
def inL (k : ByteArray) (l : List ByteArray) : Bool := l.any fun b => k.toList == b.toList
/-- is a key written? -/
def wrL (k : ByteArray) (l : List Wt) : Bool := l.any fun a => a.key.toList == k.toList
theorem any_drop {α : Type} {f : α → Bool} {l : List α} {k : Nat} {a : α} (h : l[k]? = some a) : (l.drop k).any f = (f a || (l.drop (k + 1)).any f) := by
  have h1 := List.getElem?_eq_some_iff.1 h
  rw [List.drop_eq_getElem_cons h1.1, h1.2]
  rfl
def AnyRel {α : Type} (f : α → Bool) (l : List α) (w : World) (i : Value) (wr : World) : Prop := ∃ k : Nat, k ≤ l.length ∧ i = .int .i64 (k : Int) ∧ (l.drop k).any f = l.any f ∧ Below w.heap.size w wr
set_option maxRecDepth 100000 in
set_option maxHeartbeats 4000000 in
theorem index_any (A : Option Addr) (n c : Nat) (l : List ByteArray) (x : ByteArray) (w : World) (h : Sl KyRel 1 w w.heap.size A n l) (hn : n ≤ maxLen) :
    Calls Try.prog 108 #[.slice A n c, .string x] w fun e w' => ∃ z : Int, e = .returned (.int .i64 z) ∧ decide (0 ≤ z) = inL x l ∧ Below w.heap.size w w' := by
  unfold maxLen at hn
  have hl := h.1
  have hge : n ≤ l.length := by omega
  have hle : l.length ≤ n := by omega
  clear hl
  go_enter Try.func108, Try.ntmps108
  go_wp2
  go_loopw [8] (fun i wr => AnyRel (fun b => x.toList == b.toList) l w i wr) (fun i _ => n - (intOf i).toNat)
  case atStart => exact ⟨0, by omega, rfl, rfl, Below.refl _ _⟩
  case round =>
    obtain ⟨k, hk, rfl, hs, hb⟩ := hrel
    by_cases hlt : k < n
    · obtain ⟨ad, a, rfl, ha, hbk, hok, c0⟩ := (h.below KyRel.kept hb).ky hlt
      have hd1 : decide ((k : Int) < (n : Int)) = true := by simp; omega
      have hk0 : (0 : Int) ≤ (k : Int) := by omega
      have hk1 : (k : Int) < (n : Int) := by omega
      rw [any_drop ha] at hs
      cases hq : (x.toList == a.toList)
      · rw [hq] at hs
        have HT := Lib.hid hs
        clear hs ha
        go_wp2
        go_roundw
        case rel => exact ⟨k + 1, by omega, by go_num, HT.out, hb⟩
        case measure => simp [intOf]; omega
      · have HF := Lib.hid (show inL x l = true by unfold inL; rw [← hs, hq]; rfl)
        clear hs ha
        go_wp2
        go_ret
        exact ⟨k, rfl, by rw [HF.out]; simp, hb⟩
    · have hd1 : decide ((k : Int) < (n : Int)) = false := by simp; omega
      have HF := Lib.hid (show inL x l = false by unfold inL; rw [← hs, List.drop_of_length_le (by omega)]; rfl)
      clear hs
      go_wp2
      go_ret
      exact ⟨-1, rfl, by rw [HF.out]; simp, hb⟩
set_option maxRecDepth 100000 in
set_option maxHeartbeats 1000000 in
theorem contains_any (A : Option Addr) (n c : Nat) (l : List ByteArray) (x : ByteArray) (w : World) (h : Sl KyRel 1 w w.heap.size A n l) (hn : n ≤ maxLen) :
    Calls Try.prog 101 #[.slice A n c, .string x] w fun e w' => e = .returned (.bool (inL x l)) ∧ Below w.heap.size w w' := by
  go_enter Try.func101, Try.ntmps101
  go_wp2_with (go_at_call 108; fail)
  refine (index_any A n c l x w h hn).mono ?_
  rintro e w1 ⟨z, rfl, hz, hb⟩
  have HZ := Lib.hid hz
  clear hz
  go_wp2
  go_ret
  exact ⟨ret_bool HZ.out, hb⟩

set_option maxHeartbeats 1000000 in
theorem wrClos (a : Wt) (x : ByteArray) (B : Nat) (w : World) (hB : B < w.heap.size) (hc : w.cell? ⟨B, 0, none⟩ = some (.string x)) :
    Calls Try.prog 107 #[a.val, .pointer (some ⟨B, 0, none⟩)] w fun e w' => e = .returned (.bool (a.key.toList == x.toList)) ∧ Below w.heap.size w w' := by
  go_enter Try.func107, Try.ntmps107
  go_wp2
  go_ret
  exact ⟨rfl, by go_grown⟩
set_option maxRecDepth 100000 in
set_option maxHeartbeats 4000000 in
theorem indexF_any (A : Option Addr) (n c : Nat) (l : List Wt) (x : ByteArray) (B : Nat) (w : World) (h : Sl WtRel 4 w w.heap.size A n l) (hn : n ≤ maxLen) (hB : B < w.heap.size) (hc : w.cell? ⟨B, 0, none⟩ = some (.string x)) :
    Calls Try.prog 111 #[.slice A n c, .func (.func 107) #[] #[.pointer (some ⟨B, 0, none⟩)]] w fun e w' => ∃ z : Int, e = .returned (.int .i64 z) ∧ decide (0 ≤ z) = wrL x l ∧ Below w.heap.size w w' := by
  unfold maxLen at hn
  have hl := h.1
  have hge : n ≤ l.length := by omega
  have hle : l.length ≤ n := by omega
  clear hl
  go_enter Try.func111, Try.ntmps111
  go_wp2
  go_loopw [8] (fun i wr => AnyRel (fun a : Wt => a.key.toList == x.toList) l w i wr) (fun i _ => n - (intOf i).toNat)
  case atStart => exact ⟨0, by omega, rfl, rfl, Below.refl _ _⟩
  case round =>
    obtain ⟨k, hk, rfl, hs, hb⟩ := hrel
    have hzz := hb.size
    by_cases hlt : k < n
    · obtain ⟨ad, a, rfl, ha, hbk, hok, c0, c1, c2, c3⟩ := (h.below WtRel.kept hb).wt hlt
      have hd1 : decide ((k : Int) < (n : Int)) = true := by simp; omega
      have hk0 : (0 : Int) ≤ (k : Int) := by omega
      have hk1 : (k : Int) < (n : Int) := by omega
      have hC := wrClos a x B wr (by omega) ((hb.cell (p := ⟨B, 0, none⟩) hB).trans hc)
      rw [any_drop ha] at hs
      cases hq : (a.key.toList == x.toList)
      · rw [hq] at hs hC
        have HT := Lib.hid hs
        clear hs ha
        go_wp2_with (first
          | ((with_reducible refine hC.mono ?_); rintro e w1 ⟨rfl, hb1⟩))
        go_roundw
        case rel => exact ⟨k + 1, by omega, by go_num, HT.out, hb.trans (hb1.mono hzz)⟩
        case measure => simp [intOf]; omega
      · have HF := Lib.hid (show wrL x l = true by unfold wrL; rw [← hs, hq]; rfl)
        rw [hq] at hC
        clear hs ha
        go_wp2_with (first
          | ((with_reducible refine hC.mono ?_); rintro e w1 ⟨rfl, hb1⟩))
        go_ret
        exact ⟨k, rfl, by rw [HF.out]; simp, hb.trans (hb1.mono hzz)⟩
    · have hd1 : decide ((k : Int) < (n : Int)) = false := by simp; omega
      have HF := Lib.hid (show wrL x l = false by unfold wrL; rw [← hs, List.drop_of_length_le (by omega)]; rfl)
      clear hs
      go_wp2
      go_ret
      exact ⟨-1, rfl, by rw [HF.out]; simp, hb⟩
set_option maxRecDepth 100000 in
set_option maxHeartbeats 1000000 in
theorem containsF_any (A : Option Addr) (n c : Nat) (l : List Wt) (x : ByteArray) (B : Nat) (w : World) (h : Sl WtRel 4 w w.heap.size A n l) (hn : n ≤ maxLen) (hB : B < w.heap.size) (hc : w.cell? ⟨B, 0, none⟩ = some (.string x)) :
    Calls Try.prog 106 #[.slice A n c, .func (.func 107) #[] #[.pointer (some ⟨B, 0, none⟩)]] w fun e w' => e = .returned (.bool (wrL x l)) ∧ Below w.heap.size w w' := by
  go_enter Try.func106, Try.ntmps106
  go_wp2_with (go_at_call 111; fail)
  refine (indexF_any A n c l x B w h hn hB hc).mono ?_
  rintro e w1 ⟨z, rfl, hz, hb⟩
  have HZ := Lib.hid hz
  clear hz
  go_wp2
  go_ret
  exact ⟨ret_bool HZ.out, hb⟩
set_option maxRecDepth 100000 in
set_option maxHeartbeats 1000000 in
theorem writes_any (p : Pn) (r : Value) (x : ByteArray) (A : Option Addr) (n c : Nat) (w : World) (_hr : r.oneCell' = true) (h : Sl WtRel 4 w w.heap.size A n p.w) (hn : n ≤ maxLen) :
    Calls Try.prog 100 #[p.val r (.slice A n c), .string x] w fun e w' => e = .returned (.bool (wrL x p.w)) ∧ Below w.heap.size w w' := by
  go_enter Try.func100, Try.ntmps100
  go_wp2_with (go_at_call 106; fail)
  have hX : Below w.heap.size w ((w.alloc (.cells #[.int .i64 p.t.c, .int .i64 p.t.l, .int .i64 p.t.s, .int .i64 p.s.w, .int .i64 p.s.l, .int .i64 p.s.n, r, .slice A n c] 47)).alloc (.cells #[.string x] 9)) := by go_grown
  refine (containsF_any A n c p.w x (w.heap.size + 1) _ (h.below WtRel.kept hX |>.more WtRel.kept hX.size) hn (by simp) ((Blk.new' _ _ (by simp)).cell 0)).mono ?_
  rintro e w1 ⟨rfl, hb⟩
  go_wp2
  go_ret
  exact ⟨rfl, hX.trans (hb.mono hX.size)⟩

section
variable {α : Type} {f : α → List Value} {E size base base' : Nat} {w : World} {v : Value} {l : List α}
theorem OwnL.mono_base (h : OwnL f E size base w v l) (hb : base' ≤ base) : OwnL f E size base' w v l := by
  refine ⟨h.1, ?_⟩
  rcases h.2 with h | ⟨g, c, cur, e, hg, r⟩
  · exact .inl h
  · exact .inr ⟨g, c, cur, e, Nat.le_trans hb hg, r⟩
theorem OwnL.far (h : OwnL f E size base w v l) {g : Nat} (hg : g < base) : v.ownBlock = none ∨ v.ownBlock ≠ some g := by
  cases e : v.ownBlock with
  | none => exact .inl rfl
  | some k =>
    refine .inr fun e2 => ?_
    have := (h.lt k e).1
    injection e2 with e2
    omega
theorem OwnL.set_far (h : OwnL f E size base w v l) {p : Addr} (hp : p.block < base) (u : Value) : OwnL f E size base (w.setCell p u) v l :=
  World.ownsRow.kept (row := some p.block) h ⟨rfl, rfl, rfl, by simp, fun k _ hne => Below.heap_setCell w p u k (fun e => hne (by rw [e]))⟩ (h.far hp)
theorem OwnL.setRow_far (h : OwnL f E size base w v l) {g : Nat} (hp : g < base) (cs : Array Value) : OwnL f E size base (w.setRow g cs) v l :=
  World.ownsRow.kept (row := some g) h ⟨rfl, rfl, rfl, by simp, fun k _ hne => setRow_other w g k cs (fun e => hne (by rw [e]))⟩ (h.far hp)
end
def ClonePost (p : Pn) (w : World) : Ending → World → Prop := fun e w' => ∃ r q, e = .returned (p.val r q) ∧ OwnL keyCells 9 1 w.heap.size w' r p.r ∧ OwnL Wt.cells 96 4 w.heap.size w' q p.w ∧ Below w.heap.size w w'
set_option maxRecDepth 100000 in
set_option maxHeartbeats 4000000 in
theorem pclone_any (p : Pn) (A1 A2 : Option Addr) (n1 n2 c1 c2 : Nat) (w : World) (hr : Sl KyRel 1 w w.heap.size A1 n1 p.r) (hw : Sl WtRel 4 w w.heap.size A2 n2 p.w) (hn1 : n1 ≤ 1000000) (hn2 : n2 ≤ 1000000) :
    Calls Try.prog 87 #[p.val (.slice A1 n1 c1) (.slice A2 n2 c2)] w (ClonePost p w) := by
  go_enter Try.func87, Try.ntmps87
  go_wp2_with (go_at_call 103; fail)
  have hX : Below w.heap.size w ((w.alloc (.cells #[.int .i64 p.t.c, .int .i64 p.t.l, .int .i64 p.t.s, .int .i64 p.s.w, .int .i64 p.s.l, .int .i64 p.s.n, .slice A1 n1 c1, .slice A2 n2 c2] 47)).alloc (.cells #[.int .i64 0, .int .i64 0, .int .i64 0, .int .i64 0, .int .i64 0, .int .i64 0, .slice none 0 0, .slice none 0 0] 47)) := by go_grown
  have d1 := (Blk.new w 47 #[.int .i64 p.t.c, .int .i64 p.t.l, .int .i64 p.t.s, .int .i64 p.s.w, .int .i64 p.s.l, .int .i64 p.s.n, .slice A1 n1 c1, .slice A2 n2 c2]).alloc (.cells #[.int .i64 0, .int .i64 0, .int .i64 0, .int .i64 0, .int .i64 0, .int .i64 0, .slice none 0 0, .slice none 0 0] 47)
  have d2 := Blk.new' (w := w.alloc (.cells #[.int .i64 p.t.c, .int .i64 p.t.l, .int .i64 p.t.s, .int .i64 p.s.w, .int .i64 p.s.l, .int .i64 p.s.n, .slice A1 n1 c1, .slice A2 n2 c2] 47)) (g := w.heap.size + 1) 47 #[.int .i64 0, .int .i64 0, .int .i64 0, .int .i64 0, .int .i64 0, .int .i64 0, .slice none 0 0, .slice none 0 0] (by simp)
  refine (clone_ky A1 n1 c1 p.r _ (hr.below KyRel.kept hX |>.more KyRel.kept hX.size) hn1).mono ?_
  rintro e w1 ⟨v1, rfl, ho1, hb1⟩
  have e1 := d1.below hb1 d1.lt
  have e2 := d2.below hb1 d2.lt
  have hw1 : Below w.heap.size w w1 := hX.trans (hb1.mono hX.size)
  replace ho1 : OwnL keyCells 9 1 (w.heap.size + 2) w1 v1 p.r := ho1.mono_base (by simp)
  clear hb1 hX d1 d2
  obtain ⟨g1, x0, x1, x2, x3, x4, x5, x6, x7⟩ := e1.eight
  have g2 := e2.lt
  have f6 := e1.frozen 6
  have f7 := e1.frozen 7
  obtain ⟨A3, q3, rfl, hq3, hq3m⟩ := ho1.form
  go_wp2_with (go_at_call 104; fail)
  have ho2 := ho1.set_far (p := ⟨w.heap.size, 6, none⟩) (by simp) (.slice A3 p.r.length q3)
  have k1 : Blk (w1.setCell ⟨w.heap.size, 6, none⟩ (.slice A3 p.r.length q3)) w.heap.size 47 #[.int .i64 p.t.c, .int .i64 p.t.l, .int .i64 p.t.s, .int .i64 p.s.w, .int .i64 p.s.l, .int .i64 p.s.n, .slice A3 p.r.length q3, .slice A2 n2 c2] := e1.set_ 6 _
  have k2 := e2.far (p := ⟨w.heap.size, 6, none⟩) (by simp) (.slice A3 p.r.length q3)
  have hw2 : Below w.heap.size w (w1.setCell ⟨w.heap.size, 6, none⟩ (.slice A3 p.r.length q3)) := hw1.setCell (by simp) _
  clear e1 e2 ho1 hw1 x0 x1 x2 x3 x4 x5 x6 x7 f6 f7
  generalize (w1.setCell ⟨w.heap.size, 6, none⟩ (.slice A3 p.r.length q3)) = w2 at *
  refine (clone_wt A2 n2 c2 p.w _ (hw.below WtRel.kept hw2 |>.more WtRel.kept hw2.size) hn2).mono ?_
  rintro e w3 ⟨v3, rfl, ho3, hb3⟩
  have e1 := k1.below hb3 k1.lt
  have e2 := k2.below hb3 k2.lt
  have hw3 : Below w.heap.size w w3 := hw2.trans (hb3.mono hw2.size)
  have l2 := k2.lt
  replace ho3 : OwnL Wt.cells 96 4 (w.heap.size + 2) w3 v3 p.w := ho3.mono_base (by omega)
  have ho2 := ho2.below hb3
  clear k1 k2 hw2
  obtain ⟨g1, x0, x1, x2, x3, x4, x5, x6, x7⟩ := e1.eight
  have g2 := e2.lt
  have f7 := e1.frozen 7
  obtain ⟨A4, q4, rfl, hq4, hq4m⟩ := ho3.form
  have e3 : Blk (w3.setCell ⟨w.heap.size, 7, none⟩ (.slice A4 p.w.length q4)) w.heap.size 47 #[.int .i64 p.t.c, .int .i64 p.t.l, .int .i64 p.t.s, .int .i64 p.s.w, .int .i64 p.s.l, .int .i64 p.s.n, .slice A3 p.r.length q3, .slice A4 p.w.length q4] := e1.set_ 7 _
  have e4 := e2.far (p := ⟨w.heap.size, 7, none⟩) (by simp) (.slice A4 p.w.length q4)
  go_wp2_with (first
    | (refine wpList_store_row rfl 47 _ _ rfl _ _ rfl rfl _ _ e4 (by kernel_rfl) (by kernel_rfl) (by kernel_rfl) ?_))
  refine post_cell rfl (by rfl) (e4.setRow _) rfl rfl (by kernel_rfl) ?_
  refine ⟨_, _, rfl, ?_, ?_, ?_⟩
  · exact ((ho2.set_far (by simp) _).setRow_far (by omega) _).mono_base (by omega)
  · exact ((ho3.set_far (by simp) _).setRow_far (by omega) _).mono_base (by omega)
  · exact below_setRow (hw3.setCell (by simp) _) (by omega) _
end Go.Proofs.Ytipacjbegfingaa
