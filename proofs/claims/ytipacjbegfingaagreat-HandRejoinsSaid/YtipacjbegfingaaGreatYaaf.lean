/- The walks of slices.Clone, slices.Contains and mvcc's writes. -/
import Derived.Maps.RangeWalk
import Derived.DeepKeys4
import Derived.Deep.MidRow
import Derived.Test.YtipacjbegfingaaGreatYaac
namespace Go.Proofs.YtipacjbegfingaaGreat
open Go.RowKit Fl
attribute [local go_sem] run_store_float

theorem vn_info : (Tryz.prog.info? 64).map (fun i => (i.zero, i.size, i.bytes)) = some (some (.agg #[.int .i64 0, .int .i64 0, .int .i64 0, .int .i64 0, .float .f64 0, .string ⟨#[]⟩]), 6, 56) := by kernel_rfl

set_option maxRecDepth 100000 in
set_option maxHeartbeats 4000000 in
theorem clone_vn (A : Option Addr) (n c : Nat) (l : List Vn) (w : World) (h : Sl VnRel 6 w w.heap.size A n l) (hn : n ≤ 1000000) :
    Calls Tryz.prog 23 #[.slice A n c] w fun e w' => ∃ v, e = .returned v ∧ OwnL Vn.cells 64 6 w.heap.size w' v l ∧ Below w.heap.size w w' := by
  cases A with
  | none =>
    have hl : l = [] := by
      rcases Nat.eq_zero_or_pos n with h0 | h0
      · exact List.eq_nil_of_length_eq_zero (by rw [h.1]; exact h0)
      · obtain ⟨ad, _, _, e, _⟩ := h.at_ h0; cases e
    subst hl
    obtain rfl : n = 0 := h.1.symm
    have he : ∀ w : World, (binOp .eql 57 (.slice none 0 c) (.slice none 0 0)).run Tryz.prog w = .ok (.bool true) w := fun _ => rfl
    go_enter Tryz.func23, Tryz.ntmps23
    go_wp2
    go_ret
    exact ⟨_, rfl, OwnL.nil _, Below.refl _ _⟩
  | some ad =>
    obtain ⟨i0, hi0, hz0, hz1, hz2⟩ := info_parts vn_info
    have hl := h.1
    have he : ∀ w : World, (binOp .eql 57 (.slice (some ad) n c) (.slice none 0 0)).run Tryz.prog w = .ok (.bool false) w := fun _ => rfl
    have hr := h.reads (by omega) vn_len
    go_enter Tryz.func23, Tryz.ntmps23
    go_wp2_with (first
      | (at_builtin
         refine wpList_append_any _ rfl (.tmp 5) (.tmp 6) _ rfl w.heap.size 64 i0 _ 6 56 Tryz.underlying57 hi0 hz0 hz1 hz2 rfl (by omega) (.slice (some ⟨w.heap.size, 0, none⟩) 0 0) 0 [] (by rfl)
           (World.ownsRow_made w #[] 0 (Nat.le_refl _) (by unfold maxLen; omega) rfl) w.heap.size (some ad) n c (l.flatMap Vn.cells) (by rfl) (hr.alloc (Nat.le_refl _) _) (one_of vn_one l) (by unfold maxLen; omega) (by omega) (by simp) ?_
         intro v1 w1 hown1 hg1 hat1
         simp only [Nat.zero_add, List.nil_append] at hown1
         obtain ⟨A1, c1, rfl, hn1, hc1⟩ := own_form hown1))
    have hb1 : Below w.heap.size w w1 := ((Below.refl _ _).alloc (Nat.le_refl _) _).grown hg1 (by simp) (by intro k hk; simp [Value.ownBlock] at hk; omega)
    go_ret
    refine ⟨_, rfl, ?_, hb1⟩
    unfold OwnL
    rw [hl]
    exact hown1

set_option maxRecDepth 100000 in
set_option maxHeartbeats 4000000 in
theorem clone_ky (A : Option Addr) (n c : Nat) (l : List ByteArray) (w : World) (h : Sl KyRel 1 w w.heap.size A n l) (hn : n ≤ 1000000) :
    Calls Tryz.prog 113 #[.slice A n c] w fun e w' => ∃ v, e = .returned v ∧ OwnL keyCells 9 1 w.heap.size w' v l ∧ Below w.heap.size w w' := by
  cases A with
  | none =>
    have hl : l = [] := by
      rcases Nat.eq_zero_or_pos n with h0 | h0
      · exact List.eq_nil_of_length_eq_zero (by rw [h.1]; exact h0)
      · obtain ⟨ad, _, _, e, _⟩ := h.at_ h0; cases e
    subst hl
    obtain rfl : n = 0 := h.1.symm
    have he : ∀ w : World, (binOp .eql 42 (.slice none 0 c) (.slice none 0 0)).run Tryz.prog w = .ok (.bool true) w := fun _ => rfl
    go_enter Tryz.func113, Tryz.ntmps113
    go_wp2
    go_ret
    exact ⟨_, rfl, OwnL.nil _, Below.refl _ _⟩
  | some ad =>
    obtain ⟨i0, hi0, hz0, hz1, hz2⟩ := info_parts ky_info
    have hl := h.1
    have he : ∀ w : World, (binOp .eql 42 (.slice (some ad) n c) (.slice none 0 0)).run Tryz.prog w = .ok (.bool false) w := fun _ => rfl
    have hr := h.reads (by omega) ky_len
    go_enter Tryz.func113, Tryz.ntmps113
    go_wp2_with (first
      | (at_builtin
         refine wpList_append_any _ rfl (.tmp 5) (.tmp 6) _ rfl w.heap.size 9 i0 _ 1 16 Tryz.underlying42 hi0 hz0 hz1 hz2 rfl (by omega) (.slice (some ⟨w.heap.size, 0, none⟩) 0 0) 0 [] (by rfl)
           (World.ownsRow_made w #[] 0 (Nat.le_refl _) (by unfold maxLen; omega) rfl) w.heap.size (some ad) n c (l.flatMap keyCells) (by rfl) (hr.alloc (Nat.le_refl _) _) (one_of ky_one l) (by unfold maxLen; omega) (by omega) (by simp) ?_
         intro v1 w1 hown1 hg1 hat1
         simp only [Nat.zero_add, List.nil_append] at hown1
         obtain ⟨A1, c1, rfl, hn1, hc1⟩ := own_form hown1))
    have hb1 : Below w.heap.size w w1 := ((Below.refl _ _).alloc (Nat.le_refl _) _).grown hg1 (by simp) (by intro k hk; simp [Value.ownBlock] at hk; omega)
    go_ret
    refine ⟨_, rfl, ?_, hb1⟩
    unfold OwnL
    rw [hl]
    exact hown1

set_option maxRecDepth 100000 in
set_option maxHeartbeats 4000000 in
theorem clone_wt (A : Option Addr) (n c : Nat) (l : List Wt) (w : World) (h : Sl WtRel 4 w w.heap.size A n l) (hn : n ≤ 1000000) :
    Calls Tryz.prog 114 #[.slice A n c] w fun e w' => ∃ v, e = .returned v ∧ OwnL Wt.cells 86 4 w.heap.size w' v l ∧ Below w.heap.size w w' := by
  cases A with
  | none =>
    have hl : l = [] := by
      rcases Nat.eq_zero_or_pos n with h0 | h0
      · exact List.eq_nil_of_length_eq_zero (by rw [h.1]; exact h0)
      · obtain ⟨ad, _, _, e, _⟩ := h.at_ h0; cases e
    subst hl
    obtain rfl : n = 0 := h.1.symm
    have he : ∀ w : World, (binOp .eql 43 (.slice none 0 c) (.slice none 0 0)).run Tryz.prog w = .ok (.bool true) w := fun _ => rfl
    go_enter Tryz.func114, Tryz.ntmps114
    go_wp2
    go_ret
    exact ⟨_, rfl, OwnL.nil _, Below.refl _ _⟩
  | some ad =>
    obtain ⟨i0, hi0, hz0, hz1, hz2⟩ := info_parts wt_info
    have hl := h.1
    have he : ∀ w : World, (binOp .eql 43 (.slice (some ad) n c) (.slice none 0 0)).run Tryz.prog w = .ok (.bool false) w := fun _ => rfl
    have hr := h.reads (by omega) wt_len
    go_enter Tryz.func114, Tryz.ntmps114
    go_wp2_with (first
      | (at_builtin
         refine wpList_append_any _ rfl (.tmp 5) (.tmp 6) _ rfl w.heap.size 86 i0 _ 4 48 Tryz.underlying43 hi0 hz0 hz1 hz2 rfl (by omega) (.slice (some ⟨w.heap.size, 0, none⟩) 0 0) 0 [] (by rfl)
           (World.ownsRow_made w #[] 0 (Nat.le_refl _) (by unfold maxLen; omega) rfl) w.heap.size (some ad) n c (l.flatMap Wt.cells) (by rfl) (hr.alloc (Nat.le_refl _) _) (one_of wt_one l) (by unfold maxLen; omega) (by omega) (by simp) ?_
         intro v1 w1 hown1 hg1 hat1
         simp only [Nat.zero_add, List.nil_append] at hown1
         obtain ⟨A1, c1, rfl, hn1, hc1⟩ := own_form hown1))
    have hb1 : Below w.heap.size w w1 := ((Below.refl _ _).alloc (Nat.le_refl _) _).grown hg1 (by simp) (by intro k hk; simp [Value.ownBlock] at hk; omega)
    go_ret
    refine ⟨_, rfl, ?_, hb1⟩
    unfold OwnL
    rw [hl]
    exact hown1

/-- is a text in a list? -/
def inL (k : ByteArray) (l : List ByteArray) : Bool := l.any fun b => k.toList == b.toList
/-- is a key written? -/
def wrL (k : ByteArray) (l : List Wt) : Bool := l.any fun a => a.key.toList == k.toList
theorem any_drop {α : Type} {f : α → Bool} {l : List α} {k : Nat} {a : α} (h : l[k]? = some a) : (l.drop k).any f = (f a || (l.drop (k + 1)).any f) := by
  have h1 := List.getElem?_eq_some_iff.1 h
  rw [List.drop_eq_getElem_cons h1.1, h1.2]
  rfl
def AnyRel {α : Type} (f : α → Bool) (l : List α) (w : World) (i : Value) (wr : World) : Prop := ∃ k : Nat, k ≤ l.length ∧ i = .int .i64 (k : Int) ∧ (l.drop k).any f = l.any f ∧ Below w.heap.size w wr
set_option maxRecDepth 100000 in
set_option maxHeartbeats 4000000 in
theorem index_any (A : Option Addr) (n c : Nat) (l : List ByteArray) (x : ByteArray) (w : World) (h : Sl KyRel 1 w w.heap.size A n l) (hn : n ≤ maxLen) :
    Calls Tryz.prog 128 #[.slice A n c, .string x] w fun e w' => ∃ z : Int, e = .returned (.int .i64 z) ∧ decide (0 ≤ z) = inL x l ∧ Below w.heap.size w w' := by
  unfold maxLen at hn
  have hl := h.1
  have hge : n ≤ l.length := by omega
  have hle : l.length ≤ n := by omega
  clear hl
  go_enter Tryz.func128, Tryz.ntmps128
  go_wp2
  go_loopw [8] (fun i wr => AnyRel (fun b => x.toList == b.toList) l w i wr) (fun i _ => n - (intOf i).toNat)
  case atStart => exact ⟨0, by omega, rfl, rfl, Below.refl _ _⟩
  case round =>
    obtain ⟨k, hk, rfl, hs, hb⟩ := hrel
    by_cases hlt : k < n
    · obtain ⟨ad, a, rfl, ha, hbk, hok, c0⟩ := (h.below KyRel.kept hb).ky hlt
      have hd1 : decide ((k : Int) < (n : Int)) = true := by simp; omega
      have hk0 : (0 : Int) ≤ (k : Int) := by omega
      have hk1 : (k : Int) < (n : Int) := by omega
      rw [any_drop ha] at hs
      cases hq : (x.toList == a.toList)
      · rw [hq] at hs
        have HT := Lib.hid hs
        clear hs ha
        go_wp2
        go_roundw
        case rel => exact ⟨k + 1, by omega, by go_num, HT.out, hb⟩
        case measure => simp [intOf]; omega
      · have HF := Lib.hid (show inL x l = true by unfold inL; rw [← hs, hq]; rfl)
        clear hs ha
        go_wp2
        go_ret
        exact ⟨k, rfl, by rw [HF.out]; simp, hb⟩
    · have hd1 : decide ((k : Int) < (n : Int)) = false := by simp; omega
      have HF := Lib.hid (show inL x l = false by unfold inL; rw [← hs, List.drop_of_length_le (by omega)]; rfl)
      clear hs
      go_wp2
      go_ret
      exact ⟨-1, rfl, by rw [HF.out]; simp, hb⟩
set_option maxRecDepth 100000 in
set_option maxHeartbeats 1000000 in
theorem contains_any (A : Option Addr) (n c : Nat) (l : List ByteArray) (x : ByteArray) (w : World) (h : Sl KyRel 1 w w.heap.size A n l) (hn : n ≤ maxLen) :
    Calls Tryz.prog 111 #[.slice A n c, .string x] w fun e w' => e = .returned (.bool (inL x l)) ∧ Below w.heap.size w w' := by
  go_enter Tryz.func111, Tryz.ntmps111
  go_wp2_with (go_at_call 128; fail)
  refine (index_any A n c l x w h hn).mono ?_
  rintro e w1 ⟨z, rfl, hz, hb⟩
  have HZ := Lib.hid hz
  clear hz
  go_wp2
  go_ret
  exact ⟨ret_bool HZ.out, hb⟩

set_option maxHeartbeats 1000000 in
theorem wrClos (a : Wt) (x : ByteArray) (B : Nat) (w : World) (hB : B < w.heap.size) (hc : w.cell? ⟨B, 0, none⟩ = some (.string x)) :
    Calls Tryz.prog 127 #[a.val, .pointer (some ⟨B, 0, none⟩)] w fun e w' => e = .returned (.bool (a.key.toList == x.toList)) ∧ Below w.heap.size w w' := by
  go_enter Tryz.func127, Tryz.ntmps127
  go_wp2
  go_ret
  exact ⟨rfl, by go_grown⟩
set_option maxRecDepth 100000 in
set_option maxHeartbeats 4000000 in
theorem indexF_any (A : Option Addr) (n c : Nat) (l : List Wt) (x : ByteArray) (B : Nat) (w : World) (h : Sl WtRel 4 w w.heap.size A n l) (hn : n ≤ maxLen) (hB : B < w.heap.size) (hc : w.cell? ⟨B, 0, none⟩ = some (.string x)) :
    Calls Tryz.prog 136 #[.slice A n c, .func (.func 127) #[] #[.pointer (some ⟨B, 0, none⟩)]] w fun e w' => ∃ z : Int, e = .returned (.int .i64 z) ∧ decide (0 ≤ z) = wrL x l ∧ Below w.heap.size w w' := by
  unfold maxLen at hn
  have hl := h.1
  have hge : n ≤ l.length := by omega
  have hle : l.length ≤ n := by omega
  clear hl
  go_enter Tryz.func136, Tryz.ntmps136
  go_wp2
  go_loopw [8] (fun i wr => AnyRel (fun a : Wt => a.key.toList == x.toList) l w i wr) (fun i _ => n - (intOf i).toNat)
  case atStart => exact ⟨0, by omega, rfl, rfl, Below.refl _ _⟩
  case round =>
    obtain ⟨k, hk, rfl, hs, hb⟩ := hrel
    have hzz := hb.size
    by_cases hlt : k < n
    · obtain ⟨ad, a, rfl, ha, hbk, hok, c0, c1, c2, c3⟩ := (h.below WtRel.kept hb).wt hlt
      have hd1 : decide ((k : Int) < (n : Int)) = true := by simp; omega
      have hk0 : (0 : Int) ≤ (k : Int) := by omega
      have hk1 : (k : Int) < (n : Int) := by omega
      have hC := wrClos a x B wr (by omega) ((hb.cell (p := ⟨B, 0, none⟩) hB).trans hc)
      rw [any_drop ha] at hs
      cases hq : (a.key.toList == x.toList)
      · rw [hq] at hs hC
        have HT := Lib.hid hs
        clear hs ha
        go_wp2_with (first
          | ((with_reducible refine hC.mono ?_); rintro e w1 ⟨rfl, hb1⟩))
        go_roundw
        case rel => exact ⟨k + 1, by omega, by go_num, HT.out, hb.trans (hb1.mono hzz)⟩
        case measure => simp [intOf]; omega
      · have HF := Lib.hid (show wrL x l = true by unfold wrL; rw [← hs, hq]; rfl)
        rw [hq] at hC
        clear hs ha
        go_wp2_with (first
          | ((with_reducible refine hC.mono ?_); rintro e w1 ⟨rfl, hb1⟩))
        go_ret
        exact ⟨k, rfl, by rw [HF.out]; simp, hb.trans (hb1.mono hzz)⟩
    · have hd1 : decide ((k : Int) < (n : Int)) = false := by simp; omega
      have HF := Lib.hid (show wrL x l = false by unfold wrL; rw [← hs, List.drop_of_length_le (by omega)]; rfl)
      clear hs
      go_wp2
      go_ret
      exact ⟨-1, rfl, by rw [HF.out]; simp, hb⟩
set_option maxRecDepth 100000 in
set_option maxHeartbeats 1000000 in
theorem containsF_any (A : Option Addr) (n c : Nat) (l : List Wt) (x : ByteArray) (B : Nat) (w : World) (h : Sl WtRel 4 w w.heap.size A n l) (hn : n ≤ maxLen) (hB : B < w.heap.size) (hc : w.cell? ⟨B, 0, none⟩ = some (.string x)) :
    Calls Tryz.prog 126 #[.slice A n c, .func (.func 127) #[] #[.pointer (some ⟨B, 0, none⟩)]] w fun e w' => e = .returned (.bool (wrL x l)) ∧ Below w.heap.size w w' := by
  go_enter Tryz.func126, Tryz.ntmps126
  go_wp2_with (go_at_call 136; fail)
  refine (indexF_any A n c l x B w h hn hB hc).mono ?_
  rintro e w1 ⟨z, rfl, hz, hb⟩
  have HZ := Lib.hid hz
  clear hz
  go_wp2
  go_ret
  exact ⟨ret_bool HZ.out, hb⟩
set_option maxRecDepth 100000 in
set_option maxHeartbeats 1000000 in
theorem writes_any (p : Pn) (r : Value) (x : ByteArray) (A : Option Addr) (n c : Nat) (w : World) (_hr : r.oneCell' = true) (h : Sl WtRel 4 w w.heap.size A n p.w) (hn : n ≤ maxLen) :
    Calls Tryz.prog 110 #[p.val r (.slice A n c), .string x] w fun e w' => e = .returned (.bool (wrL x p.w)) ∧ Below w.heap.size w w' := by
  go_enter Tryz.func110, Tryz.ntmps110
  go_wp2_with (go_at_call 126; fail)
  have hX : Below w.heap.size w ((w.alloc (.cells #[.int .i64 p.t.c, .int .i64 p.t.l, .int .i64 p.t.s, .int .i64 p.s.w, .int .i64 p.s.l, .int .i64 p.s.n, r, .slice A n c] 45)).alloc (.cells #[.string x] 9)) := by go_grown
  refine (containsF_any A n c p.w x (w.heap.size + 1) _ (h.below WtRel.kept hX |>.more WtRel.kept hX.size) hn (by simp) ((Blk.new' _ _ (by simp)).cell 0)).mono ?_
  rintro e w1 ⟨rfl, hb⟩
  go_wp2
  go_ret
  exact ⟨rfl, hX.trans (hb.mono hX.size)⟩

section
variable {α : Type} {f : α → List Value} {E size base base' : Nat} {w : World} {v : Value} {l : List α}
theorem OwnL.mono_base (h : OwnL f E size base w v l) (hb : base' ≤ base) : OwnL f E size base' w v l := by
  refine ⟨h.1, ?_⟩
  rcases h.2 with h | ⟨g, c, cur, e, hg, r⟩
  · exact .inl h
  · exact .inr ⟨g, c, cur, e, Nat.le_trans hb hg, r⟩
theorem OwnL.far (h : OwnL f E size base w v l) {g : Nat} (hg : g < base) : v.ownBlock = none ∨ v.ownBlock ≠ some g := by
  cases e : v.ownBlock with
  | none => exact .inl rfl
  | some k =>
    refine .inr fun e2 => ?_
    have := (h.lt k e).1
    injection e2 with e2
    omega
theorem OwnL.set_far (h : OwnL f E size base w v l) {p : Addr} (hp : p.block < base) (u : Value) : OwnL f E size base (w.setCell p u) v l :=
  World.ownsRow.kept (row := some p.block) h ⟨rfl, rfl, rfl, by simp, fun k _ hne => Below.heap_setCell w p u k (fun e => hne (by rw [e]))⟩ (h.far hp)
theorem OwnL.setRow_far (h : OwnL f E size base w v l) {g : Nat} (hp : g < base) (cs : Array Value) : OwnL f E size base (w.setRow g cs) v l :=
  World.ownsRow.kept (row := some g) h ⟨rfl, rfl, rfl, by simp, fun k _ hne => setRow_other w g k cs (fun e => hne (by rw [e]))⟩ (h.far hp)
end
def ClonePost (p : Pn) (w : World) : Ending → World → Prop := fun e w' => ∃ r q, e = .returned (p.val r q) ∧ OwnL keyCells 9 1 w.heap.size w' r p.r ∧ OwnL Wt.cells 86 4 w.heap.size w' q p.w ∧ Below w.heap.size w w'
set_option maxRecDepth 100000 in
set_option maxHeartbeats 4000000 in
theorem pclone_any (p : Pn) (A1 A2 : Option Addr) (n1 n2 c1 c2 : Nat) (w : World) (hr : Sl KyRel 1 w w.heap.size A1 n1 p.r) (hw : Sl WtRel 4 w w.heap.size A2 n2 p.w) (hn1 : n1 ≤ 1000000) (hn2 : n2 ≤ 1000000) :
    Calls Tryz.prog 82 #[p.val (.slice A1 n1 c1) (.slice A2 n2 c2)] w (ClonePost p w) := by
  go_enter Tryz.func82, Tryz.ntmps82
  go_wp2_with (go_at_call 113; fail)
  have hX : Below w.heap.size w ((w.alloc (.cells #[.int .i64 p.t.c, .int .i64 p.t.l, .int .i64 p.t.s, .int .i64 p.s.w, .int .i64 p.s.l, .int .i64 p.s.n, .slice A1 n1 c1, .slice A2 n2 c2] 45)).alloc (.cells #[.int .i64 0, .int .i64 0, .int .i64 0, .int .i64 0, .int .i64 0, .int .i64 0, .slice none 0 0, .slice none 0 0] 45)) := by go_grown
  have d1 := (Blk.new w 45 #[.int .i64 p.t.c, .int .i64 p.t.l, .int .i64 p.t.s, .int .i64 p.s.w, .int .i64 p.s.l, .int .i64 p.s.n, .slice A1 n1 c1, .slice A2 n2 c2]).alloc (.cells #[.int .i64 0, .int .i64 0, .int .i64 0, .int .i64 0, .int .i64 0, .int .i64 0, .slice none 0 0, .slice none 0 0] 45)
  have d2 := Blk.new' (w := w.alloc (.cells #[.int .i64 p.t.c, .int .i64 p.t.l, .int .i64 p.t.s, .int .i64 p.s.w, .int .i64 p.s.l, .int .i64 p.s.n, .slice A1 n1 c1, .slice A2 n2 c2] 45)) (g := w.heap.size + 1) 45 #[.int .i64 0, .int .i64 0, .int .i64 0, .int .i64 0, .int .i64 0, .int .i64 0, .slice none 0 0, .slice none 0 0] (by simp)
  refine (clone_ky A1 n1 c1 p.r _ (hr.below KyRel.kept hX |>.more KyRel.kept hX.size) hn1).mono ?_
  rintro e w1 ⟨v1, rfl, ho1, hb1⟩
  have e1 := d1.below hb1 d1.lt
  have e2 := d2.below hb1 d2.lt
  have hw1 : Below w.heap.size w w1 := hX.trans (hb1.mono hX.size)
  replace ho1 : OwnL keyCells 9 1 (w.heap.size + 2) w1 v1 p.r := ho1.mono_base (by simp)
  clear hb1 hX d1 d2
  obtain ⟨g1, x0, x1, x2, x3, x4, x5, x6, x7⟩ := e1.eight
  have g2 := e2.lt
  have f6 := e1.frozen 6
  have f7 := e1.frozen 7
  obtain ⟨A3, q3, rfl, hq3, hq3m⟩ := ho1.form
  go_wp2_with (go_at_call 114; fail)
  have ho2 := ho1.set_far (p := ⟨w.heap.size, 6, none⟩) (by simp) (.slice A3 p.r.length q3)
  have k1 : Blk (w1.setCell ⟨w.heap.size, 6, none⟩ (.slice A3 p.r.length q3)) w.heap.size 45 #[.int .i64 p.t.c, .int .i64 p.t.l, .int .i64 p.t.s, .int .i64 p.s.w, .int .i64 p.s.l, .int .i64 p.s.n, .slice A3 p.r.length q3, .slice A2 n2 c2] := e1.set_ 6 _
  have k2 := e2.far (p := ⟨w.heap.size, 6, none⟩) (by simp) (.slice A3 p.r.length q3)
  have hw2 : Below w.heap.size w (w1.setCell ⟨w.heap.size, 6, none⟩ (.slice A3 p.r.length q3)) := hw1.setCell (by simp) _
  clear e1 e2 ho1 hw1 x0 x1 x2 x3 x4 x5 x6 x7 f6 f7
  generalize (w1.setCell ⟨w.heap.size, 6, none⟩ (.slice A3 p.r.length q3)) = w2 at *
  refine (clone_wt A2 n2 c2 p.w _ (hw.below WtRel.kept hw2 |>.more WtRel.kept hw2.size) hn2).mono ?_
  rintro e w3 ⟨v3, rfl, ho3, hb3⟩
  have e1 := k1.below hb3 k1.lt
  have e2 := k2.below hb3 k2.lt
  have hw3 : Below w.heap.size w w3 := hw2.trans (hb3.mono hw2.size)
  have l2 := k2.lt
  replace ho3 : OwnL Wt.cells 86 4 (w.heap.size + 2) w3 v3 p.w := ho3.mono_base (by omega)
  have ho2 := ho2.below hb3
  clear k1 k2 hw2
  obtain ⟨g1, x0, x1, x2, x3, x4, x5, x6, x7⟩ := e1.eight
  have g2 := e2.lt
  have f7 := e1.frozen 7
  obtain ⟨A4, q4, rfl, hq4, hq4m⟩ := ho3.form
  have e3 : Blk (w3.setCell ⟨w.heap.size, 7, none⟩ (.slice A4 p.w.length q4)) w.heap.size 45 #[.int .i64 p.t.c, .int .i64 p.t.l, .int .i64 p.t.s, .int .i64 p.s.w, .int .i64 p.s.l, .int .i64 p.s.n, .slice A3 p.r.length q3, .slice A4 p.w.length q4] := e1.set_ 7 _
  have e4 := e2.far (p := ⟨w.heap.size, 7, none⟩) (by simp) (.slice A4 p.w.length q4)
  go_wp2_with (first
    | (refine wpList_store_row rfl 45 _ _ rfl _ _ rfl rfl _ _ e4 (by kernel_rfl) (by kernel_rfl) (by kernel_rfl) ?_))
  refine post_cell rfl (by rfl) (e4.setRow _) rfl rfl (by kernel_rfl) ?_
  refine ⟨_, _, rfl, ?_, ?_, ?_⟩
  · exact ((ho2.set_far (by simp) _).setRow_far (by omega) _).mono_base (by omega)
  · exact ((ho3.set_far (by simp) _).setRow_far (by omega) _).mono_base (by omega)
  · exact below_setRow (hw3.setCell (by simp) _) (by omega) _
end Go.Proofs.YtipacjbegfingaaGreat
/- The store's two maps as plain words; New. -/
namespace Go.Proofs.YtipacjbegfingaaGreat
open Go.RowKit Fl
attribute [local go_sem] run_store_float

/-- an element of a map, read as what it is -/
abbrev anyE : Value → Option (DataW Value × List MemPlace) := fun v => some (.held v, [])
theorem laidO : laidOutB Tryz.prog = true := by kernel_rfl
theorem kStr : Maps.Keyed Tryz.prog 9 := Maps.string_keyed Tryz.underlying9
theorem kTxn : Maps.Keyed Tryz.prog 41 := Maps.Keyed.of_law (deep_law_laid (m := 3) laidO (by omega) (of_decide_eq_true (by kernel_rfl)) (by kernel_rfl) (by kernel_rfl))
noncomputable def txl (t : Tx) : Lit := (keyOf Tryz.prog 41 t.val).getD .nil
theorem txl_of {t : Tx} (h : t.ok) : keyOf Tryz.prog 41 t.val = some (txl t) := by
  have hw : ∀ z, i64ok z → (Lit.int .i64 z).wf = true := fun z hz => by unfold i64ok at hz; simp [Lit.wf, IntKind.min, IntKind.max, IntKind.signed, IntKind.bits]; omega
  have e : keyOf Tryz.prog 41 t.val = some (.string (keyBytes [.int .i64 t.c, .int .i64 t.l, .int .i64 t.s])) := by
    unfold keyOf
    rw [Tryz.underlying41]
    have h1 : (Tryz.prog.keyType 41 && Value.formed Tryz.prog 41 t.val) = true := by kernel_rfl
    show (if _ then _ else _) = _
    rw [if_pos h1]
    obtain ⟨m, hm⟩ : ∃ m, Tryz.prog.types.size = m + 1 := ⟨Tryz.prog.types.size - 1, by
      have : 0 < Tryz.prog.types.size := of_decide_eq_true (by kernel_rfl)
      omega⟩
    rw [hm]
    have hc : Tryz.prog.cellsOf 41 = 3 := by kernel_rfl
    have hi : Tryz.prog.cellsOf 3 = 1 := by kernel_rfl
    simp [Program.keyLits, Tryz.underlying41, Tryz.underlying3, hc, hi, Value.cells, hw _ h.1, hw _ h.2.1, hw _ h.2.2]
  unfold txl
  rw [e]; rfl
theorem txl_inj {a b : Tx} (ha : a.ok) (hb : b.ok) (h : txl a = txl b) : a = b := by
  have h1 := txl_of ha
  have h2 := txl_of hb
  rw [h] at h1
  have := kTxn.inj h1 h2
  cases a; cases b
  simpa using this

/-- the versions of a key -/
def versOf (l : List Hs) (key : ByteArray) : List Vn := l.foldl (fun acc h => if h.key.toList == key.toList then h.vs else acc) []
theorem versOf_snoc (l : List Hs) (h : Hs) (key : ByteArray) : versOf (l ++ [h]) key = if h.key.toList == key.toList then h.vs else versOf l key := by
  unfold versOf
  rw [List.foldl_append]
  rfl
abbrev keyLit (k : ByteArray) : Lit := .string k.data.toList
abbrev zeroVs : DataW Value := .held (.slice none 0 0)
/-- the map of versions reads so -/
def KeysD (w : World) (B : Nat) (D : DataW Value) (l : List Hs) : Prop := ∀ key : ByteArray, ∃ v, D.atKey (keyLit key) zeroVs = .held v ∧ HdRel VnRel 6 w B v (versOf l key)
/-- the map of what is pending reads so -/
def PendD (w : World) (B : Nat) (D : DataW Value) (l : List Pn) : Prop :=
  (∀ kl, Maps.has D kl = true → ∃ p ∈ l, kl = txl p.t) ∧ ∀ p ∈ l, p.t.ok ∧ p.s.ok ∧ ∃ r q, (∀ zd, D.atKey (txl p.t) zd = .held (p.val r q)) ∧ HdRel KyRel 1 w B r p.r ∧ HdRel WtRel 4 w B q p.w
section
variable {w w' : World} {B B' : Nat} {D : DataW Value} {l : List Hs} {m : List Pn}
theorem KeysD.below (h : KeysD w B D l) (hb : Below B w w') : KeysD w' B D l := fun key => by
  obtain ⟨v, e, hv⟩ := h key
  exact ⟨v, e, hv.below VnRel.kept hb⟩
theorem KeysD.more (h : KeysD w B D l) (hB : B ≤ B') : KeysD w B' D l := fun key => by
  obtain ⟨v, e, hv⟩ := h key
  exact ⟨v, e, hv.more VnRel.kept hB⟩
theorem PendD.below (h : PendD w B D m) (hb : Below B w w') : PendD w' B D m := ⟨h.1, fun p hp => by
  obtain ⟨h1, h2, r, q, e, hr, hq⟩ := h.2 p hp
  exact ⟨h1, h2, r, q, e, hr.below KyRel.kept hb, hq.below WtRel.kept hb⟩⟩
theorem PendD.more (h : PendD w B D m) (hB : B ≤ B') : PendD w B' D m := ⟨h.1, fun p hp => by
  obtain ⟨h1, h2, r, q, e, hr, hq⟩ := h.2 p hp
  exact ⟨h1, h2, r, q, e, hr.more KyRel.kept hB, hq.more WtRel.kept hB⟩⟩
theorem KeysD.nil : KeysD w B (.map []) [] := fun _ => ⟨_, rfl, HdRel.nil⟩
theorem PendD.nil : PendD w B (.map []) [] := ⟨fun kl h => by simp [Maps.has] at h, fun p hp => by simp at hp⟩
theorem keyLit_inj {a b : ByteArray} (h : keyLit a = keyLit b) : a.toList = b.toList := by
  injection h with h
  rw [ByteArray.toList_eq, ByteArray.toList_eq, h]
theorem KeysD.put (h : KeysD w B D l) (hD : Maps.IsMap D) {x : Hs} {v : Value} (hv : HdRel VnRel 6 w B v x.vs) : KeysD w B (D.put (keyLit x.key) (.held v)) (l ++ [x]) := fun key => by
  rw [versOf_snoc]
  by_cases hk : x.key.toList = key.toList
  · have e : keyLit key = keyLit x.key := by rw [ByteArray.toList_eq, ByteArray.toList_eq] at hk; show Lit.string _ = Lit.string _; rw [hk]
    rw [e, Maps.atKey_put_same hD (show WideAt.IsKeyLit (keyLit x.key) from trivial)]
    refine ⟨v, rfl, ?_⟩
    simp only [hk, beq_self_eq_true, if_true]
    exact hv
  · obtain ⟨u, e, hu⟩ := h key
    refine ⟨u, ?_, ?_⟩
    · rw [Maps.atKey_put_other (fun e2 => hk (keyLit_inj e2).symm)]; exact e
    · simp only [beq_eq_false_iff_ne.2 hk, Bool.false_eq_true, if_false]
      exact hu
set_option maxRecDepth 100000 in
theorem PendD.put (h : PendD w B D m) (hD : Maps.IsMap D) {p : Pn} {r q : Value} (h1 : p.t.ok) (h2 : p.s.ok) (hr : HdRel KyRel 1 w B r p.r) (hq : HdRel WtRel 4 w B q p.w) (hn : ∀ x ∈ m, x.t ≠ p.t) :
    PendD w B (D.put (txl p.t) (.held (p.val r q))) (m ++ [p]) := by
  have hk : WideAt.IsKeyLit (txl p.t) := kTxn.key (txl_of h1)
  refine ⟨fun kl hkl => ?_, fun x hx => ?_⟩
  · by_cases e : kl = txl p.t
    · exact ⟨p, by simp, e⟩
    · rw [Maps.has_put_other e] at hkl
      obtain ⟨x, hx, e2⟩ := h.1 kl hkl
      exact ⟨x, by simp [hx], e2⟩
  · rcases List.mem_append.1 hx with hx | hx
    · obtain ⟨h3, h4, r', q', e, hr', hq'⟩ := h.2 x hx
      refine ⟨h3, h4, r', q', fun zd => ?_, hr', hq'⟩
      rw [Maps.atKey_put_other (fun e2 => hn x hx (txl_inj h3 h1 e2))]
      exact e zd
    · simp only [List.mem_cons, List.not_mem_nil, or_false] at hx
      subst hx
      exact ⟨h1, h2, r, q, fun zd => Maps.atKey_put_same hD hk _ _, hr, hq⟩
end

/-- a store: its block, its two maps; all from block base on -/
structure StoreW (w : World) (base g b1 b2 : Nat) (l : List Hs) (m : List Pn) : Prop where
  blk : Blk w g 125 #[.map (some b1), .map (some b2), .int .i64 0, .int .i64 0, .int .i64 0]
  g0 : base ≤ g
  b10 : base ≤ b1
  b20 : base ≤ b2
  ne : b1 ≠ b2
  ne1 : g ≠ b1
  ne2 : g ≠ b2
  ks : ∃ D, w.ownsMap Tryz.prog 9 anyE b1 l.length D ∧ KeysD w w.heap.size D l
  one : ∀ p ∈ m, ∀ p' ∈ m, p.t = p'.t → p = p'
  ps : ∃ D, w.ownsMap Tryz.prog 41 anyE b2 m.length D ∧ PendD w w.heap.size D m
theorem grownBy_below {w w' : World} (hb : Below w.heap.size w w') (row : Option Nat) : w.grownBy w' row := ⟨hb.os, hb.tape, hb.output, hb.size, fun k hk _ => hb.block k hk⟩
theorem StoreW.below {w w' : World} {base g b1 b2 : Nat} {l : List Hs} {m : List Pn} (h : StoreW w base g b1 b2 l m) (hb : Below w.heap.size w w') : StoreW w' base g b1 b2 l m := by
  obtain ⟨D1, o1, k1⟩ := h.ks
  obtain ⟨D2, o2, k2⟩ := h.ps
  exact ⟨h.blk.below hb h.blk.lt, h.g0, h.b10, h.b20, h.ne, h.ne1, h.ne2, ⟨D1, o1.kept (grownBy_below hb none) (by simp), (k1.below hb).more hb.size⟩, h.one, ⟨D2, o2.kept (grownBy_below hb none) (by simp), (k2.below hb).more hb.size⟩⟩

set_option maxHeartbeats 1000000 in
theorem new_store (w : World) : Calls Tryz.prog 77 #[] w fun e w' => ∃ g b1 b2, e = .returned (.pointer (some ⟨g, 0, none⟩)) ∧ StoreW w' w.heap.size g b1 b2 [] [] ∧ Below w.heap.size w w' := by
  have hmm := @run_makeMap Tryz.prog
  go_enter Tryz.func77, Tryz.ntmps77
  go_wp2
  go_ret
  refine ⟨_, w.heap.size, w.heap.size + 1, rfl, ⟨Blk.new' _ _ (by simp), by first | omega | (simp; omega), by first | omega | simp, by first | omega | simp, by first | omega | simp, by first | omega | (simp; omega), by first | omega | simp, ⟨.map [], ?_, KeysD.nil⟩, by simp, ⟨.map [], ?_, PendD.nil⟩⟩, (((Below.refl _ _).alloc (Nat.le_refl _) _).alloc (by simp) _).alloc (by simp; omega) _⟩
  · exact ((World.ownsMap_made w _ _ _).alloc _).alloc _
  · have h := (World.ownsMap_made (w.alloc (.map #[] 0)) Tryz.prog 41 anyE).alloc (.cells #[.map (some w.heap.size), .map (some (w.heap.size + 1)), .int .i64 0, .int .i64 0, .int .i64 0] 125)
    rw [show (w.alloc (.map #[] 0)).heap.size = w.heap.size + 1 from by simp] at h
    exact h
end Go.Proofs.YtipacjbegfingaaGreat
/- The walks of mvcc's newest, Newest, old, locked. -/
namespace Go.Proofs.YtipacjbegfingaaGreat
open Go.RowKit Fl
attribute [local go_sem] run_store_float

/-- 'm[k]' at elements read as what they are -/
theorem wpList_lookup_held {P : Program} (w : World) {ops : Array Oper} {rest : List Oper} {o : Oper} {a : Act} {Q : Exit → Act → World → Prop}
    (hg : o.guard = none) (m x : Operand) (t : TypeId) (hop : o.op = Op.lookup t m x false)
    (k e : TypeId) (K : Maps.Keyed P k) (ht : P.underlying t = some (.map k e)) (z : Value) (hz : (zeroValue e).run P w = .ok z w) (b n : Nat) (D : DataW Value)
    (hm : a.eval m = .map (some b)) (hown : w.ownsMap P k anyE b n D) (key : Value) (kl : Lit) (hx : a.eval x = key) (hkey : keyOf P k key = some kl)
    (hK : ∀ v, D.atKey kl (.held z) = .held v → wpList P ops Q rest (a.put o.dst v) w) : wpList P ops Q (o :: rest) a w := by
  refine wpList_plain hg fun K' hK' => ?_
  obtain ⟨v, ps, hrun, hat⟩ := hown.lookup K ht hz rfl hkey
  unfold Oper.wp
  simp [execOp, hop, hm, hx, hrun, Result.andThen]
  refine hK' _ _ (hK v ?_)
  injection hat with hat
  injection hat with h1 h2
  exact h1.symm
theorem Blk.fiveC {w : World} {g : Nat} {t : TypeId} {a b c d e : Value} (h : Blk w g t #[a, b, c, d, e]) : g < w.heap.size ∧ w.cell? ⟨g, 0, none⟩ = some a ∧ w.cell? ⟨g, 1, none⟩ = some b ∧ w.cell? ⟨g, 2, none⟩ = some c ∧
    w.cell? ⟨g, 3, none⟩ = some d ∧ w.cell? ⟨g, 4, none⟩ = some e := ⟨h.lt, h.cell 0, h.cell 1, h.cell 2, h.cell 3, h.cell 4⟩
theorem Blk.sevenC {w : World} {g : Nat} {t : TypeId} {a b c d e f i : Value} (h : Blk w g t #[a, b, c, d, e, f, i]) : g < w.heap.size ∧ w.cell? ⟨g, 0, none⟩ = some a ∧ w.cell? ⟨g, 1, none⟩ = some b ∧ w.cell? ⟨g, 2, none⟩ = some c ∧
    w.cell? ⟨g, 3, none⟩ = some d ∧ w.cell? ⟨g, 4, none⟩ = some e ∧ w.cell? ⟨g, 5, none⟩ = some f ∧ w.cell? ⟨g, 6, none⟩ = some i := ⟨h.lt, h.cell 0, h.cell 1, h.cell 2, h.cell 3, h.cell 4, h.cell 5, h.cell 6⟩

theorem Blk.range {w : World} {g : Nat} {t : TypeId} {cs : Array Value} (h : Blk w g t cs) (o : Nat) (xs : List Value) (hx : ∀ j v, xs[j]? = some v → cs[o + j]? = some v) : w.rangeAt g o xs := fun j v hj => by rw [h.cell]; exact hx j v hj
theorem Blk.there {w : World} {g : Nat} {t : TypeId} {cs : Array Value} (h : Blk w g t cs) (o n : Nat) (hn : o + n ≤ cs.size) : w.there g o n := fun j hj => by
  refine ⟨?_, h.frozen _⟩
  rw [h.cell, Array.getElem?_eq_getElem (by omega)]; rfl
theorem three_of {cs : Array Value} {o : Nat} {a b c : Value} (h0 : cs[o]? = some a) (h1 : cs[o + 1]? = some b) (h2 : cs[o + 2]? = some c) : ∀ j v, [a, b, c][j]? = some v → cs[o + j]? = some v := by
  intro j v hj
  match j, hj with
  | 0, hj => simp at hj; subst hj; exact h0
  | 1, hj => simp at hj; subst hj; exact h1
  | 2, hj => simp at hj; subst hj; exact h2
/-- one store of a struct into the midst of a block comes up alone, in a region that draws its order -/
theorem wpAnyH_store_mid {P : Program} {md : Region.Mode} {ops : Array Oper} {Q : Exit → Act → World → Prop} {S : World → Prop} {fuel : Nat} {listed : Array Bool} {a : Act} {w : World} {i : Nat} {op : Oper}
    (hr : Region.ready md ops listed = [i]) (ho : ops[i]? = some op) (hg : op.guard = none) (ty : TypeId) (x y : Operand) (hop : op.op = .store ty x y)
    (b o : Nat) (cells : Array Value) (hx : a.eval x = .pointer (some ⟨b, o, none⟩)) (hy : a.eval y = .agg cells) (ht : w.there b o cells.size) (hi : (P.info? ty).map (·.size) = some cells.size) (h1 : cells.all (·.oneCell') = true)
    (hS : S (w.setCells b o cells.toList)) (h : wpAnyH P md ops Q S fuel (listed.setIfInBounds i true) (a.put op.dst undef) (w.setCells b o cells.toList)) : wpAnyH P md ops Q S (fuel + 1) listed a w := by
  refine wpAnyH_all hr (by simp) (fun j hj => ?_)
  obtain rfl : j = i := by simpa using hj
  refine wpOp_step ho (fun K' hK => ?_)
  have hw : Region.wanted op (yielded ops a.tmps) = true := by simp [Region.wanted, hg]
  rw [if_pos hw]
  exact wp_store_mid ty x y hop b o cells hx hy ht hi h1 (hK _ _ ⟨hS, h⟩)
theorem Blk.setCells3 {w : World} {g : Nat} {t : TypeId} {a b c d e f i x y z : Value} (h : Blk w g t #[a, b, c, d, e, f, i]) : Blk (w.setCells g 1 [x, y, z]) g t #[a, x, y, z, e, f, i] := ((h.set_ 1 x).set_ 2 y).set_ 3 z
theorem Blk.setCells3' {w : World} {g : Nat} {t : TypeId} {a b c d e f i x y z : Value} (h : Blk w g t #[a, b, c, d, e, f, i]) : Blk (w.setCells g 4 [x, y, z]) g t #[a, b, c, d, x, y, z] := ((h.set_ 4 x).set_ 5 y).set_ 6 z
theorem Blk.setCells3_far {w : World} {g b o : Nat} {t : TypeId} {cs : Array Value} {x y z : Value} (h : Blk w g t cs) (hne : g ≠ b) : Blk (w.setCells b o [x, y, z]) g t cs := ((h.far (p := ⟨b, o, none⟩) hne x).far (p := ⟨b, o + 1, none⟩) hne y).far (p := ⟨b, o + 1 + 1, none⟩) hne z
theorem below_setCells3 {B : Nat} {w w' : World} {b o : Nat} {x y z : Value} (h : Below B w w') (hb : B ≤ b) : Below B w (w'.setCells b o [x, y, z]) := ((h.setCell (p := ⟨b, o, none⟩) hb x).setCell (p := ⟨b, o + 1, none⟩) hb y).setCell (p := ⟨b, o + 1 + 1, none⟩) hb z
theorem Blk.drew {w : World} {g : Nat} {t : TypeId} {cs : Array Value} (h : Blk w g t cs) : Blk w.drew g t cs := h
def zeroVn : Vn := ⟨⟨0, 0, 0⟩, ⟨0, 0, ⟨#[]⟩⟩⟩
/-- the last version -/
def lastV (l : List Vn) : Vn := l.foldl (fun _ v => v) zeroVn
theorem lastV_take {l : List Vn} {k : Nat} {a : Vn} (h : l[k]? = some a) : lastV (l.take (k + 1)) = a := by
  unfold lastV
  rw [List.take_add_one, h, List.foldl_append]; rfl
abbrev seenArr (key : ByteArray) (v : Vn) : Array Value := #[.string key, .int .i64 v.v.k, .float .f64 v.v.n, .string v.v.t, .int .i64 v.s.w, .int .i64 v.s.l, .int .i64 v.s.n]
def NewestRel (key : ByteArray) (l : List Vn) (w : World) (i : Value) (wr : World) : Prop :=
  ∃ k : Nat, k ≤ l.length ∧ i = .int .i64 (k : Int) ∧ Blk wr (w.heap.size + 1) 147 (seenArr ⟨#[]⟩ zeroVn) ∧ Blk wr (w.heap.size + 1 + 1) 147 (seenArr key (lastV (l.take k))) ∧ Below w.heap.size w wr

set_option maxRecDepth 100000 in
set_option maxHeartbeats 4000000 in
theorem newest_any (base g b1 b2 : Nat) (l : List Hs) (m : List Pn) (key : ByteArray) (s : Sp) (w : World) (h : StoreW w base g b1 b2 l m) (hk : key.size ≤ maxLen) :
    Calls Tryz.prog 129 #[.pointer (some ⟨g, 0, none⟩), .string key, s.val, .bool true] w fun e w' => e = .returned (.agg (seenArr key (lastV (versOf l key)))) ∧ Below w.heap.size w w' := by
  obtain ⟨D, ho, hD⟩ := h.ks
  obtain ⟨gl, c0, c1, c2, c3, c4⟩ := h.blk.fiveC
  have gl1 : g < w.heap.size + 1 := by omega
  have gl2 : g < w.heap.size + 1 + 1 := by omega
  have hkey : keyOf Tryz.prog 9 (.string key) = some (keyLit key) := WideMaps.keyOf_string_mk Tryz.underlying9 hk
  obtain ⟨v0, hv0, A, n, c, rfl, hnc, hcm, hsl⟩ := hD key
  generalize versOf l key = vs at *
  go_enter Tryz.func129, Tryz.ntmps129
  go_wp2_with (first
    | (at_lookup
       refine wpList_lookup_held _ rfl _ _ 123 rfl 9 57 kStr Tryz.underlying123 (.slice none 0 0) (by rfl) b1 l.length D rfl (((ho.alloc _).alloc _).alloc _) _ (keyLit key) rfl hkey ?_
       intro v hv
       rw [hv0] at hv
       injection hv with hv
       subst hv))
  have hX : Below w.heap.size w (((w.alloc (.cells s.arr 26)).alloc (.cells (seenArr ⟨#[]⟩ zeroVn) 147)).alloc (.cells (seenArr key zeroVn) 147)) := by go_grown
  have i8 : Blk (((w.alloc (.cells s.arr 26)).alloc (.cells (seenArr ⟨#[]⟩ zeroVn) 147)).alloc (.cells (seenArr key zeroVn) 147)) (w.heap.size + 1) 147 (seenArr ⟨#[]⟩ zeroVn) := (Blk.new' _ _ (by simp)).alloc _
  have i9 : Blk (((w.alloc (.cells s.arr 26)).alloc (.cells (seenArr ⟨#[]⟩ zeroVn) 147)).alloc (.cells (seenArr key zeroVn) 147)) (w.heap.size + 1 + 1) 147 (seenArr key zeroVn) := Blk.new' _ _ (by simp)
  have hll := hsl.1
  have hge : n ≤ vs.length := by omega
  have hle : vs.length ≤ n := by omega
  unfold maxLen at hcm
  clear hll hD ho hv0 c0 c1 c2 c3 c4
  go_loopw [21] (fun i wr => NewestRel key vs w i wr) (fun i _ => n - (intOf i).toNat)
  case atStart => exact ⟨0, by omega, rfl, i8, i9, hX⟩
  case round =>
    obtain ⟨k, hk', rfl, b8, b9, hb⟩ := hrel
    have hzz := hb.size
    by_cases hlt : k < n
    · obtain ⟨ad, a, rfl, ha, hbk, hok, c0, c1, c2, c3, c4, c5⟩ := (hsl.below VnRel.kept hb).vn hlt
      have hd1 : decide ((k : Int) < (n : Int)) = true := by simp; omega
      have hk0 : (0 : Int) ≤ (k : Int) := by omega
      have hk1 : (k : Int) < (n : Int) := by omega
      have HS := Lib.hid (lastV_take ha)
      have b11 := Blk.new wr 64 #[.int .i64 a.s.w, .int .i64 a.s.l, .int .i64 a.s.n, .int .i64 a.v.k, .float .f64 a.v.n, .string a.v.t]
      have b9' := b9.alloc (.cells #[.int .i64 a.s.w, .int .i64 a.s.l, .int .i64 a.s.n, .int .i64 a.v.k, .float .f64 a.v.n, .string a.v.t] 64)
      have b8' := b8.alloc (.cells #[.int .i64 a.s.w, .int .i64 a.s.l, .int .i64 a.s.n, .int .i64 a.v.k, .float .f64 a.v.n, .string a.v.t] 64)
      have hb' := hb.alloc hzz (.cells #[.int .i64 a.s.w, .int .i64 a.s.l, .int .i64 a.s.n, .int .i64 a.v.k, .float .f64 a.v.n, .string a.v.t] 64)
      clear ha
      go_wp2
      generalize hg11 : wr.heap.size = g11 at *
      generalize (wr.alloc (.cells #[.int .i64 a.s.w, .int .i64 a.s.l, .int .i64 a.s.n, .int .i64 a.v.k, .float .f64 a.v.n, .string a.v.t] 64)) = wz at *
      obtain ⟨l11, x0, x1, x2, x3, x4, x5⟩ := b11.six
      have f1 := b9'.frozen 1
      have f2 := b9'.frozen 2
      have f3 := b9'.frozen 3
      have f4 := b9'.frozen 4
      have f5 := b9'.frozen 5
      have f6 := b9'.frozen 6
      obtain ⟨g9, y0, y1, y2, y3, y4, y5, y6⟩ := b9'.sevenC
      have ne9 : g11 ≠ w.heap.size + 1 + 1 := by have := b9.lt; omega
      have ne10 : ¬ w.heap.size + 1 + 1 = g11 := fun e => ne9 e.symm
      clear c0 c1 c2 c3 c4 c5
      refine wp_region_held_drew (S := fun w' => Blk w' g11 64 #[.int .i64 a.s.w, .int .i64 a.s.l, .int .i64 a.s.n, .int .i64 a.v.k, .float .f64 a.v.n, .string a.v.t]) (by kernel_rfl) b11 (fun hHeld => ?_)
      refine wpAnyH_take (i := 0) (v := .pointer (some ⟨g11, 3, none⟩)) rfl (by kernel_rfl) (by kernel_rfl) (by kernel_rfl) (fun _ _ _ h => h) (Or.inl ⟨by rfl, fun w hSw => by clear hSw; go_simp⟩) hHeld ?_
      go_frame
      refine wpAnyH_take (i := 1) rfl (by kernel_rfl) (by kernel_rfl) (by kernel_rfl) (fun _ _ _ h => h) (yieldsIf_load_mid (by rfl) _ _ rfl g11 3 rfl [.int .i64 a.v.k, .float .f64 a.v.n, .string a.v.t] _ (fun w h => h.range 3 _ (three_of rfl rfl rfl)) rfl rfl (by kernel_rfl)) hHeld ?_
      go_frame
      refine wpAnyH_take (i := 2) (v := .pointer (some ⟨g11, 0, none⟩)) rfl (by kernel_rfl) (by kernel_rfl) (by kernel_rfl) (fun _ _ _ h => h) (Or.inl ⟨by rfl, fun w hSw => by clear hSw; go_simp⟩) hHeld ?_
      go_frame
      refine wpAnyH_take (i := 3) rfl (by kernel_rfl) (by kernel_rfl) (by kernel_rfl) (fun _ _ _ h => h) (yieldsIf_load_mid (by rfl) _ _ rfl g11 0 rfl [.int .i64 a.s.w, .int .i64 a.s.l, .int .i64 a.s.n] _ (fun w h => h.range 0 _ (three_of rfl rfl rfl)) rfl rfl (by kernel_rfl)) hHeld ?_
      go_frame
      refine wpAnyH_take (i := 4) (v := .pointer (some ⟨w.heap.size + 1 + 1, 1, none⟩)) rfl (by kernel_rfl) (by kernel_rfl) (by kernel_rfl) (fun _ _ _ h => h) (Or.inl ⟨by rfl, fun w hSw => by clear hSw; go_simp⟩) hHeld ?_
      go_frame
      have b9a := b9'.drew.setCells3 (x := .int .i64 a.v.k) (y := .float .f64 a.v.n) (z := .string a.v.t)
      have b11a := b11.drew.setCells3_far (o := 1) (x := .int .i64 a.v.k) (y := .float .f64 a.v.n) (z := .string a.v.t) ne9
      have b8a := b8'.drew.setCells3_far (b := w.heap.size + 1 + 1) (o := 1) (x := .int .i64 a.v.k) (y := .float .f64 a.v.n) (z := .string a.v.t) (by omega)
      have hba := below_setCells3 (b := w.heap.size + 1 + 1) (o := 1) (x := .int .i64 a.v.k) (y := .float .f64 a.v.n) (z := .string a.v.t) hb'.drew (by omega)
      refine wpAnyH_store_mid (i := 5) (by kernel_rfl) rfl rfl _ _ _ rfl (w.heap.size + 1 + 1) 1 #[.int .i64 a.v.k, .float .f64 a.v.n, .string a.v.t] rfl rfl (b9'.drew.there 1 3 (by simp)) (by kernel_rfl) (by kernel_rfl) b11a ?_
      go_frame
      generalize (wz.drew.setCells (w.heap.size + 1 + 1) 1 [.int .i64 a.v.k, .float .f64 a.v.n, .string a.v.t]) = wq at *
      refine wpAnyH_take (i := 6) (v := .pointer (some ⟨w.heap.size + 1 + 1, 4, none⟩)) rfl (by kernel_rfl) (by kernel_rfl) (by kernel_rfl) (fun _ _ _ h => h) (Or.inl ⟨by rfl, fun w hSw => by clear hSw; go_simp⟩) b11a ?_
      go_frame
      have b9c := b9a.setCells3' (x := .int .i64 a.s.w) (y := .int .i64 a.s.l) (z := .int .i64 a.s.n)
      have b11c := b11a.setCells3_far (b := w.heap.size + 1 + 1) (o := 4) (x := .int .i64 a.s.w) (y := .int .i64 a.s.l) (z := .int .i64 a.s.n) ne9
      have b8c := b8a.setCells3_far (b := w.heap.size + 1 + 1) (o := 4) (x := .int .i64 a.s.w) (y := .int .i64 a.s.l) (z := .int .i64 a.s.n) (by omega)
      have hbc := below_setCells3 (b := w.heap.size + 1 + 1) (o := 4) (x := .int .i64 a.s.w) (y := .int .i64 a.s.l) (z := .int .i64 a.s.n) hba (by omega)
      refine wpAnyH_store_mid (i := 7) (by kernel_rfl) rfl rfl _ _ _ rfl (w.heap.size + 1 + 1) 4 #[.int .i64 a.s.w, .int .i64 a.s.l, .int .i64 a.s.n] rfl rfl (b9a.there 4 3 (by simp)) (by kernel_rfl) (by kernel_rfl) b11c ?_
      generalize (wq.setCells (w.heap.size + 1 + 1) 4 [.int .i64 a.s.w, .int .i64 a.s.l, .int .i64 a.s.n]) = wp at *
      refine wpAnyH_done (by kernel_rfl) ?_ _
      go_frame
      go_wp2
      go_roundw
      case rel =>
        refine ⟨k + 1, by omega, by go_num, b8c, ?_, hbc⟩
        rw [HS.out]
        exact b9c
      case measure => simp [intOf]; omega
    · have hd1 : decide ((k : Int) < (n : Int)) = false := by simp; omega
      rw [List.take_of_length_le (by omega)] at b9
      obtain ⟨g9, x0, x1, x2, x3, x4, x5, x6⟩ := b9.sevenC
      have l8 := b8.lt
      go_wp2_with (refine wpList_store_row rfl 147 _ _ rfl _ _ rfl rfl _ _ b8 (by kernel_rfl) (by kernel_rfl) (by kernel_rfl) ?_)
      refine post_cell rfl (by rfl) (b8.setRow _) rfl rfl (by kernel_rfl) ?_
      exact ⟨rfl, below_setRow hb (by omega) _⟩
end Go.Proofs.YtipacjbegfingaaGreat
/- The walks of mvcc's Newest, old, locked. -/
namespace Go.Proofs.YtipacjbegfingaaGreat
open Go.RowKit Fl
attribute [local go_sem] run_store_float

set_option maxRecDepth 100000 in
set_option maxHeartbeats 1000000 in
theorem newestOf_any (base g b1 b2 : Nat) (l : List Hs) (m : List Pn) (key : ByteArray) (w : World) (h : StoreW w base g b1 b2 l m) (hk : key.size ≤ maxLen) :
    Calls Tryz.prog 112 #[.pointer (some ⟨g, 0, none⟩), .string key] w fun e w' => e = .returned (.agg (seenArr key (lastV (versOf l key)))) ∧ Below w.heap.size w w' := by
  have hX : Below w.heap.size w (w.alloc (.cells (seenArr ⟨#[]⟩ zeroVn) 147)) := by go_grown
  have i4 := Blk.new w 147 (seenArr ⟨#[]⟩ zeroVn)
  have hN := newest_any base g b1 b2 l m key ⟨0, 0, 0⟩ _ (h.below hX) hk
  go_enter Tryz.func112, Tryz.ntmps112
  go_wp2_with (go_at_call 129; fail)
  refine hN.mono ?_
  rintro e w1 ⟨rfl, hb⟩
  have j4 := i4.below hb i4.lt
  go_wp2_with (refine wpList_store_row rfl 147 _ _ rfl _ _ rfl rfl _ _ j4 (by kernel_rfl) (by kernel_rfl) (by kernel_rfl) ?_)
  refine post_cell rfl (by rfl) (j4.setRow _) rfl rfl (by kernel_rfl) ?_
  exact ⟨rfl, below_setRow (hX.trans (hb.mono hX.size)) (by omega) _⟩

/-- is a version there that does not stand below? -/
def oldB (l : List Hs) (p : Pn) : Bool := p.w.any fun a => decide (0 ≤ (lastV (versOf l a.key)).s.cmp p.s)
set_option maxRecDepth 100000 in
set_option maxHeartbeats 4000000 in
theorem old_any (base g b1 b2 : Nat) (l : List Hs) (m : List Pn) (p : Pn) (A1 A2 : Option Addr) (n1 n2 c1 c2 : Nat) (w : World) (h : StoreW w base g b1 b2 l m) (hw : Sl WtRel 4 w w.heap.size A2 n2 p.w) (hn2 : n2 ≤ 1000000) :
    Calls Tryz.prog 81 #[.pointer (some ⟨g, 0, none⟩), p.val (.slice A1 n1 c1) (.slice A2 n2 c2)] w fun e w' => e = .returned (.bool (oldB l p)) ∧ Below w.heap.size w w' := by
  have hl := hw.1
  have hge : n2 ≤ p.w.length := by omega
  have hle : p.w.length ≤ n2 := by omega
  clear hl
  have hX : Below w.heap.size w (w.alloc (.cells #[.int .i64 p.t.c, .int .i64 p.t.l, .int .i64 p.t.s, .int .i64 p.s.w, .int .i64 p.s.l, .int .i64 p.s.n, .slice A1 n1 c1, .slice A2 n2 c2] 45)) := by go_grown
  have i3 := Blk.new w 45 #[.int .i64 p.t.c, .int .i64 p.t.l, .int .i64 p.t.s, .int .i64 p.s.w, .int .i64 p.s.l, .int .i64 p.s.n, .slice A1 n1 c1, .slice A2 n2 c2]
  have hs := h.below hX
  have hw' := (hw.below WtRel.kept hX).more WtRel.kept hX.size
  go_enter Tryz.func81, Tryz.ntmps81
  go_wp2
  generalize (w.alloc (.cells #[.int .i64 p.t.c, .int .i64 p.t.l, .int .i64 p.t.s, .int .i64 p.s.w, .int .i64 p.s.l, .int .i64 p.s.n, .slice A1 n1 c1, .slice A2 n2 c2] 45)) = w0 at *
  go_loopw [10] (fun i wr => AnyRel (fun a : Wt => decide (0 ≤ (lastV (versOf l a.key)).s.cmp p.s)) p.w w0 i wr) (fun i _ => n2 - (intOf i).toNat)
  case atStart => exact ⟨0, by omega, rfl, rfl, Below.refl _ _⟩
  case round =>
    obtain ⟨k, hk, rfl, ha0, hb⟩ := hrel
    have hzz := hb.size
    by_cases hlt : k < n2
    · obtain ⟨ad, a, rfl, ha, hbk, hok, c0, c1', c2', c3⟩ := (hw'.below WtRel.kept hb).wt hlt
      have hd1 : decide ((k : Int) < (n2 : Int)) = true := by simp; omega
      have hk0 : (0 : Int) ≤ (k : Int) := by omega
      have hk1 : (k : Int) < (n2 : Int) := by omega
      rw [any_drop ha] at ha0
      have hXr : Below wr.heap.size wr (wr.alloc (.cells #[.string a.key, .int .i64 a.v.k, .float .f64 a.v.n, .string a.v.t] 86)) := by go_grown
      have i6 := Blk.new wr 86 #[.string a.key, .int .i64 a.v.k, .float .f64 a.v.n, .string a.v.t]
      have hsr := (hs.below hb).below hXr
      have i3r := (i3.below hb i3.lt).alloc (.cells #[.string a.key, .int .i64 a.v.k, .float .f64 a.v.n, .string a.v.t] 86)
      have hbX := hb.trans (hXr.mono hzz)
      go_wp2
      generalize hg6 : wr.heap.size = g6 at *
      generalize (wr.alloc (.cells #[.string a.key, .int .i64 a.v.k, .float .f64 a.v.n, .string a.v.t] 86)) = wz at *
      have hN := newestOf_any base g b1 b2 l m a.key wz.drew (hsr.below (Below.refl _ _).drew) (reach_max hok.1)
      have hC := fun W => cmp_any (lastV (versOf l a.key)).s p.s W
      generalize hlv : lastV (versOf l a.key) = lv at *
      generalize hcv : lv.s.cmp p.s = cv at *
      have hF : ∀ W : World, (Instr.field 147 (.agg #[.string a.key, .int .i64 lv.v.k, .float .f64 lv.v.n, .string lv.v.t, .int .i64 lv.s.w, .int .i64 lv.s.l, .int .i64 lv.s.n]) 2).run Tryz.prog W = .ok (.agg #[.int .i64 lv.s.w, .int .i64 lv.s.l, .int .i64 lv.s.n]) W := fun _ => by kernel_rfl
      have l6 := i6.lt
      have l3 := i3r.lt
      obtain ⟨_, e0, e1, e2, e3⟩ := i6.four
      obtain ⟨_, x0, x1, x2, x3, x4, x5, x6, x7⟩ := i3r.eight
      go_region_held3 (fun w' => w'.cell? ⟨g6, 0, none⟩ = some (.string a.key) ∧ w'.cell? ⟨w.heap.size, 3, none⟩ = some (.int .i64 p.s.w) ∧ w'.cell? ⟨w.heap.size, 4, none⟩ = some (.int .i64 p.s.l) ∧ w'.cell? ⟨w.heap.size, 5, none⟩ = some (.int .i64 p.s.n))
        (first | exact ⟨e0, x3, x4, x5⟩ | exact ⟨(hb1.cell (p := ⟨_, _, none⟩) l6).trans e0, (hb1.cell (p := ⟨_, _, none⟩) l3).trans x3, (hb1.cell (p := ⟨_, _, none⟩) l3).trans x4, (hb1.cell (p := ⟨_, _, none⟩) l3).trans x5⟩ | exact ⟨(hb2.cell (p := ⟨_, _, none⟩) (Nat.lt_of_lt_of_le l6 hb1.size)).trans ((hb1.cell (p := ⟨_, _, none⟩) l6).trans e0), (hb2.cell (p := ⟨_, _, none⟩) (Nat.lt_of_lt_of_le l3 hb1.size)).trans ((hb1.cell (p := ⟨_, _, none⟩) l3).trans x3), (hb2.cell (p := ⟨_, _, none⟩) (Nat.lt_of_lt_of_le l3 hb1.size)).trans ((hb1.cell (p := ⟨_, _, none⟩) l3).trans x4), (hb2.cell (p := ⟨_, _, none⟩) (Nat.lt_of_lt_of_le l3 hb1.size)).trans ((hb1.cell (p := ⟨_, _, none⟩) l3).trans x5)⟩)
        (first | ((with_reducible refine hN.mono ?_); rintro e w1 ⟨rfl, hb1⟩; dsimp only [seenArr]) | ((with_reducible refine (hC _).mono ?_); rintro e w2 ⟨rfl, hb2⟩))
      have hb3 : Below w0.heap.size w0 w2 := hbX.trans (Below.mono ((Below.refl _ _).drew.trans (hb1.trans (hb2.mono hb1.size))) hbX.size)
      clear hb1 hb2 hN hC hF e0 e1 e2 e3 x0 x1 x2 x3 x4 x5 x6 x7
      by_cases hcc : 0 ≤ cv
      · have HF := Lib.hid (show oldB l p = true by unfold oldB; rw [← ha0]; simp [hcc])
        clear ha0 ha
        go_wp2
        go_ret
        rw [HF.out]
        exact ⟨rfl, hX.trans (hb3.mono hX.size)⟩
      · have HT := Lib.hid (show (p.w.drop (k + 1)).any (fun a : Wt => decide (0 ≤ (lastV (versOf l a.key)).s.cmp p.s)) = p.w.any (fun a : Wt => decide (0 ≤ (lastV (versOf l a.key)).s.cmp p.s)) by rw [← ha0]; simp [hcc])
        clear ha0 ha
        go_wp2
        go_roundw
        case rel => exact ⟨k + 1, by omega, by go_num, HT.out, hb3⟩
        case measure => simp [intOf]; omega
    · have hd1 : decide ((k : Int) < (n2 : Int)) = false := by simp; omega
      have HF := Lib.hid (show oldB l p = false by unfold oldB; rw [← ha0, List.drop_of_length_le (by omega)]; rfl)
      clear ha0
      go_wp2
      go_ret
      rw [HF.out]
      exact ⟨rfl, hX.trans (hb.mono hX.size)⟩
end Go.Proofs.YtipacjbegfingaaGreat
/- The walk of mvcc's locked. -/
namespace Go.Proofs.YtipacjbegfingaaGreat
open Go.RowKit Fl
attribute [local go_sem] run_store_float

/-- does p bar x? -/
def clashB (p x : Pn) : Bool := x.w.any (fun a => wrL a.key p.w || inL a.key p.r) || x.r.any (fun k => wrL k p.w)
def lockedB (m : List Pn) (x : Pn) : Bool := m.any fun p => clashB p x
abbrev Pn.arr (p : Pn) (r q : Value) : Array Value := #[.int .i64 p.t.c, .int .i64 p.t.l, .int .i64 p.t.s, .int .i64 p.s.w, .int .i64 p.s.l, .int .i64 p.s.n, r, q]
def LockRel (b2 : Nat) (D : DataW Value) (m : List Pn) (x : Pn) (xs : Array Value) (w wr : World) : Prop :=
  ∃ (left : Lit → Bool) (cnt : Nat), wr.ranges Tryz.prog 41 anyE b2 (w.heap.size + 1) m.length D left cnt ∧ (∀ p ∈ m, left (txl p.t) = false → clashB p x = false) ∧ Below w.heap.size w wr ∧ Blk wr w.heap.size 45 xs

set_option maxRecDepth 100000 in
set_option maxHeartbeats 4000000 in
theorem locked_any (base g b1 b2 : Nat) (l : List Hs) (m : List Pn) (x : Pn) (A1 A2 : Option Addr) (n1 n2 c1 c2 : Nat) (w : World) (h : StoreW w base g b1 b2 l m) (hr : Sl KyRel 1 w w.heap.size A1 n1 x.r) (hw : Sl WtRel 4 w w.heap.size A2 n2 x.w) (hn1 : n1 ≤ maxLen) (hn2 : n2 ≤ maxLen) :
    Calls Tryz.prog 80 #[.pointer (some ⟨g, 0, none⟩), x.val (.slice A1 n1 c1) (.slice A2 n2 c2)] w fun e w' => e = .returned (.bool (lockedB m x)) ∧ Below w.heap.size w w' := by
  unfold maxLen at hn1 hn2
  obtain ⟨D, ho, hD⟩ := h.ps
  have hone := h.one
  obtain ⟨gl, k0, k1, k2, k3, k4⟩ := h.blk.fiveC
  have gl1 : g < w.heap.size + 1 := by omega
  have i3 := Blk.new w 45 (x.arr (.slice A1 n1 c1) (.slice A2 n2 c2))
  have hX : Below w.heap.size w (w.alloc (.cells (x.arr (.slice A1 n1 c1) (.slice A2 n2 c2)) 45)) := by go_grown
  go_enter Tryz.func80, Tryz.ntmps80
  go_wp2_with (first
    | (at_range
       refine wpList_range_own _ rfl _ 54 rfl 41 45 kTxn Tryz.underlying54 anyE b2 m.length D rfl (ho.alloc _) ?_
       intro w0 hrg0 hg0 hs0))
  go_frame
  simp only [World.size_alloc]
  have hb0 : Below w.heap.size w w0 := hX.grown hg0 (by simp) (by simp)
  have i30 := i3.grown hg0 (by simp)
  rw [show (w.alloc (.cells (x.arr (.slice A1 n1 c1) (.slice A2 n2 c2)) 45)).heap.size = w.heap.size + 1 from by simp] at hrg0
  clear hg0 hs0 i3 hX k0 k1 k2 k3 k4
  go_loopw [16] (fun _ wr => LockRel b2 D m x (x.arr (.slice A1 n1 c1) (.slice A2 n2 c2)) w wr) (fun _ wr => wr.rangeLeft b2 (w.heap.size + 1))
  case atStart =>
    refine ⟨_, _, hrg0, fun p hp hl => ?_, hb0, i30⟩
    obtain ⟨_, _, r, q, e, _⟩ := hD.2 p hp
    rw [Maps.has_true_of_atKey e] at hl
    cases hl
  case round =>
    obtain ⟨left, cnt, hrg, hdone, hb, i3⟩ := hrel
    have hzz := hb.size
    go_wp2_with (first
      | (at_next
         refine wpList_next_ranges (α := Value) (β := Value) _ rfl _ rfl 41 kTxn anyE id id (fun key kl _ => ⟨key, rfl⟩) (fun v y _ => ⟨v, rfl⟩) b2 (w.heap.size + 1) m.length D left cnt rfl hrg ?_ ?_))
    · intro _ hl0
      have HF := Lib.hid (show lockedB m x = false by
        unfold lockedB
        rw [List.any_eq_false]
        intro p hp
        rw [hdone p hp (hl0 _)]
        simp)
      go_wp2
      go_ret
      rw [HF.out]
      exact ⟨rfl, hb⟩
    · intro xk c kl y ps w1 cnt1 hkey hlk hR hps0 hat hrg1 hlt1 hg1 hs1 hen
      subst hR hps0
      obtain ⟨p, hp, rfl⟩ := hD.1 kl (Maps.has_true_of_atKey hat)
      obtain ⟨hpt, hps, r, q, e, hdr, hdq⟩ := hD.2 p hp
      have ec : c = p.val r q := by
        have h1 := hat .nil
        rw [e .nil] at h1
        injection h1 with h1
        exact h1.symm
      subst ec
      obtain ⟨A3, n3, c3, rfl, hn3, hc3, hs3⟩ := hdr
      obtain ⟨A4, n4, c4, rfl, hn4, hc4, hs4⟩ := hdq
      have hb1 : Below w.heap.size w w1 := hb.grown hg1 hzz (by intro k hk; injection hk with hk; omega)
      have i31 := i3.grown hg1 (by intro e; injection e with e; omega)
      have hdone1 : ∀ p' ∈ m, (left (txl p'.t) && !(txl p'.t).sameKey (txl p.t)) = false → clashB p x = false → clashB p' x = false := fun p' hp' hl hc => by
        cases hlp : left (txl p'.t)
        · exact hdone p' hp' hlp
        · rw [hlp] at hl
          have h2 : (txl p'.t).sameKey (txl p.t) = true := by simpa using hl
          have h3 := txl_inj (hD.2 p' hp').1 hpt (WideAt.sameKey_eq h2)
          rw [hone p' hp' p hp h3]
          exact hc
      have hmz := hrg.left_eq
      have hmz1 := hrg1.left_eq
      clear hat e hkey hrg hdone hs1
      have i6 := Blk.new w1 45 (p.arr (.slice A3 n3 c3) (.slice A4 n4 c4))
      have i32 := i31.alloc (.cells (p.arr (.slice A3 n3 c3) (.slice A4 n4 c4)) 45)
      have hb2 : Below w.heap.size w (w1.alloc (.cells (p.arr (.slice A3 n3 c3) (.slice A4 n4 c4)) 45)) := hb1.alloc hb1.size _
      have hrg2 := hrg1.alloc (.cells (p.arr (.slice A3 n3 c3) (.slice A4 n4 c4)) 45)
      obtain ⟨_, x30, x31, x32, x33, x34, x35, x36, x37⟩ := i31.eight
      have l31 := i31.lt
      have l32 : w.heap.size < w1.heap.size + 1 := by omega
      go_wp2
      generalize hg6 : w1.heap.size = g6 at *
      generalize (w1.alloc (.cells (p.arr (.slice A3 n3 c3) (.slice A4 n4 c4)) 45)) = w2 at *
      have hll := hw.1
      have hlr := hr.1
      have hge : n2 ≤ x.w.length := by omega
      have hge1 : n1 ≤ x.r.length := by omega
      have hle : x.w.length ≤ n2 := by omega
      have hle1 : x.r.length ≤ n1 := by omega
      have hl3 := hs3.1
      have hl4 := hs4.1
      clear x30 x31 x32 x33 x34 x35 x36 x37 l31 l32 hll hlr hen hg1 hrg1 i31
      go_loopw [23] (fun i wz => AnyRel (fun a : Wt => wrL a.key p.w || inL a.key p.r) x.w w2 i wz) (fun i _ => n2 - (intOf i).toNat)
      case atStart => exact ⟨0, by omega, rfl, rfl, Below.refl _ _⟩
      case round =>
        obtain ⟨k, hk, rfl, ha0, hbz⟩ := hrel
        have hz := hb2.size
        have hbwz : Below w.heap.size w wr := hb2.trans (hbz.mono hz)
        have hzz2 := hbz.size
        by_cases hlt : k < n2
        · obtain ⟨ad, a, rfl, ha, hbk, hok, c0, c1', c2', c3'⟩ := ((hw.below WtRel.kept hbwz).more WtRel.kept hbwz.size).wt hlt
          have hd1 : decide ((k : Int) < (n2 : Int)) = true := by simp; omega
          have hk0 : (0 : Int) ≤ (k : Int) := by omega
          have hk1 : (k : Int) < (n2 : Int) := by omega
          rw [any_drop ha] at ha0
          have hXz : Below wr.heap.size wr (wr.alloc (.cells #[.string a.key, .int .i64 a.v.k, .float .f64 a.v.n, .string a.v.t] 86)) := by go_grown
          have hXw : Below w.heap.size w (wr.alloc (.cells #[.string a.key, .int .i64 a.v.k, .float .f64 a.v.n, .string a.v.t] 86)) := hbwz.trans (hXz.mono hbwz.size)
          have i8 := Blk.new wr 86 #[.string a.key, .int .i64 a.v.k, .float .f64 a.v.n, .string a.v.t]
          have i6z := i6.below hbz i6.lt
          have i6X := i6z.alloc (.cells #[.string a.key, .int .i64 a.v.k, .float .f64 a.v.n, .string a.v.t] 86)
          obtain ⟨l6, y0, y1, y2, y3, y4, y5, y6, y7⟩ := i6z.eight
          have l66 : g6 < wr.heap.size + 1 := by omega
          have hW := writes_any p (.slice A3 n3 c3) a.key A4 n4 c4 _ rfl ((hs4.below WtRel.kept hXw).more WtRel.kept hXw.size) (by unfold maxLen; unfold maxLen at hc4; omega)
          cases hwl : wrL a.key p.w
          · rw [hwl] at hW
            cases hil : inL a.key p.r
            · have HT := Lib.hid (show (x.w.drop (k + 1)).any (fun a : Wt => wrL a.key p.w || inL a.key p.r) = x.w.any (fun a : Wt => wrL a.key p.w || inL a.key p.r) by rw [← ha0, hwl, hil]; rfl)
              clear ha0 ha
              go_wp2_with (first
                | ((with_reducible refine hW.mono ?_); rintro e w5 ⟨rfl, hb5⟩
                   have hXw5 : Below w.heap.size w w5 := hXw.trans (hb5.mono hXw.size)
                   obtain ⟨l65, v0, v1, v2, v3, v4, v5, v6, v7⟩ := (i6X.below hb5 i6X.lt).eight
                   obtain ⟨l85, u0, u1, u2, u3, -⟩ := (i8.below hb5 i8.lt).four
                   have hC := contains_any A3 n3 c3 p.r a.key w5 ((hs3.below KyRel.kept hXw5).more KyRel.kept hXw5.size) (by omega)
                   rw [hil] at hC)
                | ((with_reducible refine hC.mono ?_); rintro e w6 ⟨rfl, hb6⟩))
              go_roundw
              case rel => exact ⟨k + 1, by omega, by go_num, HT.out, hbz.trans (Below.mono (hXz.trans ((hb5.mono hXz.size).trans (hb6.mono (Nat.le_trans hXz.size hb5.size)))) hzz2)⟩
              case measure => simp [intOf]; omega
            · have HF := Lib.hid (show lockedB m x = true by
                unfold lockedB
                rw [List.any_eq_true]
                exact ⟨p, hp, by unfold clashB; rw [← ha0, hwl, hil]; rfl⟩)
              clear ha0 ha
              go_wp2_with (first
                | ((with_reducible refine hW.mono ?_); rintro e w5 ⟨rfl, hb5⟩
                   have hXw5 : Below w.heap.size w w5 := hXw.trans (hb5.mono hXw.size)
                   obtain ⟨l65, v0, v1, v2, v3, v4, v5, v6, v7⟩ := (i6X.below hb5 i6X.lt).eight
                   obtain ⟨l85, u0, u1, u2, u3, -⟩ := (i8.below hb5 i8.lt).four
                   have hC := contains_any A3 n3 c3 p.r a.key w5 ((hs3.below KyRel.kept hXw5).more KyRel.kept hXw5.size) (by omega)
                   rw [hil] at hC)
                | ((with_reducible refine hC.mono ?_); rintro e w6 ⟨rfl, hb6⟩))
              go_ret
              rw [HF.out]
              exact ⟨rfl, hXw5.trans (hb6.mono hXw5.size)⟩
          · rw [hwl] at hW
            have HF := Lib.hid (show lockedB m x = true by
              unfold lockedB
              rw [List.any_eq_true]
              exact ⟨p, hp, by unfold clashB; rw [← ha0, hwl]; rfl⟩)
            clear ha0 ha
            go_wp2_with ((with_reducible refine hW.mono ?_); rintro e w5 ⟨rfl, hb5⟩)
            go_ret
            rw [HF.out]
            exact ⟨rfl, hXw.trans (hb5.mono hXw.size)⟩
        · have hd1 : decide ((k : Int) < (n2 : Int)) = false := by simp; omega
          have hno : x.w.any (fun a : Wt => wrL a.key p.w || inL a.key p.r) = false := by rw [← ha0, List.drop_of_length_le (by omega)]; rfl
          clear ha0
          have i6z := i6.below hbz i6.lt
          have i3z := i32.below hbz i32.lt
          obtain ⟨l6, y0, y1, y2, y3, y4, y5, y6, y7⟩ := i6z.eight
          obtain ⟨l3, x30, x31, x32, x33, x34, x35, x36, x37⟩ := i3z.eight
          go_wp2
          have hrg3 := hrg2.kept (grownBy_below hbz none) (by simp) (by simp)
          obtain ⟨w3, rfl⟩ : ∃ w3, w3 = wr := ⟨_, rfl⟩
          clear y0 y1 y2 y3 y4 y5 y6 y7 x30 x31 x32 x33 x34 x35 x36 x37 hbz hrg2 i6 i32
          go_loopw [42] (fun i wq => AnyRel (fun k : ByteArray => wrL k p.w) x.r w3 i wq) (fun i _ => n1 - (intOf i).toNat)
          case atStart => exact ⟨0, by omega, rfl, rfl, Below.refl _ _⟩
          case round =>
            obtain ⟨k2, hk2, rfl, ha0, hbz⟩ := hrel
            have hz3 := hbwz.size
            have hbwy : Below w.heap.size w wr := hbwz.trans (hbz.mono hz3)
            have hzz3 := hbz.size
            have i6y := i6z.below hbz i6z.lt
            obtain ⟨l6y, y0, y1, y2, y3, y4, y5, y6, y7⟩ := i6y.eight
            by_cases hlt : k2 < n1
            · obtain ⟨ad, a, rfl, ha, hbk, hok, c0⟩ := ((hr.below KyRel.kept hbwy).more KyRel.kept hbwy.size).ky hlt
              have hd1 : decide ((k2 : Int) < (n1 : Int)) = true := by simp; omega
              have hk0 : (0 : Int) ≤ (k2 : Int) := by omega
              have hk1 : (k2 : Int) < (n1 : Int) := by omega
              rw [any_drop ha] at ha0
              have hW := writes_any p (.slice A3 n3 c3) a A4 n4 c4 wr rfl ((hs4.below WtRel.kept hbwy).more WtRel.kept hbwy.size) (by unfold maxLen; unfold maxLen at hc4; omega)
              cases hwl : wrL a p.w
              · rw [hwl] at hW ha0
                have HT := Lib.hid ha0
                clear ha0 ha
                go_wp2_with ((with_reducible refine hW.mono ?_); rintro e w5 ⟨rfl, hb5⟩)
                go_roundw
                case rel => exact ⟨k2 + 1, by omega, by go_num, HT.out, hbz.trans (hb5.mono hzz3)⟩
                case measure => simp [intOf]; omega
              · have HF := Lib.hid (show lockedB m x = true by
                  unfold lockedB
                  rw [List.any_eq_true]
                  exact ⟨p, hp, by unfold clashB; rw [← ha0, hwl]; simp⟩)
                rw [hwl] at hW
                clear ha0 ha
                go_wp2_with ((with_reducible refine hW.mono ?_); rintro e w5 ⟨rfl, hb5⟩)
                go_ret
                rw [HF.out]
                exact ⟨rfl, hbwy.trans (hb5.mono hbwy.size)⟩
            · have hd1 : decide ((k2 : Int) < (n1 : Int)) = false := by simp; omega
              have hno2 : x.r.any (fun k : ByteArray => wrL k p.w) = false := by rw [← ha0, List.drop_of_length_le (by omega)]; rfl
              clear ha0
              have hcl : clashB p x = false := by unfold clashB; rw [hno, hno2]; rfl
              have hrg4 := hrg3.kept (grownBy_below hbz none) (by simp) (by simp)
              have i3y := i3z.below hbz i3z.lt
              have hmy := hrg4.left_eq
              clear hno hno2 y0 y1 y2 y3 y4 y5 y6 y7
              go_wp2
              go_roundw
              case rel => exact ⟨_, _, hrg4, fun p' hp' hl => hdone1 p' hp' hl hcl, hbwy, i3y⟩
              case measure => rw [hmy, hmz]; omega
end Go.Proofs.YtipacjbegfingaaGreat
/- Rows of structs that hold slices: what an element's slices read lies in blocks that the rows' own growth does not turn. Plain lemmas over any program. -/
namespace Go.Proofs.YtipacjbegfingaaGreat
set_option linter.unusedVariables false
open Go.RowKit

/-- the world with all blocks outside K struck out -/
def only (K : Nat → Bool) (w : World) : World := { w with heap := w.heap.mapIdx fun k o => if K k then o else .cells #[] 0 (0, 0) }
section
variable {K K' : Nat → Bool} {w w' : World} {p : Addr} {u : Value} {k : Nat}
theorem only_size : (only K w).heap.size = w.heap.size := by simp [only]
theorem only_in (h : K k = true) : (only K w).heap[k]? = w.heap[k]? := by
  unfold only
  simp only [Array.getElem?_mapIdx, h]
  cases w.heap[k]? <;> rfl
theorem only_cell_in (h : K p.block = true) : (only K w).cell? p = w.cell? p := World.cell?_of_block (only_in h)
theorem only_cell_out (h : K p.block = false) : (only K w).cell? p = none := by
  unfold only World.cell?
  simp only [Array.getElem?_mapIdx, h]
  cases w.heap[p.block]? <;> simp
theorem only_cell (h : (only K w).cell? p = some u) : K p.block = true ∧ w.cell? p = some u := by
  cases hk : K p.block
  · rw [only_cell_out hk] at h; cases h
  · rw [only_cell_in hk] at h; exact ⟨rfl, h⟩
theorem only_same (h : ∀ k, K k = true → w'.heap[k]? = w.heap[k]?) (p : Addr) : (only K w').cell? p = (only K w).cell? p := by
  cases hk : K p.block
  · rw [only_cell_out hk, only_cell_out hk]
  · rw [only_cell_in hk, only_cell_in hk]; exact World.cell?_of_block (h _ hk)
theorem owns_only {base e size n : Nat} {v : Value} {xs : List Value} (h : w.ownsRow base e size v n xs) (hK : ∀ k, v.ownBlock = some k → K k = true) : (only K w).ownsRow base e size v n xs := by
  refine ⟨h.1, ?_⟩
  rcases h.2 with hn | ⟨g, cap, cur, rfl, hb, hgg, rest⟩
  · exact .inl hn
  · exact .inr ⟨g, cap, cur, rfl, hb, by rw [only_in (hK g rfl)]; exact hgg, rest⟩
theorem owns_same {base e size n : Nat} {v : Value} {xs : List Value} (h : w.ownsRow base e size v n xs) (hb : ∀ k, base ≤ k → k < w.heap.size → w'.heap[k]? = w.heap[k]?) : w'.ownsRow base e size v n xs := by
  refine ⟨h.1, ?_⟩
  rcases h.2 with hn | ⟨g, cap, cur, rfl, hg, hgg, rest⟩
  · exact .inl hn
  · exact .inr ⟨g, cap, cur, rfl, hg, by rw [hb g hg (Array.getElem?_eq_some_iff.1 hgg).1]; exact hgg, rest⟩
end

/-- a relation that only asks for cells that are there -/
def Rel.Mono {α : Type} (R : Rel α) : Prop := ∀ w w' B cs a, R w B cs a → (∀ p u, p.block < B → w.cell? p = some u → w'.cell? p = some u) → R w' B cs a
section
variable {α : Type} {R : Rel α} {size n : Nat} {w w' : World} {B : Nat} {v : Value} {A : Option Addr} {l : List α}
theorem Sl.mono (hR : R.Mono) (h : Sl R size w B A n l) (hk : ∀ p u, p.block < B → w.cell? p = some u → w'.cell? p = some u) : Sl R size w' B A n l :=
  ⟨h.1, fun i a hi => by
    obtain ⟨ad, cs, e, hb, hl, hc, hr⟩ := h.2 i a hi
    exact ⟨ad, cs, e, hb, hl, fun j u hu => hk _ _ (by rw [block_of_add]; exact hb) (hc j u hu), hR _ _ _ _ _ hr hk⟩⟩
theorem HdRel.mono (hR : R.Mono) (h : HdRel R size w B v l) (hk : ∀ p u, p.block < B → w.cell? p = some u → w'.cell? p = some u) : HdRel R size w' B v l := by
  obtain ⟨A, n, c, e, h1, h2, h3⟩ := h
  exact ⟨A, n, c, e, h1, h2, h3.mono hR hk⟩
end
theorem Flat.mono {α : Type} (cells : α → List Value) (ok : α → Prop) : (Flat cells ok).Mono := fun _ _ _ _ _ h _ => h
theorem KyRel.mono : (KyRel).Mono := Flat.mono _ _
theorem WtRel.mono : (WtRel).Mono := Flat.mono _ _
theorem VnRel.mono : (VnRel).Mono := Flat.mono _ _
theorem HsRel.mono : (HsRel).Mono := fun _ _ _ _ _ ⟨v, e, hk, h⟩ hw => ⟨v, e, hk, h.mono VnRel.mono hw⟩
theorem PnRel.mono : (PnRel).Mono := fun _ _ _ _ _ ⟨r, q, e, h1, h2, h3, h4⟩ hw => ⟨r, q, e, h1, h2, h3.mono KyRel.mono hw, h4.mono WtRel.mono hw⟩

/-- an element that reads in the blocks of K alone -/
def Inn {α : Type} (R : Rel α) (K : Nat → Bool) (w : World) (cs : List Value) (a : α) : Prop := R (only K w) w.heap.size cs a
section
variable {α : Type} {R : Rel α} {K K' : Nat → Bool} {w w' : World} {cs : List Value} {a : α}
theorem Inn.keep (hR : R.Kept) (h : Inn R K w cs a) (hb : ∀ k, K k = true → w'.heap[k]? = w.heap[k]?) (hs : w.heap.size ≤ w'.heap.size) : Inn R K w' cs a :=
  hR.2 _ _ _ _ _ (hR.1 _ _ _ _ _ h fun p _ => only_same hb p) hs
theorem Inn.wider (hR : R.Mono) (h : Inn R K w cs a) (hK : ∀ k, K k = true → K' k = true) : Inn R K' w cs a :=
  hR _ _ _ _ _ h fun p u _ hc => by
    obtain ⟨hk, hw⟩ := only_cell hc
    rw [only_cell_in (hK _ hk)]; exact hw
theorem Inn.out (hR : R.Mono) (h : Inn R K w cs a) : R w w.heap.size cs a := hR _ _ _ _ _ h fun p u _ hc => (only_cell hc).2
end

theorem flatten_get (k : Nat) : ∀ (css : List (List Value)) (i r : Nat), (∀ cs ∈ css, cs.length = k) → r < k → css.flatten[i * k + r]? = (css[i]?).bind fun cs => cs[r]? := by
  intro css
  induction css with
  | nil => intro i r _ _; simp
  | cons cs css ih =>
    intro i r hl hr
    have h0 := hl cs (List.mem_cons_self ..)
    rw [List.flatten_cons]
    cases i with
    | zero => rw [Nat.zero_mul, Nat.zero_add, List.getElem?_append_left (by omega)]; rfl
    | succ i =>
      have e : (i + 1) * k + r = k + (i * k + r) := by rw [Nat.succ_mul]; omega
      rw [e, List.getElem?_append_right (by omega), h0, Nat.add_sub_cancel_left, ih i r (fun c hc => hl c (List.mem_cons_of_mem _ hc)) hr]
      rfl

/-- a row of structs of the call's own, from block base on; what its elements' slices read lies in the blocks of K -/
def RowR {α : Type} (R : Rel α) (E size base : Nat) (K : Nat → Bool) (w : World) (v : Value) (l : List α) : Prop :=
  ∃ css : List (List Value), w.ownsRow base E size v l.length css.flatten ∧ css.length = l.length ∧ (∀ cs ∈ css, cs.length = size) ∧ ∀ (i : Nat) (cs : List Value) (a : α), css[i]? = some cs → l[i]? = some a → Inn R K w cs a
section
variable {α : Type} {R : Rel α} {E size base : Nat} {K K' : Nat → Bool} {w w' : World} {v : Value} {l : List α}
theorem RowR.nil (w : World) : RowR R E size base K w (.slice none 0 0) [] := ⟨[], World.ownsRow_nil _ _ _ _, rfl, fun cs h => by simp at h, fun i cs a h => by simp at h⟩
theorem RowR.form (h : RowR R E size base K w v l) : ∃ A c, v = .slice A l.length c ∧ l.length ≤ c ∧ c ≤ maxLen := by
  obtain ⟨css, ho, _⟩ := h
  exact own_form ho
theorem RowR.lt (h : RowR R E size base K w v l) : ∀ k, v.ownBlock = some k → base ≤ k ∧ k < w.heap.size := by
  obtain ⟨css, ho, _⟩ := h
  exact ho.lt
/-- the row, read where only the blocks of K' are left -/
theorem RowR.held (hR : R.Mono) (hsz : 0 < size) (h : RowR R E size base K w v l) (hK : ∀ k, K k = true → K' k = true) (hv : ∀ k, v.ownBlock = some k → K' k = true) : HdRel R size (only K' w) w.heap.size v l := by
  obtain ⟨css, ho, hlen, hl, hc⟩ := h
  obtain ⟨A, c, rfl, h1, h2⟩ := own_form ho
  refine ⟨A, _, c, rfl, h1, h2, rfl, fun i a hi => ?_⟩
  have hlt := (List.getElem?_eq_some_iff.1 hi).1
  have hr := Reads.of_own (owns_only ho hv)
  obtain ⟨ad, e, hb, hcell⟩ := hr.2 (by omega)
  have hcs : css[i]? = some css[i] := List.getElem?_eq_getElem (by omega)
  have hm : css[i] ∈ css := List.getElem_mem _
  refine ⟨ad, css[i], e, by rw [only_size] at hb; exact hb, hl _ hm, fun j u hj => hcell _ u ?_, (hc i _ a hcs hi).wider hR hK⟩
  have hj' := (List.getElem?_eq_some_iff.1 hj).1
  rw [flatten_get size css i j hl (by rw [← hl _ hm]; exact hj'), hcs]
  exact hj
theorem RowR.sl (hR : R.Mono) (hsz : 0 < size) (h : RowR R E size base K w v l) : HdRel R size w w.heap.size v l :=
  (h.held (K' := fun _ => true) hR hsz (fun _ _ => rfl) fun _ _ => rfl).mono hR fun p u _ hc => (only_cell hc).2
theorem RowR.same (hR : R.Kept) (hRm : R.Mono) (h : RowR R E size base K w v l) (hs : w.heap.size ≤ w'.heap.size) (hb : ∀ k, base ≤ k → k < w.heap.size → w'.heap[k]? = w.heap[k]?) (hK : ∀ k, K k = true → base ≤ k ∧ k < w.heap.size ∧ K' k = true) : RowR R E size base K' w' v l := by
  obtain ⟨css, ho, hlen, hl, hc⟩ := h
  exact ⟨css, owns_same ho hb, hlen, hl, fun i cs a h1 h2 => ((hc i cs a h1 h2).keep hR (fun k hk => hb k (hK k hk).1 (hK k hk).2.1) hs).wider hRm fun k hk => (hK k hk).2.2⟩
end

/-- the blocks from base on that are neither row's -/
def freeB (base size : Nat) (v1 v2 : Value) : Nat → Bool := fun k => decide (base ≤ k) && decide (k < size) && decide (v1.ownBlock ≠ some k) && decide (v2.ownBlock ≠ some k)
theorem freeB_iff {base size k : Nat} {v1 v2 : Value} : freeB base size v1 v2 k = true ↔ base ≤ k ∧ k < size ∧ v1.ownBlock ≠ some k ∧ v2.ownBlock ≠ some k := by
  unfold freeB
  simp only [Bool.and_eq_true, decide_eq_true_eq, and_assoc]
/-- two rows that grow side by side -/
def Pair {α : Type} (R : Rel α) (E size base : Nat) (w : World) (v1 v2 : Value) (l1 l2 : List α) : Prop :=
  RowR R E size base (freeB base w.heap.size v1 v2) w v1 l1 ∧ RowR R E size base (freeB base w.heap.size v1 v2) w v2 l2 ∧ Dis v1 v2
section
variable {α : Type} {R : Rel α} {E size base : Nat} {w w' : World} {v1 v2 : Value} {l1 l2 : List α}
theorem freeB_symm (base size : Nat) (v1 v2 : Value) : freeB base size v1 v2 = freeB base size v2 v1 := by
  funext k
  rw [Bool.eq_iff_iff, freeB_iff, freeB_iff]
  exact ⟨fun ⟨a, b, c, d⟩ => ⟨a, b, d, c⟩, fun ⟨a, b, c, d⟩ => ⟨a, b, d, c⟩⟩
theorem Pair.nil (w : World) : Pair R E size base w (.slice none 0 0) (.slice none 0 0) [] [] := ⟨RowR.nil _, RowR.nil _, Dis.nil _⟩
theorem Pair.symm (h : Pair R E size base w v1 v2 l1 l2) : Pair R E size base w v2 v1 l2 l1 := by
  obtain ⟨h1, h2, h3⟩ := h
  rw [freeB_symm] at h1 h2
  exact ⟨h2, h1, h3.symm⟩
theorem Pair.same (hR : R.Kept) (hRm : R.Mono) (h : Pair R E size base w v1 v2 l1 l2) (hs : w.heap.size ≤ w'.heap.size) (hb : ∀ k, base ≤ k → k < w.heap.size → w'.heap[k]? = w.heap[k]?) : Pair R E size base w' v1 v2 l1 l2 := by
  obtain ⟨h1, h2, h3⟩ := h
  have hK : ∀ k, freeB base w.heap.size v1 v2 k = true → base ≤ k ∧ k < w.heap.size ∧ freeB base w'.heap.size v1 v2 k = true := fun k hk => by
    rw [freeB_iff] at *
    exact ⟨hk.1, hk.2.1, hk.1, by omega, hk.2.2⟩
  exact ⟨h1.same hR hRm hs hb hK, h2.same hR hRm hs hb hK, h3⟩
theorem Pair.below (hR : R.Kept) (hRm : R.Mono) (h : Pair R E size base w v1 v2 l1 l2) (hb : Below w.heap.size w w') : Pair R E size base w' v1 v2 l1 l2 := h.same hR hRm hb.size fun k _ hk => hb.block k hk
theorem Pair.far (hR : R.Kept) (hRm : R.Mono) (h : Pair R E size base w v1 v2 l1 l2) {p : Addr} (hp : p.block < base) (u : Value) : Pair R E size base (w.setCell p u) v1 v2 l1 l2 :=
  h.same hR hRm (by simp [World.setCell]) fun k hk _ => Below.heap_setCell _ _ _ _ (by omega)
/-- the first row's cells; what an append makes of the pair -/
theorem Pair.own1 (hR : R.Kept) (hRm : R.Mono) (h : Pair R E size base w v1 v2 l1 l2) : ∃ xs, w.ownsRow base E size v1 l1.length xs ∧
    ∀ (cs : List Value) (a : α) (w' : World) (v' : Value), cs.length = size → Inn R (freeB base w.heap.size v1 v2) w cs a → w'.ownsRow base E size v' (l1.length + 1) (xs ++ cs) → w.grownBy w' v1.ownBlock → (v'.ownBlock = v1.ownBlock ∨ v'.ownBlock = some w.heap.size) →
      Pair R E size base w' v' v2 (l1 ++ [a]) l2 := by
  obtain ⟨⟨css, ho, hlen, hl, hc⟩, ⟨ds, ho2, hlen2, hl2, hc2⟩, hd⟩ := h
  refine ⟨css.flatten, ho, fun cs a w' v' hcs hin hown hg hat => ?_⟩
  have hK : ∀ k, freeB base w.heap.size v1 v2 k = true → freeB base w'.heap.size v' v2 k = true := fun k hk => by
    rw [freeB_iff] at *
    have := hg.size
    refine ⟨hk.1, by omega, fun e => ?_, hk.2.2.2⟩
    rcases hat with e2 | e2
    · rw [e2] at e; exact hk.2.2.1 e
    · rw [e2] at e; injection e with e; omega
  have hB : ∀ k, freeB base w.heap.size v1 v2 k = true → w'.heap[k]? = w.heap[k]? := fun k hk => by
    rw [freeB_iff] at hk
    exact hg.block k hk.2.1 (fun e => hk.2.2.1 e.symm)
  have up : ∀ {cs : List Value} {a : α}, Inn R (freeB base w.heap.size v1 v2) w cs a → Inn R (freeB base w'.heap.size v' v2) w' cs a := fun hi => (hi.keep hR hB hg.size).wider hRm hK
  have hlt := ho2.lt
  refine ⟨⟨css ++ [cs], ?_, by simp [hlen], ?_, ?_⟩, ⟨ds, ?_, hlen2, hl2, fun i cs a h1 h2 => up (hc2 i cs a h1 h2)⟩, ?_⟩
  · rw [List.length_append, List.flatten_append]
    simpa using hown
  · intro c hc'
    rcases List.mem_append.1 hc' with h1 | h1
    · exact hl c h1
    · simp only [List.mem_cons, List.not_mem_nil, or_false] at h1
      rw [h1]; exact hcs
  · intro i c b h1 h2
    by_cases hi : i < l1.length
    · rw [List.getElem?_append_left (by omega)] at h1 h2
      exact up (hc i c b h1 h2)
    · have hi2 : i = l1.length := by
        have := (List.getElem?_eq_some_iff.1 h2).1
        rw [List.length_append, List.length_cons, List.length_nil] at this
        omega
      subst hi2
      rw [List.getElem?_append_right (Nat.le_refl _)] at h2
      rw [← hlen, List.getElem?_append_right (Nat.le_refl _)] at h1
      simp only [Nat.sub_self, List.getElem?_cons_zero, Option.some.injEq] at h1 h2
      subst h1 h2
      exact up hin
  · refine ho2.kept hg ?_
    cases e : v2.ownBlock with
    | none => exact .inl rfl
    | some k => exact .inr fun e2 => hd k e2.symm e
  · intro k e e2
    rcases hat with e3 | e3
    · exact hd k (e3.symm.trans e) e2
    · have := (hlt k e2).2
      rw [e3] at e; injection e; omega
theorem Pair.form1 (h : Pair R E size base w v1 v2 l1 l2) : ∃ A c, v1 = .slice A l1.length c ∧ l1.length ≤ c ∧ c ≤ maxLen := h.1.form
theorem Pair.ne1 (h : Pair R E size base w v1 v2 l1 l2) {g : Nat} (hg : g < base) : some g ≠ v1.ownBlock := fun e => by have := (h.1.lt g e.symm).1; omega
/-- from block b on all is free -/
theorem Pair.fresh (h : Pair R E size base w v1 v2 l1 l2) (hs : w.heap.size ≤ w'.heap.size) {b : Nat} (hb : w.heap.size ≤ b) (hbb : base ≤ b) : ∀ k, b ≤ k → k < w'.heap.size → freeB base w'.heap.size v1 v2 k = true := fun k hk hk2 => by
  rw [freeB_iff]
  refine ⟨by omega, hk2, fun e => ?_, fun e => ?_⟩
  · have := (h.1.lt k e).2; omega
  · have := (h.2.1.lt k e).2; omega
end
/-- a slice of the call's own, read where only the blocks of K are left -/
theorem OwnL.inn {α : Type} {f : α → List Value} {ok : α → Prop} {E size b : Nat} {K : Nat → Bool} {w : World} {v : Value} {l : List α} (hk : 0 < size) (hf : ∀ a, (f a).length = size) (h : OwnL f E size b w v l) (hok : ∀ a ∈ l, ok a) (hK : ∀ k, b ≤ k → k < w.heap.size → K k = true) :
    HdRel (Flat f ok) size (only K w) w.heap.size v l := by
  have h' : OwnL f E size b (only K w) v l := owns_only h fun k e => hK k (h.lt k e).1 (h.lt k e).2
  have := h'.sl hk hf hok
  rw [only_size] at this
  exact this
def rng (a b : Nat) : Nat → Bool := fun k => decide (a ≤ k) && decide (k < b)
theorem rng_iff {a b k : Nat} : rng a b k = true ↔ a ≤ k ∧ k < b := by unfold rng; simp only [Bool.and_eq_true, decide_eq_true_eq]
/-- both rows, held in the blocks from base up to now -/
theorem Pair.held {α : Type} {R : Rel α} {E size base : Nat} {w : World} {v1 v2 : Value} {l1 l2 : List α} (hRm : R.Mono) (hsz : 0 < size) (h : Pair R E size base w v1 v2 l1 l2) :
    HdRel R size (only (rng base w.heap.size) w) w.heap.size v1 l1 ∧ HdRel R size (only (rng base w.heap.size) w) w.heap.size v2 l2 :=
  ⟨h.1.held hRm hsz (fun k hk => by rw [freeB_iff] at hk; rw [rng_iff]; exact ⟨hk.1, hk.2.1⟩) fun k e => rng_iff.2 (h.1.lt k e),
   h.2.1.held hRm hsz (fun k hk => by rw [freeB_iff] at hk; rw [rng_iff]; exact ⟨hk.1, hk.2.1⟩) fun k e => rng_iff.2 (h.2.1.lt k e)⟩
/-- what is held in blocks that stay -/
theorem HdRel.stay {α : Type} {R : Rel α} {size N : Nat} {K : Nat → Bool} {w w' : World} {v : Value} {l : List α} (hR : R.Kept) (h : HdRel R size (only K w) N v l) (hb : ∀ k, K k = true → w'.heap[k]? = w.heap[k]?) : HdRel R size (only K w') N v l := h.keep hR fun p _ => only_same hb p
theorem HdRel.out {α : Type} {R : Rel α} {size N : Nat} {K : Nat → Bool} {w : World} {v : Value} {l : List α} (hR : R.Kept) (hRm : R.Mono) (h : HdRel R size (only K w) N v l) (hN : N ≤ w.heap.size) : HdRel R size w w.heap.size v l :=
  (h.mono hRm fun p u _ hc => (only_cell hc).2).more hR hN
end Go.Proofs.YtipacjbegfingaaGreat
/- The walks of the document's writes and reads of what is pending. -/
namespace Go.Proofs.YtipacjbegfingaaGreat
open Go.RowKit Fl
attribute [local go_sem] run_store_float

/-- is a text read? -/
def rdL (k : ByteArray) (l : List ByteArray) : Bool := l.any fun b => b.toList == k.toList
theorem rdL_in (k : ByteArray) (l : List ByteArray) : rdL k l = inL k l := by
  unfold rdL inL
  congr 1
  funext b
  exact Bool.beq_comm
set_option maxRecDepth 100000 in
set_option maxHeartbeats 4000000 in
theorem rwrites_any (p : Pn) (A1 : Option Addr) (n1 c1 : Nat) (x : ByteArray) (A : Option Addr) (n c : Nat) (w : World) (h : Sl WtRel 4 w w.heap.size A n p.w) (hn : n ≤ maxLen) :
    Calls Tryz.prog 99 #[p.val (.slice A1 n1 c1) (.slice A n c), .string x] w fun e w' => e = .returned (.bool (wrL x p.w)) ∧ Below w.heap.size w w' := by
  unfold maxLen at hn
  have hl := h.1
  have hge : n ≤ p.w.length := by omega
  have hle : p.w.length ≤ n := by omega
  have hX : Below w.heap.size w (w.alloc (.cells (p.arr (.slice A1 n1 c1) (.slice A n c)) 45)) := by go_grown
  have i2 := Blk.new w 45 (p.arr (.slice A1 n1 c1) (.slice A n c))
  clear hl
  go_enter Tryz.func99, Tryz.ntmps99
  go_wp2
  go_loopw [5] (fun i wr => AnyRel (fun a : Wt => a.key.toList == x.toList) p.w (w.alloc (.cells (p.arr (.slice A1 n1 c1) (.slice A n c)) 45)) i wr) (fun i _ => n - (intOf i).toNat)
  case atStart => exact ⟨0, by omega, rfl, rfl, Below.refl _ _⟩
  case round =>
    obtain ⟨k, hk, rfl, hs, hb⟩ := hrel
    have hww : Below w.heap.size w wr := hX.trans (hb.mono hX.size)
    have y7 := (i2.below hb i2.lt).cell 7
    simp only [List.getElem?_toArray, List.getElem?_cons_succ, List.getElem?_cons_zero] at y7
    have l2 := (i2.below hb i2.lt).lt
    by_cases hlt : k < n
    · obtain ⟨ad, a, rfl, ha, hbk, hok, c0, c1', c2', c3'⟩ := (h.below WtRel.kept hww).wt hlt
      have hd1 : decide ((k : Int) < (n : Int)) = true := by simp; omega
      have hk0 : (0 : Int) ≤ (k : Int) := by omega
      have hk1 : (k : Int) < (n : Int) := by omega
      rw [any_drop ha] at hs
      by_cases hq : (a.key.toList == x.toList) = true
      · have HF := Lib.hid (show wrL x p.w = true by unfold wrL; rw [← hs, hq]; rfl)
        clear hs ha
        go_wp2
        go_ret
        rw [HF.out]
        exact ⟨rfl, hww⟩
      · have hqf : (a.key.toList == x.toList) = false := by simpa using hq
        rw [hqf] at hs
        have HT := Lib.hid hs
        clear hs ha hq
        go_wp2
        go_roundw
        case rel => exact ⟨k + 1, by omega, by go_num, HT.out, hb⟩
        case measure => simp [intOf]; omega
    · have hd1 : decide ((k : Int) < (n : Int)) = false := by simp; omega
      have HF := Lib.hid (show wrL x p.w = false by unfold wrL; rw [← hs, List.drop_of_length_le (by omega)]; rfl)
      clear hs
      go_wp2
      go_ret
      rw [HF.out]
      exact ⟨rfl, hww⟩
set_option maxRecDepth 100000 in
set_option maxHeartbeats 4000000 in
theorem rreads_any (p : Pn) (A2 : Option Addr) (n2 c2 : Nat) (x : ByteArray) (A : Option Addr) (n c : Nat) (w : World) (h : Sl KyRel 1 w w.heap.size A n p.r) (hn : n ≤ maxLen) :
    Calls Tryz.prog 100 #[p.val (.slice A n c) (.slice A2 n2 c2), .string x] w fun e w' => e = .returned (.bool (rdL x p.r)) ∧ Below w.heap.size w w' := by
  unfold maxLen at hn
  have hl := h.1
  have hge : n ≤ p.r.length := by omega
  have hle : p.r.length ≤ n := by omega
  have hX : Below w.heap.size w (w.alloc (.cells (p.arr (.slice A n c) (.slice A2 n2 c2)) 45)) := by go_grown
  have i2 := Blk.new w 45 (p.arr (.slice A n c) (.slice A2 n2 c2))
  clear hl
  go_enter Tryz.func100, Tryz.ntmps100
  go_wp2
  go_loopw [5] (fun i wr => AnyRel (fun b : ByteArray => b.toList == x.toList) p.r (w.alloc (.cells (p.arr (.slice A n c) (.slice A2 n2 c2)) 45)) i wr) (fun i _ => n - (intOf i).toNat)
  case atStart => exact ⟨0, by omega, rfl, rfl, Below.refl _ _⟩
  case round =>
    obtain ⟨k, hk, rfl, hs, hb⟩ := hrel
    have hww : Below w.heap.size w wr := hX.trans (hb.mono hX.size)
    have y6 := (i2.below hb i2.lt).cell 6
    simp only [List.getElem?_toArray, List.getElem?_cons_succ, List.getElem?_cons_zero] at y6
    have l2 := (i2.below hb i2.lt).lt
    by_cases hlt : k < n
    · obtain ⟨ad, a, rfl, ha, hbk, hok, c0⟩ := (h.below KyRel.kept hww).ky hlt
      have hd1 : decide ((k : Int) < (n : Int)) = true := by simp; omega
      have hk0 : (0 : Int) ≤ (k : Int) := by omega
      have hk1 : (k : Int) < (n : Int) := by omega
      rw [any_drop ha] at hs
      by_cases hq : (a.toList == x.toList) = true
      · have HF := Lib.hid (show rdL x p.r = true by unfold rdL; rw [← hs, hq]; rfl)
        clear hs ha
        go_wp2
        go_ret
        rw [HF.out]
        exact ⟨rfl, hww⟩
      · have hqf : (a.toList == x.toList) = false := by simpa using hq
        rw [hqf] at hs
        have HT := Lib.hid hs
        clear hs ha hq
        go_wp2
        go_roundw
        case rel => exact ⟨k + 1, by omega, by go_num, HT.out, hb⟩
        case measure => simp [intOf]; omega
    · have hd1 : decide ((k : Int) < (n : Int)) = false := by simp; omega
      have HF := Lib.hid (show rdL x p.r = false by unfold rdL; rw [← hs, List.drop_of_length_le (by omega)]; rfl)
      clear hs
      go_wp2
      go_ret
      rw [HF.out]
      exact ⟨rfl, hww⟩
end Go.Proofs.YtipacjbegfingaaGreat
