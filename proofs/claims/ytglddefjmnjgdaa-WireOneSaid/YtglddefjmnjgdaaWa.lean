/- Items of chapter 2's statements: words, plain facts; the walks of put, few. -/
import Derived.Test.YtglddefjmnjgdaaQd
import Derived.Test.YtglddefjmnjgdaaFrame
namespace Go.Proofs.Ytglddefjmnjgdaa
open Go.RowKit Fl

/-- what is written or asked -/
structure It where
  k : Int
  n : Int
  b : Bool
  x : Nat
  s : ByteArray
def It.cells (a : It) : List Value := [.int .i64 a.k, .int .i64 a.n, .bool a.b, .float .f64 a.x, .string a.s]
abbrev It.val (a : It) : Value := .agg #[.int .i64 a.k, .int .i64 a.n, .bool a.b, .float .f64 a.x, .string a.s]
def It.ok (a : It) : Prop := i64ok a.k ∧ i64ok a.n ∧ a.x < 18446744073709551616 ∧ a.s.size ≤ maxLen
abbrev ItRel : Rel It := Flat It.cells It.ok
theorem ItRel.kept : (ItRel).Kept := Flat.kept _ _

section
variable {w : World} {B n : Nat} {A : Option Addr} {l : List It}
theorem Sl.it (h : Sl ItRel 5 w B A n l) {k : Nat} (hk : k < n) : ∃ ad a, A = some ad ∧ l[k]? = some a ∧ (ad.add (k * 5)).block < B ∧ a.ok ∧
    w.cell? (ad.add (k * 5)) = some (.int .i64 a.k) ∧ w.cell? ⟨(ad.add (k * 5)).block, (ad.add (k * 5)).off + 1, none⟩ = some (.int .i64 a.n) ∧
    w.cell? ⟨(ad.add (k * 5)).block, (ad.add (k * 5)).off + 2, none⟩ = some (.bool a.b) ∧ w.cell? ⟨(ad.add (k * 5)).block, (ad.add (k * 5)).off + 3, none⟩ = some (.float .f64 a.x) ∧
    w.cell? ⟨(ad.add (k * 5)).block, (ad.add (k * 5)).off + 4, none⟩ = some (.string a.s) := by
  obtain ⟨ad, cs, a, e, hl, hb, _, hc, rfl, hok⟩ := h.at_ hk
  have e0 : ∀ j, ad.add (k * 5 + j) = (ad.add (k * 5)).add j := fun j => (add_of_add _ _ _).symm
  have c0 := hc 0 _ rfl
  have c1 := hc 1 _ rfl
  have c2 := hc 2 _ rfl
  have c3 := hc 3 _ rfl
  have c4 := hc 4 _ rfl
  rw [e0] at c1 c2 c3 c4
  exact ⟨ad, a, e, hl, by rw [block_of_add]; exact hb, hok, c0, c1, c2, c3, c4⟩
end

/-- an item's bytes -/
def encIt (a : It) : List UInt8 :=
  if a.k = 0 then encI a.n else if a.k = 1 then encB a.b else if a.k = 2 then leB 8 (canonB a.x) else if a.k = 3 then encT a.s.data.toList else []
def encL (l : List It) : List UInt8 := l.flatMap encIt
def fewN (l : List It) : Nat := ((l.take 400).map fun a => min a.s.size 20001).sum
def fewB (l : List It) : Bool := decide (l.length ≤ 400) && decide (fewN l ≤ 20000)

theorem fewN_le (l : List It) : fewN l ≤ 400 * 20001 := by
  unfold fewN
  have h : ∀ (m : List It) (k : Nat), m.length ≤ k → (m.map fun a => min a.s.size 20001).sum ≤ k * 20001 := by
    intro m
    induction m with
    | nil => intro k _; simp
    | cons a m ih =>
      intro k hk
      rw [List.length_cons] at hk
      have := ih (k - 1) (by omega)
      simp only [List.map_cons, List.sum_cons]
      have e : k * 20001 = (k - 1) * 20001 + 20001 := by omega
      omega
  exact h _ 400 (List.length_take_le _ _)
theorem fewB_true {l : List It} (h : fewB l = true) : l.length ≤ 400 ∧ (l.map fun a => a.s.size).sum ≤ 20000 := by
  unfold fewB at h
  simp only [Bool.and_eq_true, decide_eq_true_eq] at h
  refine ⟨h.1, ?_⟩
  have h2 := h.2
  unfold fewN at h2
  rw [List.take_of_length_le h.1] at h2
  clear h
  have hh : ∀ (m : List It) (t : Nat), (m.map fun a => min a.s.size 20001).sum + t ≤ 20000 → (m.map fun a => a.s.size).sum + t ≤ 20000 := by
    intro m
    induction m with
    | nil => intro t h; simpa using h
    | cons a m ih =>
      intro t h
      simp only [List.map_cons, List.sum_cons] at h ⊢
      have := ih (a.s.size + t) (by omega)
      omega
  have := hh l 0 (by omega)
  omega
theorem encIt_len {a : It} (h : a.ok) : (encIt a).length ≤ 10 + a.s.size ∨ (encIt a).length ≤ 10 := by
  unfold encIt
  by_cases h0 : a.k = 0
  · rw [if_pos h0]; exact .inr (encI_len h.2.1.1 h.2.1.2)
  · rw [if_neg h0]
    by_cases h1 : a.k = 1
    · rw [if_pos h1]; right; simp [encB]
    · rw [if_neg h1]
      by_cases h2 : a.k = 2
      · rw [if_pos h2]; right; rw [leB_len]; omega
      · rw [if_neg h2]
        by_cases h3 : a.k = 3
        · rw [if_pos h3]
          have hs := h.2.2.2
          unfold maxLen at hs
          left
          unfold encT
          rw [List.length_append]
          have := encI_len (n := (a.s.data.toList.length : Int)) (by omega) (by rw [Array.length_toList]; have : a.s.data.size = a.s.size := rfl; omega)
          have e : a.s.data.toList.length = a.s.size := Array.length_toList (xs := a.s.data)
          omega
        · rw [if_neg h3]; right; simp
theorem encL_len {l : List It} (h : ∀ a ∈ l, a.ok) : (encL l).length ≤ 10 * l.length + (l.map fun a => a.s.size).sum := by
  unfold encL
  induction l with
  | nil => simp
  | cons a l ih =>
    have := ih (fun b hb => h b (by simp [hb]))
    have h2 := encIt_len (h a (by simp))
    rw [List.flatMap_cons, List.length_append]
    simp only [List.map_cons, List.sum_cons, List.length_cons]
    omega
theorem sum_take_le (l : List It) (k : Nat) : ((l.take k).map fun a => a.s.size).sum ≤ (l.map fun a => a.s.size).sum := by
  have h : l.map (fun a => a.s.size) = (l.take k).map (fun a => a.s.size) ++ (l.drop k).map (fun a => a.s.size) := by rw [← List.map_append, List.take_append_drop]
  rw [h, List.sum_append]
  omega
theorem sum_mem_le {l : List It} {a : It} (h : a ∈ l) : a.s.size ≤ (l.map fun a => a.s.size).sum := by
  induction l with
  | nil => cases h
  | cons b l ih =>
    simp only [List.map_cons, List.sum_cons]
    rcases List.mem_cons.1 h with rfl | h
    · omega
    · have := ih h; omega
theorem encL_take {l : List It} (h : ∀ a ∈ l, a.ok) (hf : fewB l = true) (k : Nat) : (encL (l.take k)).length ≤ 24000 := by
  obtain ⟨h1, h2⟩ := fewB_true hf
  have h3 := encL_len (l := l.take k) (fun a ha => h a (List.mem_of_mem_take ha))
  have h4 := sum_take_le l k
  have h5 : (l.take k).length ≤ l.length := by rw [List.length_take]; omega
  omega
theorem encL_snoc {l : List It} {k : Nat} {a : It} (h : l[k]? = some a) : encL (l.take (k + 1)) = encL (l.take k) ++ encIt a := by
  unfold encL
  rw [List.take_add_one, h, List.flatMap_append]
  simp

theorem Foot.ofBelow {w w' : World} {g : Nat} {v : Value} (h : Below w.heap.size w w') : Foot w w' g v v :=
  ⟨h.os, h.tape, h.output, h.size, fun k hk _ _ => h.block k hk, .inl rfl⟩

set_option maxHeartbeats 4000000 in
theorem put_any (g : Nat) (a : It) (v : Value) (bs : List UInt8) (B : Nat) (w : World) (hw : Wr w B g v bs) (hB : B ≤ w.heap.size) (hok : a.ok) (hlen : bs.length + 10 + a.s.size ≤ 1000000000000) :
    Calls Try.prog 14 #[.pointer (some ⟨g, 0, none⟩), a.val] w (WrPost w B g v bs (encIt a)) := by
  obtain ⟨hk, hn, hx, hs⟩ := hok
  obtain ⟨hn1, hn2⟩ := hn
  have hcase : a.k = 0 ∨ (a.k ≠ 0 ∧ a.k = 1) ∨ (a.k ≠ 0 ∧ a.k ≠ 1 ∧ a.k = 2) ∨ (a.k ≠ 0 ∧ a.k ≠ 1 ∧ a.k ≠ 2 ∧ a.k = 3) ∨ (a.k ≠ 0 ∧ a.k ≠ 1 ∧ a.k ≠ 2 ∧ a.k ≠ 3) := by omega
  have hb := (Below.refl w.heap.size w).alloc (Nat.le_refl _) (.cells #[.int .i64 a.k, .int .i64 a.n, .bool a.b, .float .f64 a.x, .string a.s] 30)
  have hw2 := hw.below hb
  have hf := Foot.ofBelow (g := g) (v := v) hb
  rcases hcase with h0 | ⟨h0, h1⟩ | ⟨h0, h1, h2⟩ | ⟨h0, h1, h2, h3⟩ | ⟨h0, h1, h2, h3⟩
  · have b0 : (a.k == 0) = true := by simp [h0]
    have he : encIt a = encI a.n := by unfold encIt; rw [if_pos h0]
    rw [he]
    clear he h0
    go_enter Try.func14, Try.ntmps14
    go_wp2_with ((with_reducible refine (wint g _ _ _ _ _ hw2 (by simp; omega) hn1 hn2 (by omega)).mono ?_); rintro e w1 ⟨rfl, v1, hw1, hf1⟩)
    go_end0
    exact ⟨rfl, v1, hw1, hf.trans hf1⟩
  · have b0 : (a.k == 0) = false := by simp [h0]
    have b1 : (a.k == 1) = true := by simp [h1]
    have he : encIt a = encB a.b := by unfold encIt; rw [if_neg h0, if_pos h1]
    rw [he]
    clear he h0 h1
    go_enter Try.func14, Try.ntmps14
    go_wp2_with ((with_reducible refine (wflag g _ _ _ _ _ hw2 (by simp; omega) (by omega)).mono ?_); rintro e w1 ⟨rfl, v1, hw1, hf1⟩)
    go_end0
    exact ⟨rfl, v1, hw1, hf.trans hf1⟩
  · have b0 : (a.k == 0) = false := by simp [h0]
    have b1 : (a.k == 1) = false := by simp [h1]
    have b2 : (a.k == 2) = true := by simp [h2]
    have he : encIt a = leB 8 (canonB a.x) := by unfold encIt; rw [if_neg h0, if_neg h1, if_pos h2]
    rw [he]
    clear he h0 h1 h2
    go_enter Try.func14, Try.ntmps14
    go_wp2_with ((with_reducible refine (wfloat g _ _ _ _ _ hw2 (by simp; omega) hx (by omega)).mono ?_); rintro e w1 ⟨rfl, v1, hw1, hf1⟩)
    go_end0
    exact ⟨rfl, v1, hw1, hf.trans hf1⟩
  · have b0 : (a.k == 0) = false := by simp [h0]
    have b1 : (a.k == 1) = false := by simp [h1]
    have b2 : (a.k == 2) = false := by simp [h2]
    have b3 : (a.k == 3) = true := by simp [h3]
    have he : encIt a = encT a.s.data.toList := by unfold encIt; rw [if_neg h0, if_neg h1, if_neg h2, if_pos h3]
    rw [he]
    clear he h0 h1 h2 h3
    go_enter Try.func14, Try.ntmps14
    go_wp2_with ((with_reducible refine (wtext g _ _ _ _ _ hw2 (by simp; omega) (by omega)).mono ?_); rintro e w1 ⟨rfl, v1, hw1, hf1⟩)
    go_end0
    exact ⟨rfl, v1, hw1, hf.trans hf1⟩
  · have b0 : (a.k == 0) = false := by simp [h0]
    have b1 : (a.k == 1) = false := by simp [h1]
    have b2 : (a.k == 2) = false := by simp [h2]
    have b3 : (a.k == 3) = false := by simp [h3]
    have he : encIt a = [] := by unfold encIt; rw [if_neg h0, if_neg h1, if_neg h2, if_neg h3]
    rw [he]
    clear he h0 h1 h2 h3
    go_enter Try.func14, Try.ntmps14
    go_wp2
    go_end0
    exact ⟨rfl, v, by simpa using hw2, hf⟩

def FewRel (w : World) (l : List It) (s i : Value) (wr : World) : Prop :=
  ∃ k : Nat, w = wr ∧ k ≤ l.length ∧ k ≤ 400 ∧ i = .int .i64 (k : Int) ∧ s = .int .i64 ((((l.take k).map fun a => min a.s.size 20001).sum : Nat) : Int)

set_option maxHeartbeats 4000000 in
theorem few_any (A : Option Addr) (n c : Nat) (l : List It) (w : World) (h : Sl ItRel 5 w w.heap.size A n l) (hn : n ≤ maxLen) :
    Calls Try.prog 12 #[.slice A n c] w fun e w' => e = .returned (.bool (fewB l)) ∧ w = w' := by
  unfold maxLen at hn
  have hlen : l.length = n := h.1
  have hle : l.length ≤ n := by omega
  have hge : n ≤ l.length := by omega
  clear hlen
  go_enter Try.func12, Try.ntmps12
  go_wp2
  go_loopw [3, 4] (fun s i wr => FewRel w l s i wr) (fun _ i _ => n - (intOf i).toNat)
  case atStart => exact ⟨0, rfl, by omega, by omega, rfl, rfl⟩
  case round =>
    obtain ⟨k, rfl, hk, hk4, rfl, rfl⟩ := hrel
    have hsl : ((l.take k).map fun a => min a.s.size 20001).sum ≤ k * 20001 := by
      have hh : ∀ (m : List It), (m.map fun a => min a.s.size 20001).sum ≤ m.length * 20001 := by
        intro m
        induction m with
        | nil => simp
        | cons a m ih => simp only [List.map_cons, List.sum_cons, List.length_cons]; omega
      have h1 := hh (l.take k)
      have h2 : (l.take k).length ≤ k := List.length_take_le _ _
      exact Nat.le_trans h1 (Nat.mul_le_mul_right _ h2)
    by_cases hlt : k < n ∧ k < 400
    · obtain ⟨hlt, h400⟩ := hlt
      obtain ⟨ad, a, rfl, hl, hbk, hok, c0, c1, c2, c3, c4⟩ := h.it hlt
      have b1 : decide ((k : Int) < (n : Int)) = true := by simp; omega
      have b2 : decide ((k : Int) < 400) = true := by simp; omega
      have HT : RowKit.Hid (((l.take (k + 1)).map fun a => min a.s.size 20001).sum = ((l.take k).map fun a => min a.s.size 20001).sum + min a.s.size 20001) := by
        rw [List.take_add_one, hl, List.map_append, List.sum_append]; exact rfl
      have hsz := hok.2.2.2
      unfold maxLen at hsz
      clear hl
      generalize ((l.take k).map fun a => min a.s.size 20001).sum = S at *
      go_wp2
      go_roundw
      case rel =>
        refine ⟨k + 1, rfl, by omega, by omega, by go_num, ?_⟩
        have hmin : ((min a.s.size 20001 : Nat) : Int) = if 20001 < (a.s.size : Int) then 20001 else (a.s.size : Int) := by split <;> omega
        rw [HT.out, Int.natCast_add, hmin]
      case measure => simp [intOf]; omega
    · have hs : ((l.take k).map fun a => min a.s.size 20001).sum = fewN l := by
        unfold fewN
        by_cases h4 : k = 400
        · rw [h4]
        · rw [List.take_of_length_le (l := l) (i := k) (by omega), List.take_of_length_le (l := l) (i := 400) (by omega)]
      have hF : RowKit.Hid (fewB l = (decide ((n : Int) ≤ 400) && decide (((fewN l : Nat) : Int) ≤ 20000))) := by
        show _ = _
        unfold fewB
        rw [show decide (l.length ≤ 400) = decide ((n : Int) ≤ 400) from decide_eq_decide.2 (by omega), show decide (fewN l ≤ 20000) = decide (((fewN l : Nat) : Int) ≤ 20000) from decide_eq_decide.2 (by omega)]
      rw [hs] at hsl
      rw [hs]
      clear hs
      generalize fewN l = S at *
      have hcase : (k < n ∧ k = 400) ∨ k = n := by omega
      by_cases h400 : n ≤ 400
      all_goals (
        first
          | (have d1 : decide ((n : Int) ≤ 400) = true := by simp; omega
             rw [d1, Bool.true_and] at hF)
          | (have d1 : decide ((n : Int) ≤ 400) = false := by simp; omega
             rw [d1, Bool.false_and] at hF)
        rcases hcase with ⟨h1, h2⟩ | h2
        all_goals (
          first
            | (exfalso; omega)
            | (have b1 : decide ((k : Int) < (n : Int)) = true := by simp; omega
               have b2 : decide ((k : Int) < 400) = false := by simp; omega
               clear h2
               go_wp2
               go_ret
               rw [hF.out]
               exact ⟨rfl, rfl⟩)
            | (have b1 : decide ((k : Int) < (n : Int)) = false := by simp; omega
               clear h2
               go_wp2
               go_ret
               rw [hF.out]
               exact ⟨rfl, rfl⟩)))
end Go.Proofs.Ytglddefjmnjgdaa
