/- The walks of small functions on keys, values, stamps, transactions, of the program and of the document's answer. -/
import Derived.Test.YtipacjbegfingaaCm
namespace Go.Proofs.Ytipacjbegfingaa
open Go.RowKit Fl
attribute [local go_sem] run_store_float

theorem belowN {w : World} (q : Nat) : Below w.heap.size w (w.drewN q) := ⟨rfl, rfl, rfl, Nat.le_refl _, fun _ _ => rfl⟩
def Sp.may (s : Sp) : Bool := decide (0 ≤ s.w) && decide (s.w ≤ 281474976710656) && decide (0 ≤ s.l) && decide (s.l ≤ 65535) && decide (0 ≤ s.n) && decide (s.n ≤ 63)
set_option maxHeartbeats 1000000 in
theorem hmay_any (s : Sp) (w : World) :
    Calls Try.prog 30 #[s.val] w fun e w' => e = .returned (.bool s.may) ∧ w.alloc (.cells #[.int .i64 s.w, .int .i64 s.l, .int .i64 s.n] 26) = w' := by
  go_enter Try.func30, Try.ntmps30
  go_wp2
  all_goals go_ret
  all_goals refine ⟨ret_bool ?_, rfl⟩
  all_goals simp_all [Sp.may]
  all_goals omega
set_option maxHeartbeats 1000000 in
theorem rhmay_any (s : Sp) (w : World) :
    Calls Try.prog 36 #[s.val] w fun e w' => e = .returned (.bool s.may) ∧ Below w.heap.size w w' := by
  go_enter Try.func36, Try.ntmps36
  go_wp2
  all_goals go_ret
  all_goals refine ⟨ret_bool ?_, by go_grown⟩
  all_goals simp_all [Sp.may]
  all_goals omega

def Tx.may (s : Tx) : Bool := decide (1 ≤ s.c) && decide (s.c ≤ 2) && decide (1 ≤ s.l) && decide (1 ≤ s.s)
set_option maxHeartbeats 1000000 in
theorem txnMay_any (s : Tx) (w : World) :
    Calls Try.prog 97 #[s.val] w fun e w' => e = .returned (.bool s.may) ∧ Below w.heap.size w w' := by
  go_enter Try.func97, Try.ntmps97
  go_wp2
  all_goals go_ret
  all_goals refine ⟨ret_bool ?_, by go_grown⟩
  all_goals simp_all [Tx.may]
  all_goals omega
set_option maxHeartbeats 1000000 in
theorem rtxnMay_any (s : Tx) (w : World) :
    Calls Try.prog 71 #[s.val] w fun e w' => e = .returned (.bool s.may) ∧ Below w.heap.size w w' := by
  go_enter Try.func71, Try.ntmps71
  go_wp2
  all_goals go_ret
  all_goals refine ⟨ret_bool ?_, by go_grown⟩
  all_goals simp_all [Tx.may]
  all_goals omega

def keyB (k : ByteArray) : Bool := decide ((1 : Int) ≤ (k.size : Int)) && decide ((k.size : Int) ≤ 24)
theorem key_any (k : ByteArray) (w : World) : Calls Try.prog 94 #[.string k] w fun e w' => e = .returned (.bool (keyB k)) ∧ w = w' := by
  go_enter Try.func94, Try.ntmps94
  go_wp2
  all_goals go_ret
  all_goals refine ⟨ret_bool ?_, rfl⟩
  all_goals simp_all [keyB]
  all_goals omega
theorem rkey_any (k : ByteArray) (w : World) : Calls Try.prog 41 #[.string k] w fun e w' => e = .returned (.bool (keyB k)) ∧ w = w' := by
  go_enter Try.func41, Try.ntmps41
  go_wp2
  all_goals go_ret
  all_goals refine ⟨ret_bool ?_, rfl⟩
  all_goals simp_all [keyB]
  all_goals omega

def ordI (a b : Int) : Int := if a < b then -1 else if b < a then 1 else 0
def Sp.cmp (a b : Sp) : Int := if a.w ≠ b.w then ordI a.w b.w else if a.l ≠ b.l then ordI a.l b.l else ordI a.n b.n
set_option maxHeartbeats 1000000 in
theorem cmp_any (a b : Sp) (w : World) : Calls Try.prog 95 #[a.val, b.val] w fun e w' => e = .returned (.int .i64 (a.cmp b)) ∧ Below w.heap.size w w' := by
  go_enter Try.func95, Try.ntmps95
  go_wp2
  go_quiet (fail)
  go_wp2
  all_goals first
    | go_ret
    | (go_quiet (fail); go_wp2; all_goals go_ret)
  all_goals refine ⟨ret_int ?_, (by go_grown : Below w.heap.size w ((w.alloc _).alloc _)).trans ((belowN _).mono (by simp; omega))⟩
  all_goals simp_all [Sp.cmp, ordI]
  all_goals omega

def emptyB (t : ByteArray) : Bool := t.toList.isEmpty
/-- a callee that leaves the world alone, in a quiet walk -/
theorem quietSame {P : Program} {f : FuncId} {args : Array Value} {v : Value} {w : World} {q : Nat} (h : Calls P f args (w.drewN q) fun e w' => e = .returned v ∧ w.drewN q = w') :
    Calls P f args (w.drewN q) fun e w' => e = .returned v ∧ ∃ m, w' = w.drewN m := h.mono fun _ _ ⟨he, hw⟩ => ⟨he, q, hw.symm⟩
def Vl.may (v : Vl) : Bool :=
  if v.k = 0 then ((v.n : Int) == 0) && emptyB v.t else if v.k = 1 then emptyB v.t && ((v.n : Int) == canonB v.n) else if v.k = 2 then ((v.n : Int) == 0) && decide ((v.t.size : Int) ≤ 64) else false
theorem Vl.may0 {v : Vl} (h : v.k = 0) : v.may = (((v.n : Int) == 0) && emptyB v.t) := by unfold Vl.may; rw [if_pos h]
theorem Vl.may1 {v : Vl} (h : v.k = 1) : v.may = (emptyB v.t && ((v.n : Int) == canonB v.n)) := by unfold Vl.may; rw [if_neg (by omega), if_pos h]
theorem Vl.may2 {v : Vl} (h : v.k = 2) : v.may = (((v.n : Int) == 0) && decide ((v.t.size : Int) ≤ 64)) := by unfold Vl.may; rw [if_neg (by omega), if_neg (by omega), if_pos h]
theorem Vl.may3 {v : Vl} (h0 : v.k ≠ 0) (h1 : v.k ≠ 1) (h2 : v.k ≠ 2) : v.may = false := by unfold Vl.may; rw [if_neg h0, if_neg h1, if_neg h2]
set_option maxHeartbeats 1000000 in
theorem vmay_any (v : Vl) (w : World) : Calls Try.prog 96 #[v.val] w fun e w' => e = .returned (.bool v.may) ∧ Below w.heap.size w w' := by
  by_cases h0 : v.k = 0
  · have hk : (v.k == 0) = true := by simp [h0]
    rw [Vl.may0 h0]
    clear h0
    cases ht : emptyB v.t <;> cases hn : ((v.n : Int) == 0)
    all_goals unfold emptyB at ht
    all_goals go_enter Try.func96, Try.ntmps96
    all_goals go_wp2
    all_goals go_ret
    all_goals exact ⟨rfl, by go_grown⟩
  by_cases h1 : v.k = 1
  · have hk : (v.k == 0) = false := by simp [h0]
    have hk2 : (v.k == 1) = true := by simp [h1]
    rw [Vl.may1 h1]
    clear h0 h1
    cases ht : emptyB v.t <;> cases hn : ((v.n : Int) == canonB v.n)
    all_goals unfold emptyB at ht
    all_goals go_enter Try.func96, Try.ntmps96
    all_goals go_wp2
    all_goals go_quiet (first | (go_at_call 105; exact quietSame (nbits _ _)))
    all_goals go_wp2
    all_goals go_ret
    all_goals exact ⟨rfl, (by go_grown : Below w.heap.size w (w.alloc _)).trans ((belowN _).mono (by simp))⟩
  by_cases h2 : v.k = 2
  · have hk : (v.k == 0) = false := by simp [h0]
    have hk2 : (v.k == 1) = false := by simp [h1]
    have hk3 : (v.k == 2) = true := by simp [h2]
    rw [Vl.may2 h2]
    clear h0 h1 h2
    cases ht : decide ((v.t.size : Int) ≤ 64) <;> cases hn : ((v.n : Int) == 0)
    all_goals go_enter Try.func96, Try.ntmps96
    all_goals go_wp2
    all_goals go_ret
    all_goals exact ⟨rfl, by go_grown⟩
  · have hk : (v.k == 0) = false := by simp [h0]
    have hk2 : (v.k == 1) = false := by simp [h1]
    have hk3 : (v.k == 2) = false := by simp [h2]
    rw [Vl.may3 h0 h1 h2]
    clear h0 h1 h2
    go_enter Try.func96, Try.ntmps96
    go_wp2
    go_ret
    exact ⟨rfl, by go_grown⟩
end Go.Proofs.Ytipacjbegfingaa
