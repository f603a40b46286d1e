/- The walks of the document's small functions: order, Compare, Less; its number's bits; its May of a value. -/
import Derived.Test.YthdmanadhbpogaaGreatCaab
namespace Go.Proofs.YthdmanadhbpogaaGreat
set_option maxHeartbeats 2000000
set_option maxRecDepth 100000
open Go.RowKit Fl
attribute [local go_sem] run_store_float
theorem rord_any (a b : Int) (w : World) : Calls Tryz.prog 197 #[.int .i64 a, .int .i64 b] w fun e w' => e = .returned (.int .i64 (ordI a b)) ∧ w = w' := by
 go_enter Tryz.func197, Tryz.ntmps197
 go_wp2
 all_goals go_ret
 all_goals refine ⟨ret_int ?_, rfl⟩
 all_goals simp_all [ordI]
 all_goals omega
theorem Sp.cmp_steps (a b : Sp) : a.cmp b = if ordI a.w b.w = 0 then (if ordI a.l b.l = 0 then ordI a.n b.n else ordI a.l b.l) else ordI a.w b.w := by
 have h : ∀ x y : Int, ordI x y = 0 ↔ x = y := fun x y => by unfold ordI; split <;> (try split) <;> omega
 unfold Sp.cmp
 simp only [h]
 by_cases h1 : a.w = b.w
 · by_cases h2 : a.l = b.l
   · simp [h1, h2]
   · simp [h1, h2]
 · simp [h1]
theorem rcmp_any (a b : Sp) (w : World) : Calls Tryz.prog 164 #[a.val, b.val] w fun e w' => e = .returned (.int .i64 (a.cmp b)) ∧ Below w.heap.size w w' := by
 rw [Sp.cmp_steps]
 have h1 := fun w => rord_any a.w b.w w
 have h2 := fun w => rord_any a.l b.l w
 have h3 := fun w => rord_any a.n b.n w
 generalize ordI a.w b.w = x at *
 generalize ordI a.l b.l = y at *
 generalize ordI a.n b.n = z at *
 by_cases hx : x = 0
 · by_cases hy : y = 0
   · rw [if_pos hx, if_pos hy]
     have hx0 : (x == 0) = true := by simp [hx]
     have hy0 : (y == 0) = true := by simp [hy]
     clear hx hy
     go_enter Tryz.func164, Tryz.ntmps164
     go_wp2_with (first
        | ((with_reducible refine (h1 _).mono ?_); rintro e w1 ⟨rfl, rfl⟩)
        | ((with_reducible refine (h2 _).mono ?_); rintro e w1 ⟨rfl, rfl⟩)
        | ((with_reducible refine (h3 _).mono ?_); rintro e w1 ⟨rfl, rfl⟩))
     go_ret
     exact ⟨rfl, by go_grown⟩
   · rw [if_pos hx, if_neg hy]
     have hx0 : (x == 0) = true := by simp [hx]
     have hy0 : (y == 0) = false := by simp [hy]
     clear hx hy
     go_enter Tryz.func164, Tryz.ntmps164
     go_wp2_with (first
        | ((with_reducible refine (h1 _).mono ?_); rintro e w1 ⟨rfl, rfl⟩)
        | ((with_reducible refine (h2 _).mono ?_); rintro e w1 ⟨rfl, rfl⟩))
     go_ret
     exact ⟨rfl, by go_grown⟩
 · rw [if_neg hx]
   have hx0 : (x == 0) = false := by simp [hx]
   clear hx
   go_enter Tryz.func164, Tryz.ntmps164
   go_wp2_with ((with_reducible refine (h1 _).mono ?_); rintro e w1 ⟨rfl, rfl⟩)
   go_ret
   exact ⟨rfl, by go_grown⟩
theorem rless_any (a b : Sp) (w : World) : Calls Tryz.prog 112 #[a.val, b.val] w fun e w' => e = .returned (.bool (decide (a.cmp b < 0))) ∧ Below w.heap.size w w' := by
 have h := fun w => rcmp_any a b w
 generalize a.cmp b = x at *
 go_enter Tryz.func112, Tryz.ntmps112
 go_wp2_with ((with_reducible refine (h _).mono ?_); rintro e w1 ⟨rfl, hb⟩)
 go_ret
 exact ⟨rfl, (by go_grown : Below w.heap.size w ((w.alloc (.cells #[.int .i64 a.w, .int .i64 a.l, .int .i64 a.n] 25)).alloc (.cells #[.int .i64 b.w, .int .i64 b.l, .int .i64 b.n] 25))).trans (hb.mono (by simp; omega))⟩
theorem rnbits (a : Nat) (w : World) : Calls Tryz.prog 184 #[.float .f64 a] w fun e w' => e = .returned (.int .u64 (canonB a)) ∧ w = w' := by
 by_cases h : dnan a = true
 · have e : canonB a = 9221120237041090560 := by simp [canonB, h]
   have h' : (FloatKind.f64.format.order a a != some Ordering.eq) = true := h
   rw [e]
   clear e h
   go_enter Tryz.func184, Tryz.ntmps184
   go_wp2
   go_ret
   exact ⟨rfl, rfl⟩
 · have e : canonB a = a := by simp [canonB, h]
   have h' : (FloatKind.f64.format.order a a != some Ordering.eq) = false := by simpa [dnan] using h
   rw [e]
   clear e h
   go_enter Tryz.func184, Tryz.ntmps184
   go_wp2
   go_ret
   exact ⟨rfl, rfl⟩
theorem rcanon (a : Nat) (w : World) : Calls Tryz.prog 165 #[.float .f64 a] w fun e w' => e = .returned (.float .f64 (canonB a)) ∧ w = w' := by
 go_enter Tryz.func165, Tryz.ntmps165
 go_wp2_with ((with_reducible refine (rnbits _ _).mono ?_); rintro e w' ⟨rfl, rfl⟩)
 go_ret
 exact ⟨rfl, rfl⟩
theorem rvmay_any (v : Vl) (w : World) : Calls Tryz.prog 113 #[v.val] w fun e w' => e = .returned (.bool v.may) ∧ Below w.heap.size w w' := by
 have hb := fun w => rbits v.n 0 w
 have hb2 := fun w => rbits v.n (canonB v.n) w
 have hz : ((v.n : Int) == ((0 : Nat) : Int)) = ((v.n : Int) == 0) := rfl
 rw [hz] at hb
 by_cases h0 : v.k = 0
 · have hk : (v.k == 0) = true := by simp [h0]
   rw [Vl.may0 h0]
   clear h0
   cases ht : emptyB v.t <;> cases hn : ((v.n : Int) == 0)
   all_goals unfold emptyB at ht
   all_goals rw [hn] at hb
   all_goals go_enter Tryz.func113, Tryz.ntmps113
   all_goals go_wp2_with ((with_reducible refine (hb _).mono ?_); rintro e w' ⟨rfl, rfl⟩)
   all_goals go_ret
   all_goals exact ⟨rfl, by go_grown⟩
 by_cases h1 : v.k = 1
 · have hk : (v.k == 0) = false := by simp [h0]
   have hk2 : (v.k == 1) = true := by simp [h1]
   rw [Vl.may1 h1]
   clear h0 h1
   cases ht : emptyB v.t <;> cases hn : ((v.n : Int) == canonB v.n)
   all_goals unfold emptyB at ht
   all_goals rw [hn] at hb2
   all_goals go_enter Tryz.func113, Tryz.ntmps113
   all_goals go_wp2
   all_goals go_quiet (first | (go_at_call 165; exact quietSame (rcanon _ _)) | (go_at_call 56; exact quietSame (hb2 _)))
   all_goals go_wp2
   all_goals go_ret
   all_goals exact ⟨rfl, (by go_grown : Below w.heap.size w (w.alloc _)).trans ((belowN _).mono (by simp))⟩
 by_cases h2 : v.k = 2
 · have hk : (v.k == 0) = false := by simp [h0]
   have hk2 : (v.k == 1) = false := by simp [h1]
   have hk3 : (v.k == 2) = true := by simp [h2]
   rw [Vl.may2 h2]
   clear h0 h1 h2
   cases ht : decide ((v.t.size : Int) ≤ 64) <;> cases hn : ((v.n : Int) == 0)
   all_goals rw [hn] at hb
   all_goals go_enter Tryz.func113, Tryz.ntmps113
   all_goals go_wp2_with ((with_reducible refine (hb _).mono ?_); rintro e w' ⟨rfl, rfl⟩)
   all_goals go_ret
   all_goals exact ⟨rfl, by go_grown⟩
 · have hk : (v.k == 0) = false := by simp [h0]
   have hk2 : (v.k == 1) = false := by simp [h1]
   have hk3 : (v.k == 2) = false := by simp [h2]
   rw [Vl.may3 h0 h1 h2]
   clear h0 h1 h2
   go_enter Tryz.func113, Tryz.ntmps113
   go_wp2
   go_ret
   exact ⟨rfl, by go_grown⟩
end Go.Proofs.YthdmanadhbpogaaGreat
