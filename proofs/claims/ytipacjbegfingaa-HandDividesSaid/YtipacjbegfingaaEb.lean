/- One text stands ahead of another one just if the other one does not stand ahead of it, and they are not one. -/
import Derived.Test.YtipacjbegfingaaDc
namespace Go.Proofs.Ytipacjbegfingaa
open Go.RowKit Fl

theorem less_total : ∀ a b : List UInt8, Op.bytesLess b a = !(Op.bytesLess a b || a == b)
  | [], [] => rfl
  | [], _ :: _ => rfl
  | _ :: _, [] => rfl
  | x :: a, y :: b => by
    have ih := less_total a b
    show (decide (y < x) || (y == x && Op.bytesLess b a)) = !((decide (x < y) || (x == y && Op.bytesLess a b)) || ((x == y) && (a == b)))
    rw [ih]
    by_cases h : x = y
    · subst h
      have h1 : ¬ x < x := UInt8.lt_irrefl x
      simp [h1]
    · have h2 : (x == y) = false := by simpa using h
      have h3 : (y == x) = false := by simpa using fun e : y = x => h e.symm
      rw [h2, h3]
      by_cases h4 : x < y
      · have h5 : ¬ y < x := UInt8.lt_asymm h4
        simp [h4, h5]
      · have h5 : y < x := UInt8.lt_of_le_of_ne (UInt8.not_lt.1 h4) (fun e => h e.symm)
        simp [h4, h5]
theorem bl_le (a b : ByteArray) : bl b a = !leB a b := by
  unfold bl leB
  exact less_total a.toList b.toList
end Go.Proofs.Ytipacjbegfingaa
