/- HandStores' walk, where it divides and where it does not. -/
import Derived.Test.YtipacjbegfingaaKach
namespace Go.Proofs.Ytipacjbegfingaa
set_option linter.unusedVariables false
open Go.RowKit Fl

theorem stores_any (s : Stt) (A1 A2 : Option Addr) (n1 n2 c1 c2 : Nat) (x : Nat) (child which : Int) (at_ : Sp) (commit : Bool) (w : World) (hok : s.r.ok) (hx : x < 18446744073709551616) (hwh : i64ok which) (hat : at_.ok) (h1 : Sl HsRel 2 w w.heap.size A1 n1 s.h) (h2 : Sl PnRel 8 w w.heap.size A2 n2 s.p) (hn1 : n1 ≤ maxLen) (hn2 : n2 ≤ maxLen) :
    Calls Try.prog 4 #[.agg (s.arr (.slice A1 n1 c1) (.slice A2 n2 c2)), .float .f64 x, .int .i64 child, .int .i64 which, at_.val, .bool commit] w fun e w' => e = .returned (.bool true) ∧ Below w.heap.size w w' := by
  by_cases hin : weighS 20000 s ≤ 20000
  · by_cases hd : divE s x child s.c s.f = 0
    · exact stores_in s A1 A2 n1 n2 c1 c2 x child which at_ commit w hok hx hwh hat h1 h2 hn1 hn2 hin hd
    · exact stores_out s A1 A2 n1 n2 c1 c2 x child which at_ commit w hok hx h1 h2 hn1 hn2 (.inr ⟨decide_eq_true hin, hin, hd⟩)
  · exact stores_out s A1 A2 n1 n2 c1 c2 x child which at_ commit w hok hx h1 h2 hn1 hn2 (.inl (decide_eq_false hin))
end Go.Proofs.Ytipacjbegfingaa
