/- The program's Rejoin, whatever the states; HandWhole where nothing is divided. -/
import Derived.Test.YtipacjbegfingaaGreatYabb
import Derived.Test.YtipacjbegfingaaGreatYadd
import Derived.Test.YtipacjbegfingaaGreatYade
import Derived.Test.YtipacjbegfingaaGreatYaea
namespace Go.Proofs.YtipacjbegfingaaGreat
set_option linter.unusedVariables false
open Go.RowKit Fl
attribute [local go_sem] run_store_float

/-- the program's Rejoin -/
theorem rejoin_any (l r : Stt) (A1 A2 A3 A4 : Option Addr) (n1 n2 n3 n4 c1 c2 c3 c4 : Nat) (w : World) (hok : l.r.ok) (hok2 : r.r.ok) (h1 : Sl HsRel 2 w w.heap.size A1 n1 l.h) (h2 : Sl PnRel 8 w w.heap.size A2 n2 l.p) (h3 : Sl HsRel 2 w w.heap.size A3 n3 r.h) (h4 : Sl PnRel 8 w w.heap.size A4 n4 r.p) (hH : SmallH l.h) (hQ : SmallP l.p) (hH2 : SmallH r.h) (hQ2 : SmallP r.p) :
    Calls Tryz.prog 8 #[.agg (l.arr (.slice A1 n1 c1) (.slice A2 n2 c2)), .agg (r.arr (.slice A3 n3 c3) (.slice A4 n4 c4))] w (RejPost w (if rejE l r = 0 then rejS l r else zeroS) (rejE l r)) := by
  by_cases hm : mayS l = false ∨ mayS l = true ∧ mayS r = false
  · rw [rejE_may hm, if_neg (by omega)]
    exact rejoin_a hok hok2 h1 h2 h3 h4 hH hQ hH2 hQ2 hm
  · have a1 : mayS l = true := by cases e : mayS l; exact absurd (.inl e) hm; rfl
    have a2 : mayS r = true := by cases e : mayS r; exact absurd (.inr ⟨a1, e⟩) hm; rfl
    by_cases hb : l.r.hi ≠ r.r.lo ∨ l.r.hi = r.r.lo ∧ l.r.ep < 1 ∨ l.r.hi = r.r.lo ∧ 1 ≤ l.r.ep ∧ l.r.id = r.r.id
    · rw [rejE_meet a1 a2 hb, if_neg (by omega)]
      exact rejoin_b hok hok2 h1 h2 h3 h4 hH hQ hH2 hQ2 a1 a2 hb
    · have hg : l.r.hi = r.r.lo ∧ 1 ≤ l.r.ep ∧ l.r.id ≠ r.r.id := by
        refine ⟨Classical.byContradiction fun e => hb (.inl e), Int.not_lt.1 fun e => hb ?_, fun e => hb ?_⟩
        · by_cases h : l.r.hi = r.r.lo
          · exact .inr (.inl ⟨h, by omega⟩)
          · exact .inl h
        · by_cases h : l.r.hi = r.r.lo
          · by_cases h' : l.r.ep < 1
            · exact .inr (.inl ⟨h, h'⟩)
            · exact .inr (.inr ⟨h, by omega, e⟩)
          · exact .inl h
      rw [rejE_like a1 a2 hg]
      by_cases ha : (r.p.all fun p => l.p.any fun x => alikeP x p) = true
      · rw [if_pos ha, if_pos rfl]
        exact rejoin_d hok hok2 h1 h2 h3 h4 hH hQ hH2 hQ2 a1 a2 hg (mayS_pair a2) ha
      · rw [if_neg ha, if_neg (by omega)]
        exact rejoin_c hok hok2 h1 h2 h3 h4 hH hQ hH2 hQ2 a1 a2 hg (mayS_pair a2) (by simpa using ha)
theorem rejoin_named (l r S : Stt) (E : Int) (A1 A2 A3 A4 : Option Addr) (n1 n2 n3 n4 c1 c2 c3 c4 : Nat) (w : World) (hok : l.r.ok) (hok2 : r.r.ok) (h1 : Sl HsRel 2 w w.heap.size A1 n1 l.h) (h2 : Sl PnRel 8 w w.heap.size A2 n2 l.p) (h3 : Sl HsRel 2 w w.heap.size A3 n3 r.h) (h4 : Sl PnRel 8 w w.heap.size A4 n4 r.p) (hH : SmallH l.h) (hQ : SmallP l.p) (hH2 : SmallH r.h) (hQ2 : SmallP r.p)
    (hS : (if rejE l r = 0 then rejS l r else zeroS) = S) (hE : rejE l r = E) :
    Calls Tryz.prog 8 #[.agg (l.arr (.slice A1 n1 c1) (.slice A2 n2 c2)), .agg (r.arr (.slice A3 n3 c3) (.slice A4 n4 c4))] w fun en w' => ∃ B1 m1 d1 B2 m2 d2, en = .returned (.tuple #[.agg (S.arr (.slice B1 m1 d1) (.slice B2 m2 d2)), .int .i64 E]) ∧ Sl HsRel 2 w' w'.heap.size B1 m1 S.h ∧ Sl PnRel 8 w' w'.heap.size B2 m2 S.p ∧ Below w.heap.size w w' := by
  subst hS hE
  refine (rejoin_any l r A1 A2 A3 A4 n1 n2 n3 n4 c1 c2 c3 c4 w hok hok2 h1 h2 h3 h4 hH hQ hH2 hQ2).mono ?_
  rintro en w' ⟨vh, vp, rfl, ⟨B1, m1, d1, rfl, -, -, k1⟩, ⟨B2, m2, d2, rfl, -, -, k2⟩, hb⟩
  exact ⟨B1, m1, d1, B2, m2, d2, rfl, k1, k2, hb⟩
end Go.Proofs.YtipacjbegfingaaGreat
