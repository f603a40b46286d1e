/- A short form of one move of a walk through a region that draws its order: its reading found by the walk. -/
import Derived.Deep.RegionHeld3
import Derived.KernelRfl
import Derived.OwnWalk
import Derived.WalkKit
import Derived.Below
namespace Go.Proofs.YthdmanadhbpogaaGreat
open Go.RowKit
section
variable {P : Program} {md : Region.Mode} {ops : Array Oper} {Q : Exit → Act → World → Prop} {S : World → Prop} {fuel : Nat} {listed : Array Bool} {a : Act} {w : World}
theorem tz {x0 x1 x2 x3 x4 x5} {v : Value} (i : Nat) (h : wpAnyH P md ops Q S fuel (listed.setIfInBounds i true) (a.put x0 v) w) (hi : ops[i]? = some ⟨x0, x1, x2, x3, x4, x5⟩ := by rfl)
    (hv : ∀ w, S w → (execOp a.eval ⟨x0, x1, x2, x3, x4, x5⟩).run P w = .ok (.value v) w := by intro w hSw; (try dsimp only at hSw); go_simp; try with_reducible rfl) (hS : S w := by assumption)
    (hw : Region.wanted ⟨x0, x1, x2, x3, x4, x5⟩ (yielded ops a.tmps) = true := by rfl)
    (hs : Region.noSelect ops = true := by kernel_rfl) (hf : Region.free md ops listed i = true := by kernel_rfl) (hr : (Region.ready md ops listed).contains i = true := by kernel_rfl)
    (hQ : ∀ c a w, Q (.panic c) (a.put x0 v) w → Q (.panic c) a w := by exact fun _ _ _ h => h) : wpAnyH P md ops Q S (fuel + 1) listed a w :=
  wpAnyH_take (i := i) (oi := ⟨x0, x1, x2, x3, x4, x5⟩) hi hs hf hr hQ (Or.inl ⟨hw, hv⟩) hS h
end
end Go.Proofs.YthdmanadhbpogaaGreat
