/- A short form of one move of a walk through a region that draws its order. -/
import Derived.Deep.RegionHeld3
import Derived.KernelRfl
namespace Go.Proofs.YthdmanadhbpogaaGreat
theorem tk {P:Program} {md:Region.Mode} {ops:Array Oper} {Q:Exit→Act→World→Prop} {S:World→Prop} (i d:Nat) {v:Value} {fuel:Nat} {listed:Array Bool} {a:Act} {w:World} {x1 x2 x3 x4 x5} (hi:ops[i]?=some ⟨some d,x1,x2,x3,x4,x5⟩)
 (hy:YieldsIf P ops S ⟨some d,x1,x2,x3,x4,x5⟩ v a) (hS:S w) (h:wpAnyH P md ops Q S fuel (listed.setIfInBounds i true) (a.put (some d) v) w)
 (hs:Region.noSelect ops=true:=by kernel_rfl) (hf:Region.free md ops listed i=true:=by kernel_rfl) (hr:(Region.ready md ops listed).contains i=true:=by kernel_rfl)
 (hQ:∀c a w,Q (.panic c) (a.put (some d) v) w→Q (.panic c) a w:=by exact fun _ _ _ h=>h):wpAnyH P md ops Q S (fuel+1) listed a w:=
 wpAnyH_take (i:=i) (oi:=⟨some d,x1,x2,x3,x4,x5⟩) hi hs hf hr hQ hy hS h
end Go.Proofs.YthdmanadhbpogaaGreat
