/- A move of a walk through a region that draws its order, for an operation whose guard is read off its slot. -/
import Derived.Test.YtcalkfgibflbnaaGreatDaab
namespace Go.Proofs.YtcalkfgibflbnaaGreat
open Go.RowKit
def offQ (a:Act) (dj:Nat) (want:Bool):Bool:=match a.tmps[dj]? with
 |some (.bool b)=>b !=want
 |_=>true
section
variable {P:Program} {md:Region.Mode} {ops:Array Oper} {Q:Exit→Act→World→Prop} {S:World→Prop} {v:Value} {fuel:Nat} {listed:Array Bool} {a:Act} {w:World}
theorem tw {x1 x2 x3 x4 x5} (i d dj:Nat) (want:Bool) (h:wpAnyH P md ops Q S fuel (listed.setIfInBounds i true) (a.put (some d) undef) w) (_:offQ a dj want=true:=by rfl) (hi:ops[i]?=some ⟨some d,x1,x2,x3,x4,x5⟩:=by rfl) (hS:S w:=by assumption)
 (hw:Region.wanted ⟨some d,x1,x2,x3,x4,x5⟩ (yielded ops a.tmps)=false:=by kernel_rfl)
 (hs:Region.noSelect ops=true:=by kernel_rfl) (hf:Region.free md ops listed i=true:=by kernel_rfl) (hr:(Region.ready md ops listed).contains i=true:=by kernel_rfl)
 (hQ:∀c a w,Q (.panic c) (a.put (some d) undef) w→Q (.panic c) a w:=by exact fun _ _ _ h=>h):wpAnyH P md ops Q S (fuel+1) listed a w:=
 tn i d h hi hS hw hs hf hr hQ
end
end Go.Proofs.YtcalkfgibflbnaaGreat
