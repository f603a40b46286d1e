/- The walks of CopyInts and CopyRec. -/
import Derived.Test.YthdmanadhbpogaaGreatJaab
import Derived.Test.YthdmanadhbpogaaGreatJacc
import Derived.Test.YthdmanadhbpogaaGreatJaci
import Derived.Test.YthdmanadhbpogaaGreatJacj
namespace Go.Proofs.YthdmanadhbpogaaGreat
set_option maxHeartbeats 8000000
set_option maxRecDepth 100000
set_option linter.unusedVariables false
open Go.RowKit Fl
attribute [local go_sem] run_store_float
def setA:Array Value→Nat→List Value→Array Value
 |cs,_,[]=>cs
 |cs,o,v::vs=>setA (cs.setIfInBounds o v) (o+1) vs
theorem Blk.setCells {g:Nat} {t:TypeId}:∀(vs:List Value) (o:Nat) (w:World) (cs:Array Value),Blk w g t cs→Blk (w.setCells g o vs) g t (setA cs o vs):=by
 intro vs
 induction vs with
 |nil=>intro o w cs h;exact h
 |cons v vs ih=>intro o w cs h;exact ih (o+1) _ _ (h.set_ o v)
theorem HdRel.hd {α:Type} {R:Rel α} {size:Nat} {w:World} {B:Nat} {A:Option Addr} {n c:Nat} {l:List α} (h:HdRel R size w B (.slice A n c) l):Sl R size w B A n l∧n≤c∧c≤maxLen:=by
 obtain⟨A',n',c',e,h1,h2,h3⟩:=h
 injection e with a1 a2 a3
 subst a1 a2 a3
 exact⟨h3,h1,h2⟩
end Go.Proofs.YthdmanadhbpogaaGreat
