/- The walk of CopyMsg. -/
import Derived.Test.YtcalkfgibflbnaaGreatBacg
import Derived.Test.YtcalkfgibflbnaaGreatBadd
namespace Go.Proofs.YtcalkfgibflbnaaGreat
set_option linter.unusedVariables false
open Go.RowKit Fl
attribute [local go_sem] dJ
theorem ah9 {w w':World} {B b o:Nat} {cs:List Value} (h:w.rangeAt b o cs) (hb:Below B w w') (hlt:b<B):w'.rangeAt b o cs:=fun j v hj=>(hb.cell (p:=⟨b,o+j,none⟩) hlt).trans (h j v hj)
section
variable {α:Type} {f:α->List Value} {ok:α->Prop} {E size S lo hi:Nat} {w w':World} {v:Value} {l:List α}
end
