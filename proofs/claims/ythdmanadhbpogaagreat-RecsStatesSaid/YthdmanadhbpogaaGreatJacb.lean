/- The walk of WeighRec. -/
import Derived.WalkLawsBesides
import Derived.Test.YthdmanadhbpogaaGreatJaab
import Derived.Test.YthdmanadhbpogaaGreatJaag
import Derived.Test.YthdmanadhbpogaaGreatJaca
namespace Go.Proofs.YthdmanadhbpogaaGreat
set_option linter.unusedVariables false
open Go.RowKit Fl
attribute [local go_sem] run_store_float
theorem stepW_range {most s:Int} (a:Wt) (hm:0≤most) (h0:0≤s):0≤stepW most s a∧stepW most s a≤2*most+1:=by
 have h2:=fewI_range (n:=s) (more:=1+(a.key.size:Int)) (most:=most) h0 (by omega) hm
 have h3:=fewI_range (n:=fewI s (1+(a.key.size:Int)) most) (more:=(a.v.t.size:Int)) (most:=most) h2.1 (by omega) hm
 exact⟨h3.1,h3.2.1⟩
end Go.Proofs.YthdmanadhbpogaaGreat
