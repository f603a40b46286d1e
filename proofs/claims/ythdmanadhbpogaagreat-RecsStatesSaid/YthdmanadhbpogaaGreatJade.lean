/- The walk of raceref.Rec. -/
import Derived.Deep.RegionHeld3
import Derived.Test.YthdmanadhbpogaaGreatJaag
namespace Go.Proofs.YthdmanadhbpogaaGreat
set_option linter.unusedVariables false
open Go.RowKit Fl
attribute [local go_sem] run_store_float
theorem sp_run (a t:Sp) (w:World):(Op.equalIn 10000 25 (.agg #[.int .i64 a.w,.int .i64 a.l,.int .i64 a.n]) (.agg #[.int .i64 t.w,.int .i64 t.l,.int .i64 t.n])).run Tryz.prog w=.ok (decide (a=t)) w:=by
 have e:decide (a=t)=((a.w==t.w)&&(a.l==t.l)&&(a.n==t.n)):=by
  obtain⟨a1,a2,a3⟩:=a
  obtain⟨b1,b2,b3⟩:=t
  rw[Bool.eq_iff_iff]
  simp[and_assoc]
 rw[e]
 cases h1:(a.w==t.w)<;>cases h2:(a.l==t.l)<;>cases h3:(a.n==t.n)
 all_goals simp[go_sem,h1,h2,h3]
end Go.Proofs.YthdmanadhbpogaaGreat
