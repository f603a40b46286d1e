/- The walks of raceref's comparisons, whatever both sides read as: Histories, Pending, Pendings, State. -/
import Derived.Deep.CutRange
import Derived.Test.YthdmanadhbpogaaGreatFaae
import Derived.Test.YthdmanadhbpogaaGreatFacc
import Derived.Test.YthdmanadhbpogaaGreatFade
import Derived.Test.YthdmanadhbpogaaGreatFadh
import Derived.Test.YthdmanadhbpogaaGreatFaec
import Derived.Test.YthdmanadhbpogaaGreatFaee
namespace Go.Proofs.YthdmanadhbpogaaGreat
set_option maxHeartbeats 8000000
set_option maxRecDepth 100000
set_option linter.unusedVariables false
open Go.RowKit Fl
attribute [local go_sem] run_store_float
def Vn.same (a b:Vn):Bool:=decide (a.s=b.s)&&a.v.same b.v
def Hs.same (a b:Hs):Bool:=(a.key.toList==b.key.toList)&&decide (a.vs.length=b.vs.length)&&sameL Vn.same a.vs b.vs
def Pn.same (p q:Pn):Bool:=decide (p.t=q.t)&&decide (p.s=q.s)&&sameL (fun a b:ByteArray=>a.toList==b.toList) p.r q.r&&sameL Wt.same p.w q.w
def Stt.same (a b:Stt):Bool:=a.r.same b.r&&decide (a.f=b.f)&&decide (a.c=b.c)&&sameL Hs.same a.h b.h&&sameL Pn.same a.p b.p
end Go.Proofs.YthdmanadhbpogaaGreat
/- Numbers that came in. -/
namespace Go.Proofs.YthdmanadhbpogaaGreat
open Go.RowKit
theorem u8_wf {n:Int} (h:(Lit.int .u8 n).wf=true):∃b:UInt8,n=(b.toNat:Int):=by
 have hb:0≤n∧n≤255:=by simpa [Lit.wf,IntKind.min,IntKind.max,IntKind.signed,IntKind.bits] using h
 refine⟨n.toNat.toUInt8,?_⟩
 show n=((n.toNat%256:Nat):Int)
 omega
end Go.Proofs.YthdmanadhbpogaaGreat
