/- Numbers that came in. -/
import Derived.Test.YthdmanadhbpogaaGreatDafb
namespace Go.Proofs.YthdmanadhbpogaaGreat
open Go.RowKit
theorem i64_wf {n:Int} (h:(Lit.int .i64 n).wf=true):i64ok n:=by
 have: -9223372036854775808≤n∧n≤9223372036854775807:=by simpa [Lit.wf,IntKind.min,IntKind.max,IntKind.signed,IntKind.bits] using h
 exact this
theorem u8_wf {n:Int} (h:(Lit.int .u8 n).wf=true):∃b:UInt8,n=(b.toNat:Int):=by
 have hb:0≤n∧n≤255:=by simpa [Lit.wf,IntKind.min,IntKind.max,IntKind.signed,IntKind.bits] using h
 refine⟨n.toNat.toUInt8,?_⟩
 show n=((n.toNat%256:Nat):Int)
 omega
end Go.Proofs.YthdmanadhbpogaaGreat
