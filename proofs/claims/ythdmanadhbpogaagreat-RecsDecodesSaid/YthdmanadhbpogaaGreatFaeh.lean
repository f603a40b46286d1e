/- Bytes that came in. -/
import Derived.Test.YthdmanadhbpogaaGreatFaaa
import Derived.Test.YthdmanadhbpogaaGreatFaae
import Derived.Test.YthdmanadhbpogaaGreatFaef
import Derived.Test.YthdmanadhbpogaaGreatFaeg
namespace Go.Proofs.YthdmanadhbpogaaGreat
open Go.ChangeShapes Go.WideShapes Go.RowKit
section
variable {H:Type} {enc:TypeId×Value→H} {P:Program} {w:World} {base:Nat} {spare:Nat→Bool} {held:Bool}
set_option maxRecDepth 100000 in
theorem open_bytes {r:Reach} {b0:Nat} {v:Value} {d:DataW H} {ps:List MemPlace} (hv:Value.okWide Tryz.prog w r b0 48 v) (h:DataW.Trod enc Tryz.prog w 0 (fun _=>true) true 48 v d ps):
 ∃A n c bs,v=.slice A n c∧n≤maxLen∧n≤c∧c≤maxLen∧Reads w w.heap.size 1 A n (bytesV bs):=by
 obtain⟨A,n,c,l,rfl,h1,h2,h3,h4⟩:=open_sl (Flat (fun b:UInt8=>[.int .u8 (b.toNat:Int)]) fun _=>True) 1 (by omega) Tryz.underlying48 (by kernel_rfl) (fun f cs x _ hx=>by
  obtain⟨b,rfl,_,hb⟩:=DataW.trod_int Tryz.underlying5 hx
  obtain⟨b',rfl⟩:=u8_wf hb
  exact⟨b',rfl,trivial⟩) hv h
 have hr:=Sl.reads (size:=1) (by omega) (fun _=>rfl) h4
 refine⟨A,n,c,l,rfl,h1,h2,h3,?_⟩
 have e:l.flatMap (fun b:UInt8=>[Value.int .u8 (b.toNat:Int)])=bytesV l:=by
  clear hr h4
  induction l with
  |nil=>rfl
  |cons a l ih=>rw[List.flatMap_cons,ih];rfl
 rw[←e];exact hr
end
end Go.Proofs.YthdmanadhbpogaaGreat
