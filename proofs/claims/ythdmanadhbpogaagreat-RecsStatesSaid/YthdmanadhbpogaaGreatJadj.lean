/- A state and bytes that came in. -/
import Derived.Test.YthdmanadhbpogaaGreatJaaa
import Derived.Test.YthdmanadhbpogaaGreatJaaf
import Derived.Test.YthdmanadhbpogaaGreatJadi
namespace Go.Proofs.YthdmanadhbpogaaGreat
set_option maxRecDepth 100000
open Go.ChangeShapes Go.WideShapes Go.RowKit
theorem u8_wfS {n:Int} (h:(Lit.int .u8 n).wf=true):∃b:UInt8,n=(b.toNat:Int):=by
 have hb:0≤n∧n≤255:=by simpa [Lit.wf,IntKind.min,IntKind.max,IntKind.signed,IntKind.bits] using h
 refine⟨n.toNat.toUInt8,?_⟩
 show n=((n.toNat%256:Nat):Int)
 omega
section
variable {H:Type} {enc:TypeId×Value→H} {P:Program} {w:World} {base:Nat} {spare:Nat→Bool} {held:Bool}
theorem open_bytesS {r:Reach} {b0:Nat} {v:Value} {d:DataW H} {ps:List MemPlace} (hv:Value.okWide Tryz.prog w r b0 48 v) (h:DataW.Trod enc Tryz.prog w 0 (fun _=>true) true 48 v d ps):
 ∃A n c bs,v=.slice A n c∧n≤maxLen∧n≤c∧c≤maxLen∧Reads w w.heap.size 1 A n (bytesV bs):=by
 obtain⟨A,n,c,l,rfl,h1,h2,h3,h4⟩:=open_sl (Flat (fun b:UInt8=>[.int .u8 (b.toNat:Int)]) fun _=>True) 1 (by omega) Tryz.underlying48 (by kernel_rfl) (fun f cs x _ hx=>by
  obtain⟨b,rfl,_,hb⟩:=DataW.trod_int Tryz.underlying5 hx
  obtain⟨b',rfl⟩:=u8_wfS hb
  exact⟨b',rfl,trivial⟩) hv h
 have hr:=Sl.reads (size:=1) (by omega) (fun _=>rfl) h4
 refine⟨A,n,c,l,rfl,h1,h2,h3,?_⟩
 have e:l.flatMap (fun b:UInt8=>[Value.int .u8 (b.toNat:Int)])=bytesV l:=by
  clear hr h4
  induction l with
  |nil=>rfl
  |cons a l ih=>rw[List.flatMap_cons,ih];rfl
 rw[←e];exact hr
theorem open_stC {r:Reach} {b0:Nat} {v:Value} {d:DataW H} {ps:List MemPlace} (hv:Value.okWide Tryz.prog w r b0 36 v) (h:DataW.Trod enc Tryz.prog w 0 (fun _=>true) true 36 v d ps) (hs:Szd Tryz.prog 36 d):
 ∃(s:Stt) (A1:Option Addr) (n1 c1:Nat) (A2:Option Addr) (n2 c2:Nat),v=.agg (s.arr (.slice A1 n1 c1) (.slice A2 n2 c2))∧SttIn w A1 n1 c1 A2 n2 c2 s:=by
 obtain⟨cs,rfl,hsz⟩:=okWide_struct Tryz.underlying36 hv
 obtain⟨s,a,b,e,k1,k2,k3,⟨A1,n1,c1,rfl,q1,q2,q3⟩,⟨A2,n2,c2,rfl,q4,q5,q6⟩⟩:=opn_st (Opn.of h hs)
 have e2:cs.toList=_:=e
 have:cs=s.arr (.slice A1 n1 c1) (.slice A2 n2 c2):=by rw[←Array.toArray_toList (xs:=cs),e2]
 exact⟨s,A1,n1,c1,A2,n2,c2,by rw[this],k1,k2,k3,q1,q2,q4,q5,q3,q6⟩
theorem states_in (s:Stt) (A1 A2:Option Addr) (n1 n2 c1 c2:Nat) (A:Option Addr) (n c:Nat) (l:List UInt8) (w:World) (i:SttIn w A1 n1 c1 A2 n2 c2 s) (h:Reads w w.heap.size 1 A n (bytesV l)) (hnc:n≤c) (hcm:c≤maxLen):
 Calls Tryz.prog 8 #[.agg (s.arr (.slice A1 n1 c1) (.slice A2 n2 c2)),.slice A n c] w fun e w'=>e=.returned (.bool true)∧Below w.heap.size w w':=by
 obtain⟨o1,o2,o3,q1,q2,q3,q4,h1,h2⟩:=i
 exact states_any s A1 A2 n1 n2 c1 c2 A n c l w o1 o2 o3 h1 h2 q1 q2 q3 q4 h hnc hcm
end
end Go.Proofs.YthdmanadhbpogaaGreat
