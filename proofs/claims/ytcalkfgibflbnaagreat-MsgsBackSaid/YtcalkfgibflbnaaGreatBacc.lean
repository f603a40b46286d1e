/- Stores of whole values into the midst of a block: plain words, and one move of a region that draws its order. -/
import Derived.Test.YtcalkfgibflbnaaGreatBaac
namespace Go.Proofs.YtcalkfgibflbnaaGreat
set_option linter.unusedVariables false
open Go.RowKit
theorem U0 {b j:Nat} (hj:j≠b):∀(vs:List Value) (o:Nat) (w:World),(w.setCells b o vs).heap[j]?=w.heap[j]?:=by
 intro vs
 induction vs with
 |nil=>intro o w;rfl
 |cons v vs ih=>intro o w;exact(ih (o+1) (w.setCell ⟨b,o,none⟩ v)).trans (Below.heap_setCell _ _ _ _ hj)
theorem setCells_size {b:Nat}:∀(vs:List Value) (o:Nat) (w:World),(w.setCells b o vs).heap.size=w.heap.size:=by
 intro vs
 induction vs with
 |nil=>intro o w;rfl
 |cons v vs ih=>intro o w;exact(ih (o+1) (w.setCell ⟨b,o,none⟩ v)).trans aA
theorem aeV {B b:Nat} (hb:B<=b) {w:World}:∀(vs:List Value) (o:Nat) (w1:World),Below B w w1->Below B w (w1.setCells b o vs):=by
 intro vs
 induction vs with
 |nil=>intro o w1 h;exact h
 |cons v vs ih=>intro o w1 h;exact ih (o+1) _ (h.setCell (p:=⟨b,o,none⟩) hb v)
def Jv:Array Value->Nat->List Value->Array Value
 |cs,_,[]=>cs
 |cs,o,v::vs=>Jv (cs.setIfInBounds o v) (o+1) vs
theorem U1:∀(vs:List Value) (cs:Array Value) (o:Nat),(Jv cs o vs).size=cs.size
 |[],_,_=>rfl
 |v::vs,cs,o=>(U1 vs _ _).trans Array.size_setIfInBounds
theorem aj.setCells {g:Nat} {t:TypeId}:∀(vs:List Value) (o:Nat) (w:World) (cs:Array Value),aj w g t cs->aj (w.setCells g o vs) g t (Jv cs o vs):=by
 intro vs
 induction vs with
 |nil=>intro o w cs h;exact h
 |cons v vs ih=>intro o w cs h;exact ih (o+1) _ _ (h.fB o v)
theorem aeW {P:Program} (w:World) (b o:Nat) (ty:TypeId) (v:Value) (ht:w.there b o v.cells.size) (hi:(P.info? ty).map (·.size)=some v.cells.size) (h1:v.cells.all (·.oneCell')=true):
 (storeVar ty ⟨b,o,none⟩ v).run P w=.ok () (w.setCells b o v.cells.toList):=by
 have:=run_storeCells_cells (P:=P) b o v.cells.toList 0 w (fun j hj=>by simpa using (ht j (by simpa using hj)).1) (fun j hj=>by simpa using (ht j (by simpa using hj)).2)
  (fun u hu=>(Array.all_eq_true_iff_forall_mem.1 h1) u (by simpa using hu))
 cases hq:P.info? ty with
 |none=>simp[hq]at hi
 |some i=>
  have hs:v.cells.size=i.size:=by simp[hq]at hi;omega
  simp only[Nat.add_zero]at this;simp[storeVar,sizeOf,typeInfo,hq,hs,this]
theorem aeX {P:Program} {md:Region.Mode} {ops:Array Oper} {Q:Exit->Act->World->Prop} {S:World->Prop} {fuel:Nat} {listed:Array Bool} {a:Act} {w:World} {i:Nat} {op:Oper}
 (hr:Region.ready md ops listed=[i]) (ho:ops[i]?=some op) (hg:op.guard=none) (ty:TypeId) (x y:Operand) (hop:op.op=.store ty x y)
 (b o:Nat) (v:Value) (hx:a.eval x=.pointer (some ⟨b,o,none⟩)) (hy:a.eval y=v) (ht:w.there b o v.cells.size) (hi:(P.info? ty).map (·.size)=some v.cells.size) (h1:v.cells.all (·.oneCell')=true)
 (hS:S (w.setCells b o v.cells.toList)) (h:wpAnyH P md ops Q S fuel (listed.setIfInBounds i true) (a.put op.dst undef) (w.setCells b o v.cells.toList)):wpAnyH P md ops Q S (fuel+1) listed a w:=by
 refine wpAnyH_all hr aA (fun j hj=>?_);obtain rfl:j=i:=by simpa using hj
 refine wpOp_step ho (fun K' hK=>?_);have hw:Region.wanted op (yielded ops a.tmps)=true:=by simp[Region.wanted,hg]
 rw[if_pos hw];unfold Oper.wp execOp;simp only[hop,hx,hy,Instr.storeAt,Instr.sureAddr,Sem.run_bind,Sem.run_pure,Result.andThen_ok,aeW w b o ty v ht hi h1];exact hK _ _ ⟨hS,h⟩
