/- Copies held in blocks of their own; two rows whose elements read in fixed blocks below them. -/
import Derived.Test.YthdmanadhbpogaaGreatJaab
import Derived.Test.YthdmanadhbpogaaGreatJaac
import Derived.Test.YthdmanadhbpogaaGreatJaag
import Derived.Test.YthdmanadhbpogaaGreatJach
namespace Go.Proofs.YthdmanadhbpogaaGreat
set_option linter.unusedVariables false
open Go.RowKit Fl
attribute [local go_sem] run_store_float
def PairK {α:Type} (R:Rel α) (E size base:Nat) (K:Nat→Bool) (w:World) (v1 v2:Value) (l1 l2:List α):Prop:=
 RowR R E size base K w v1 l1∧RowR R E size base K w v2 l2∧Dis v1 v2
section
variable {α:Type} {R:Rel α} {E size base:Nat} {K:Nat→Bool} {w w':World} {v1 v2:Value} {l1 l2:List α}
theorem PairK.nil (w:World):PairK R E size base K w (.slice none 0 0) (.slice none 0 0) [] []:=⟨RowR.nil _,RowR.nil _,Dis.nil _⟩
theorem PairK.symm (h:PairK R E size base K w v1 v2 l1 l2):PairK R E size base K w v2 v1 l2 l1:=⟨h.2.1,h.1,h.2.2.symm⟩
theorem PairK.keep (hR:R.Kept) (h:PairK R E size base K w v1 v2 l1 l2) (hs:w.heap.size≤w'.heap.size) (hb:∀k,base≤k→k<w.heap.size→w'.heap[k]?=w.heap[k]?) (hK:∀k,K k=true→w'.heap[k]?=w.heap[k]?):PairK R E size base K w' v1 v2 l1 l2:=
 ⟨h.1.keep2 hR hs hb hK,h.2.1.keep2 hR hs hb hK,h.2.2⟩
theorem PairK.below (hR:R.Kept) (h:PairK R E size base K w v1 v2 l1 l2) (hb:Below w.heap.size w w') (hK:∀k,K k=true→k<w.heap.size):PairK R E size base K w' v1 v2 l1 l2:=
 h.keep hR hb.size (fun k _ hk=>hb.block k hk) fun k hk=>hb.block k (hK k hk)
theorem PairK.far (hR:R.Kept) (h:PairK R E size base K w v1 v2 l1 l2) {p:Addr} (hp:p.block<base) (hpK:∀k,K k=true→k≠p.block) (u:Value):PairK R E size base K (w.setCell p u) v1 v2 l1 l2:=
 h.keep hR (by simp[World.setCell]) (fun k hk _=>Below.heap_setCell _ _ _ _ (by omega)) fun k hk=>Below.heap_setCell _ _ _ _ (hpK k hk)
theorem PairK.ne1 (h:PairK R E size base K w v1 v2 l1 l2) {g:Nat} (hg:g<base):some g≠v1.ownBlock:=fun e=>by have:=(h.1.lt g e.symm).1;omega
theorem PairK.own1 (hR:R.Kept) (h:PairK R E size base K w v1 v2 l1 l2) (hK:∀k,K k=true→k<base) (hbs:base≤w.heap.size):∃xs,w.ownsRow base E size v1 l1.length xs∧
 ∀(cs:List Value) (a:α) (w':World) (v':Value),cs.length=size→Inn R K w cs a→w'.ownsRow base E size v' (l1.length+1) (xs++cs)→w.grownBy w' v1.ownBlock→(v'.ownBlock=v1.ownBlock∨v'.ownBlock=some w.heap.size)→
  PairK R E size base K w' v' v2 (l1++[a]) l2:=by
 obtain⟨xs,ho,hp⟩:=h.1.own hR hK hbs
 refine⟨xs,ho,fun cs a w' v' hcs hin hown hg hat=>⟨hp cs a w' v' hcs hin hown hg,?_,?_⟩⟩
 · obtain⟨ds,ho2,hlen2,hl2,hc2⟩:=h.2.1
   refine⟨ds,ho2.kept hg ?_,hlen2,hl2,fun i cs a h1 h2=>(hc2 i cs a h1 h2).keep hR (fun k hk=>hg.block k (by have:=hK k hk;omega) (fun e=>by have:=(h.1.lt k e.symm).1;have:=hK k hk;omega)) hg.size⟩
   cases e:v2.ownBlock with
   |none=>exact .inl rfl
   |some k=>exact .inr fun e2=>h.2.2 k e2.symm e
 · intro k e e2
   rcases hat with e3|e3
   · exact h.2.2 k (e3.symm.trans e) e2
   · have:=(h.2.1.lt k e2).2
     rw[e3]at e;injection e;omega
end
end Go.Proofs.YthdmanadhbpogaaGreat
