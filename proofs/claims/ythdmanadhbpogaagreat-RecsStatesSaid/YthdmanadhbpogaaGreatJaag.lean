/- Rows of structs that hold slices: what an element's slices read lies in blocks that the rows' own growth does not turn. Plain lemmas over any program. -/
import Derived.Deep.RegionLaw
import Derived.Carry
import Derived.Deep.CutRange
import Derived.Deep.MidRow
import Derived.Test.YthdmanadhbpogaaGreatJaab
import Derived.Test.YthdmanadhbpogaaGreatJaac
import Derived.Test.YthdmanadhbpogaaGreatJaad
import Derived.Test.YthdmanadhbpogaaGreatJaae
import Derived.Test.YthdmanadhbpogaaGreatJaaf
namespace Go.Proofs.YthdmanadhbpogaaGreat
set_option linter.unusedVariables false
open Go.RowKit
def only (K:Nat→Bool) (w:World):World:={w with heap:=w.heap.mapIdx fun k o=>if K k then o else .cells #[] 0 (0,0)}
section
variable {K K':Nat→Bool} {w w':World} {p:Addr} {u:Value} {k:Nat}
theorem only_size:(only K w).heap.size=w.heap.size:=by simp[only]
theorem only_in (h:K k=true):(only K w).heap[k]?=w.heap[k]?:=by
 unfold only
 simp only[Array.getElem?_mapIdx,h]
 cases w.heap[k]?<;>rfl
theorem only_cell_in (h:K p.block=true):(only K w).cell? p=w.cell? p:=World.cell?_of_block (only_in h)
theorem only_cell_out (h:K p.block=false):(only K w).cell? p=none:=by
 unfold only World.cell?
 simp only[Array.getElem?_mapIdx,h]
 cases w.heap[p.block]?<;>simp
theorem only_cell (h:(only K w).cell? p=some u):K p.block=true∧w.cell? p=some u:=by
 cases hk:K p.block
 · rw[only_cell_out hk]at h;cases h
 · rw[only_cell_in hk]at h;exact⟨rfl,h⟩
theorem only_same (h:∀k,K k=true→w'.heap[k]?=w.heap[k]?) (p:Addr):(only K w').cell? p=(only K w).cell? p:=by
 cases hk:K p.block
 · rw[only_cell_out hk,only_cell_out hk]
 · rw[only_cell_in hk,only_cell_in hk];exact World.cell?_of_block (h _ hk)
theorem owns_only {base e size n:Nat} {v:Value} {xs:List Value} (h:w.ownsRow base e size v n xs) (hK:∀k,v.ownBlock=some k→K k=true):(only K w).ownsRow base e size v n xs:=by
 refine⟨h.1,?_⟩
 rcases h.2 with hn|⟨g,cap,cur,rfl,hb,hgg,rest⟩
 · exact .inl hn
 · exact .inr ⟨g,cap,cur,rfl,hb,by rw[only_in (hK g rfl)];exact hgg,rest⟩
theorem owns_same {base e size n:Nat} {v:Value} {xs:List Value} (h:w.ownsRow base e size v n xs) (hb:∀k,base≤k→k<w.heap.size→w'.heap[k]?=w.heap[k]?):w'.ownsRow base e size v n xs:=by
 refine⟨h.1,?_⟩
 rcases h.2 with hn|⟨g,cap,cur,rfl,hg,hgg,rest⟩
 · exact .inl hn
 · exact .inr ⟨g,cap,cur,rfl,hg,by rw[hb g hg (Array.getElem?_eq_some_iff.1 hgg).1];exact hgg,rest⟩
end
def Rel.Mono {α:Type} (R:Rel α):Prop:=∀w w' B cs a,R w B cs a→(∀p u,p.block<B→w.cell? p=some u→w'.cell? p=some u)→R w' B cs a
section
variable {α:Type} {R:Rel α} {size n:Nat} {w w':World} {B:Nat} {v:Value} {A:Option Addr} {l:List α}
theorem Sl.mono (hR:R.Mono) (h:Sl R size w B A n l) (hk:∀p u,p.block<B→w.cell? p=some u→w'.cell? p=some u):Sl R size w' B A n l:=
 ⟨h.1,fun i a hi=>by
  obtain⟨ad,cs,e,hb,hl,hc,hr⟩:=h.2 i a hi
  exact⟨ad,cs,e,hb,hl,fun j u hu=>hk _ _ (by rw[block_of_add];exact hb) (hc j u hu),hR _ _ _ _ _ hr hk⟩⟩
theorem HdRel.mono (hR:R.Mono) (h:HdRel R size w B v l) (hk:∀p u,p.block<B→w.cell? p=some u→w'.cell? p=some u):HdRel R size w' B v l:=by
 obtain⟨A,n,c,e,h1,h2,h3⟩:=h
 exact⟨A,n,c,e,h1,h2,h3.mono hR hk⟩
end
theorem Flat.mono {α:Type} (cells:α→List Value) (ok:α→Prop):(Flat cells ok).Mono:=fun _ _ _ _ _ h _=>h
theorem KyRel.mono:(KyRel).Mono:=Flat.mono _ _
theorem WtRel.mono:(WtRel).Mono:=Flat.mono _ _
theorem VnRel.mono:(VnRel).Mono:=Flat.mono _ _
theorem HsRel.mono:(HsRel).Mono:=fun _ _ _ _ _ ⟨v,e,hk,h⟩ hw=>⟨v,e,hk,h.mono VnRel.mono hw⟩
theorem PnRel.mono:(PnRel).Mono:=fun _ _ _ _ _ ⟨r,q,e,h1,h2,h3,h4⟩ hw=>⟨r,q,e,h1,h2,h3.mono KyRel.mono hw,h4.mono WtRel.mono hw⟩
def Inn {α:Type} (R:Rel α) (K:Nat→Bool) (w:World) (cs:List Value) (a:α):Prop:=R (only K w) w.heap.size cs a
section
variable {α:Type} {R:Rel α} {K K':Nat→Bool} {w w':World} {cs:List Value} {a:α}
theorem Inn.keep (hR:R.Kept) (h:Inn R K w cs a) (hb:∀k,K k=true→w'.heap[k]?=w.heap[k]?) (hs:w.heap.size≤w'.heap.size):Inn R K w' cs a:=
 hR.2 _ _ _ _ _ (hR.1 _ _ _ _ _ h fun p _=>only_same hb p) hs
theorem Inn.wider (hR:R.Mono) (h:Inn R K w cs a) (hK:∀k,K k=true→K' k=true):Inn R K' w cs a:=
 hR _ _ _ _ _ h fun p u _ hc=>by
  obtain⟨hk,hw⟩:=only_cell hc
  rw[only_cell_in (hK _ hk)];exact hw
theorem Inn.out (hR:R.Mono) (h:Inn R K w cs a):R w w.heap.size cs a:=hR _ _ _ _ _ h fun p u _ hc=>(only_cell hc).2
end
theorem flatten_get (k:Nat):∀(css:List (List Value)) (i r:Nat),(∀cs∈css,cs.length=k)→r<k→css.flatten[i*k+r]?=(css[i]?).bind fun cs=>cs[r]?:=by
 intro css
 induction css with
 |nil=>intro i r _ _;simp
 |cons cs css ih=>
  intro i r hl hr
  have h0:=hl cs (List.mem_cons_self ..)
  rw[List.flatten_cons]
  cases i with
  |zero=>rw[Nat.zero_mul,Nat.zero_add,List.getElem?_append_left (by omega)];rfl
  |succ i=>
   have e:(i+1)*k+r=k+(i*k+r):=by rw[Nat.succ_mul];omega
   rw[e,List.getElem?_append_right (by omega),h0,Nat.add_sub_cancel_left,ih i r (fun c hc=>hl c (List.mem_cons_of_mem _ hc)) hr]
   rfl
def RowR {α:Type} (R:Rel α) (E size base:Nat) (K:Nat→Bool) (w:World) (v:Value) (l:List α):Prop:=
 ∃css:List (List Value),w.ownsRow base E size v l.length css.flatten∧css.length=l.length∧(∀cs∈css,cs.length=size)∧∀(i:Nat) (cs:List Value) (a:α),css[i]?=some cs→l[i]?=some a→Inn R K w cs a
section
variable {α:Type} {R:Rel α} {E size base:Nat} {K K':Nat→Bool} {w w':World} {v:Value} {l:List α}
theorem RowR.nil (w:World):RowR R E size base K w (.slice none 0 0) []:=⟨[],World.ownsRow_nil _ _ _ _,rfl,fun cs h=>by simp at h,fun i cs a h=>by simp at h⟩
theorem RowR.form (h:RowR R E size base K w v l):∃A c,v=.slice A l.length c∧l.length≤c∧c≤maxLen:=by
 obtain⟨css,ho,_⟩:=h
 exact own_form ho
theorem RowR.lt (h:RowR R E size base K w v l):∀k,v.ownBlock=some k→base≤k∧k<w.heap.size:=by
 obtain⟨css,ho,_⟩:=h
 exact ho.lt
theorem RowR.held (hR:R.Mono) (hsz:0<size) (h:RowR R E size base K w v l) (hK:∀k,K k=true→K' k=true) (hv:∀k,v.ownBlock=some k→K' k=true):HdRel R size (only K' w) w.heap.size v l:=by
 obtain⟨css,ho,hlen,hl,hc⟩:=h
 obtain⟨A,c,rfl,h1,h2⟩:=own_form ho
 refine⟨A,_,c,rfl,h1,h2,rfl,fun i a hi=>?_⟩
 have hlt:=(List.getElem?_eq_some_iff.1 hi).1
 have hr:=Reads.of_own (owns_only ho hv)
 obtain⟨ad,e,hb,hcell⟩:=hr.2 (by omega)
 have hcs:css[i]?=some css[i]:=List.getElem?_eq_getElem (by omega)
 have hm:css[i]∈css:=List.getElem_mem _
 refine⟨ad,css[i],e,by rw[only_size]at hb;exact hb,hl _ hm,fun j u hj=>hcell _ u ?_,(hc i _ a hcs hi).wider hR hK⟩
 have hj':=(List.getElem?_eq_some_iff.1 hj).1
 rw[flatten_get size css i j hl (by rw[←hl _ hm];exact hj'),hcs]
 exact hj
theorem RowR.sl (hR:R.Mono) (hsz:0<size) (h:RowR R E size base K w v l):HdRel R size w w.heap.size v l:=
 (h.held (K':=fun _=>true) hR hsz (fun _ _=>rfl) fun _ _=>rfl).mono hR fun p u _ hc=>(only_cell hc).2
theorem RowR.same (hR:R.Kept) (hRm:R.Mono) (h:RowR R E size base K w v l) (hs:w.heap.size≤w'.heap.size) (hb:∀k,base≤k→k<w.heap.size→w'.heap[k]?=w.heap[k]?) (hK:∀k,K k=true→base≤k∧k<w.heap.size∧K' k=true):RowR R E size base K' w' v l:=by
 obtain⟨css,ho,hlen,hl,hc⟩:=h
 exact⟨css,owns_same ho hb,hlen,hl,fun i cs a h1 h2=>((hc i cs a h1 h2).keep hR (fun k hk=>hb k (hK k hk).1 (hK k hk).2.1) hs).wider hRm fun k hk=>(hK k hk).2.2⟩
end
def freeB (base size:Nat) (v1 v2:Value):Nat→Bool:=fun k=>decide (base≤k)&&decide (k<size)&&decide (v1.ownBlock≠some k)&&decide (v2.ownBlock≠some k)
theorem freeB_iff {base size k:Nat} {v1 v2:Value}:freeB base size v1 v2 k=true↔base≤k∧k<size∧v1.ownBlock≠some k∧v2.ownBlock≠some k:=by
 unfold freeB
 simp only[Bool.and_eq_true,decide_eq_true_eq,and_assoc]
def Pair {α:Type} (R:Rel α) (E size base:Nat) (w:World) (v1 v2:Value) (l1 l2:List α):Prop:=
 RowR R E size base (freeB base w.heap.size v1 v2) w v1 l1∧RowR R E size base (freeB base w.heap.size v1 v2) w v2 l2∧Dis v1 v2
section
variable {α:Type} {R:Rel α} {E size base:Nat} {w w':World} {v1 v2:Value} {l1 l2:List α}
theorem freeB_symm (base size:Nat) (v1 v2:Value):freeB base size v1 v2=freeB base size v2 v1:=by
 funext k
 rw[Bool.eq_iff_iff,freeB_iff,freeB_iff]
 exact⟨fun⟨a,b,c,d⟩=>⟨a,b,d,c⟩,fun⟨a,b,c,d⟩=>⟨a,b,d,c⟩⟩
theorem Pair.nil (w:World):Pair R E size base w (.slice none 0 0) (.slice none 0 0) [] []:=⟨RowR.nil _,RowR.nil _,Dis.nil _⟩
theorem Pair.symm (h:Pair R E size base w v1 v2 l1 l2):Pair R E size base w v2 v1 l2 l1:=by
 obtain⟨h1,h2,h3⟩:=h
 rw[freeB_symm]at h1 h2
 exact⟨h2,h1,h3.symm⟩
theorem Pair.same (hR:R.Kept) (hRm:R.Mono) (h:Pair R E size base w v1 v2 l1 l2) (hs:w.heap.size≤w'.heap.size) (hb:∀k,base≤k→k<w.heap.size→w'.heap[k]?=w.heap[k]?):Pair R E size base w' v1 v2 l1 l2:=by
 obtain⟨h1,h2,h3⟩:=h
 have hK:∀k,freeB base w.heap.size v1 v2 k=true→base≤k∧k<w.heap.size∧freeB base w'.heap.size v1 v2 k=true:=fun k hk=>by
  rw[freeB_iff]at*
  exact⟨hk.1,hk.2.1,hk.1,by omega,hk.2.2⟩
 exact⟨h1.same hR hRm hs hb hK,h2.same hR hRm hs hb hK,h3⟩
theorem Pair.below (hR:R.Kept) (hRm:R.Mono) (h:Pair R E size base w v1 v2 l1 l2) (hb:Below w.heap.size w w'):Pair R E size base w' v1 v2 l1 l2:=h.same hR hRm hb.size fun k _ hk=>hb.block k hk
theorem Pair.far (hR:R.Kept) (hRm:R.Mono) (h:Pair R E size base w v1 v2 l1 l2) {p:Addr} (hp:p.block<base) (u:Value):Pair R E size base (w.setCell p u) v1 v2 l1 l2:=
 h.same hR hRm (by simp[World.setCell]) fun k hk _=>Below.heap_setCell _ _ _ _ (by omega)
theorem Pair.own1 (hR:R.Kept) (hRm:R.Mono) (h:Pair R E size base w v1 v2 l1 l2):∃xs,w.ownsRow base E size v1 l1.length xs∧
 ∀(cs:List Value) (a:α) (w':World) (v':Value),cs.length=size→Inn R (freeB base w.heap.size v1 v2) w cs a→w'.ownsRow base E size v' (l1.length+1) (xs++cs)→w.grownBy w' v1.ownBlock→(v'.ownBlock=v1.ownBlock∨v'.ownBlock=some w.heap.size)→
  Pair R E size base w' v' v2 (l1++[a]) l2:=by
 obtain⟨⟨css,ho,hlen,hl,hc⟩,⟨ds,ho2,hlen2,hl2,hc2⟩,hd⟩:=h
 refine⟨css.flatten,ho,fun cs a w' v' hcs hin hown hg hat=>?_⟩
 have hK:∀k,freeB base w.heap.size v1 v2 k=true→freeB base w'.heap.size v' v2 k=true:=fun k hk=>by
  rw[freeB_iff]at*
  have:=hg.size
  refine⟨hk.1,by omega,fun e=>?_,hk.2.2.2⟩
  rcases hat with e2|e2
  · rw[e2]at e;exact hk.2.2.1 e
  · rw[e2]at e;injection e with e;omega
 have hB:∀k,freeB base w.heap.size v1 v2 k=true→w'.heap[k]?=w.heap[k]?:=fun k hk=>by
  rw[freeB_iff]at hk
  exact hg.block k hk.2.1 (fun e=>hk.2.2.1 e.symm)
 have up:∀{cs:List Value} {a:α},Inn R (freeB base w.heap.size v1 v2) w cs a→Inn R (freeB base w'.heap.size v' v2) w' cs a:=fun hi=>(hi.keep hR hB hg.size).wider hRm hK
 have hlt:=ho2.lt
 refine⟨⟨css++[cs],?_,by simp[hlen],?_,?_⟩,⟨ds,?_,hlen2,hl2,fun i cs a h1 h2=>up (hc2 i cs a h1 h2)⟩,?_⟩
 · rw[List.length_append,List.flatten_append]
   simpa using hown
 · intro c hc'
   rcases List.mem_append.1 hc' with h1|h1
   · exact hl c h1
   · simp only[List.mem_cons,List.not_mem_nil,or_false]at h1
     rw[h1];exact hcs
 · intro i c b h1 h2
   by_cases hi:i<l1.length
   · rw[List.getElem?_append_left (by omega)]at h1 h2
     exact up (hc i c b h1 h2)
   · have hi2:i=l1.length:=by
        have:=(List.getElem?_eq_some_iff.1 h2).1
        rw[List.length_append,List.length_cons,List.length_nil]at this
        omega
     subst hi2
     rw[List.getElem?_append_right (Nat.le_refl _)]at h2
     rw[←hlen,List.getElem?_append_right (Nat.le_refl _)]at h1
     simp only[Nat.sub_self,List.getElem?_cons_zero,Option.some.injEq]at h1 h2
     subst h1 h2
     exact up hin
 · refine ho2.kept hg ?_
   cases e:v2.ownBlock with
   |none=>exact .inl rfl
   |some k=>exact .inr fun e2=>hd k e2.symm e
 · intro k e e2
   rcases hat with e3|e3
   · exact hd k (e3.symm.trans e) e2
   · have:=(hlt k e2).2
     rw[e3]at e;injection e;omega
theorem Pair.form1 (h:Pair R E size base w v1 v2 l1 l2):∃A c,v1=.slice A l1.length c∧l1.length≤c∧c≤maxLen:=h.1.form
theorem Pair.ne1 (h:Pair R E size base w v1 v2 l1 l2) {g:Nat} (hg:g<base):some g≠v1.ownBlock:=fun e=>by have:=(h.1.lt g e.symm).1;omega
theorem Pair.fresh (h:Pair R E size base w v1 v2 l1 l2) (hs:w.heap.size≤w'.heap.size) {b:Nat} (hb:w.heap.size≤b) (hbb:base≤b):∀k,b≤k→k<w'.heap.size→freeB base w'.heap.size v1 v2 k=true:=fun k hk hk2=>by
 rw[freeB_iff]
 refine⟨by omega,hk2,fun e=>?_,fun e=>?_⟩
 · have:=(h.1.lt k e).2;omega
 · have:=(h.2.1.lt k e).2;omega
end
theorem OwnL.inn {α:Type} {f:α→List Value} {ok:α→Prop} {E size b:Nat} {K:Nat→Bool} {w:World} {v:Value} {l:List α} (hk:0<size) (hf:∀a,(f a).length=size) (h:OwnL f E size b w v l) (hok:∀a∈l,ok a) (hK:∀k,b≤k→k<w.heap.size→K k=true):
 HdRel (Flat f ok) size (only K w) w.heap.size v l:=by
 have h':OwnL f E size b (only K w) v l:=owns_only h fun k e=>hK k (h.lt k e).1 (h.lt k e).2
 have:=h'.sl hk hf hok
 rw[only_size]at this
 exact this
def rng (a b:Nat):Nat→Bool:=fun k=>decide (a≤k)&&decide (k<b)
theorem rng_iff {a b k:Nat}:rng a b k=true↔a≤k∧k<b:=by unfold rng;simp only[Bool.and_eq_true,decide_eq_true_eq]
theorem Pair.held {α:Type} {R:Rel α} {E size base:Nat} {w:World} {v1 v2:Value} {l1 l2:List α} (hRm:R.Mono) (hsz:0<size) (h:Pair R E size base w v1 v2 l1 l2):
 HdRel R size (only (rng base w.heap.size) w) w.heap.size v1 l1∧HdRel R size (only (rng base w.heap.size) w) w.heap.size v2 l2:=
 ⟨h.1.held hRm hsz (fun k hk=>by rw[freeB_iff]at hk;rw[rng_iff];exact⟨hk.1,hk.2.1⟩) fun k e=>rng_iff.2 (h.1.lt k e),
  h.2.1.held hRm hsz (fun k hk=>by rw[freeB_iff]at hk;rw[rng_iff];exact⟨hk.1,hk.2.1⟩) fun k e=>rng_iff.2 (h.2.1.lt k e)⟩
theorem HdRel.stay {α:Type} {R:Rel α} {size N:Nat} {K:Nat→Bool} {w w':World} {v:Value} {l:List α} (hR:R.Kept) (h:HdRel R size (only K w) N v l) (hb:∀k,K k=true→w'.heap[k]?=w.heap[k]?):HdRel R size (only K w') N v l:=h.keep hR fun p _=>only_same hb p
theorem HdRel.out {α:Type} {R:Rel α} {size N:Nat} {K:Nat→Bool} {w:World} {v:Value} {l:List α} (hR:R.Kept) (hRm:R.Mono) (h:HdRel R size (only K w) N v l) (hN:N≤w.heap.size):HdRel R size w w.heap.size v l:=
 (h.mono hRm fun p u _ hc=>(only_cell hc).2).more hR hN
end Go.Proofs.YthdmanadhbpogaaGreat
/- Records as plain Lean data; how their cells read; a record that came in. -/
namespace Go.Proofs.YthdmanadhbpogaaGreat
set_option maxHeartbeats 1000000
set_option maxRecDepth 100000
set_option linter.unusedVariables false
open Go.ChangeShapes Go.WideShapes Go.RowKit
structure Rc where
 k:Int
 t:Tx
 s:Sp
 pv:Sp
 cm:Bool
 n:Int
 pt:Nat
 rd:List ByteArray
 wr:List Wt
 ps:List Int
 pr:List Wt
 st:Stt
abbrev Rc.arr (r:Rc) (v1 v2 v3 v4 v5 v6:Value):Array Value:=#[.int .i64 r.k,.int .i64 r.t.c,.int .i64 r.t.l,.int .i64 r.t.s,.int .i64 r.s.w,.int .i64 r.s.l,.int .i64 r.s.n,.int .i64 r.pv.w,.int .i64 r.pv.l,.int .i64 r.pv.n,.bool r.cm,.int .i64 r.n,.float .f64 r.pt,v1,v2,v3,v4,.int .i64 r.st.r.id,.int .i64 r.st.r.ep,.float .f64 r.st.r.lo,.float .f64 r.st.r.hi,.int .i64 r.st.f.w,.int .i64 r.st.f.l,.int .i64 r.st.f.n,.int .i64 r.st.c.w,.int .i64 r.st.c.l,.int .i64 r.st.c.n,v5,v6]
def nmCells (n:Int):List Value:=[.int .i64 n]
abbrev NmRel:Rel Int:=Flat nmCells i64ok
theorem NmRel.kept:(NmRel).Kept:=Flat.kept _ _
theorem NmRel.mono:(NmRel).Mono:=Flat.mono _ _
theorem nm_one (a:Int):∀u∈nmCells a,u.oneCell'=true:=by
 intro u hu
 simp only[nmCells,List.mem_cons,List.not_mem_nil,or_false]at hu
 subst hu;rfl
theorem Sl.nm {w:World} {B n:Nat} {A:Option Addr} {l:List Int} (h:Sl NmRel 1 w B A n l) {k:Nat} (hk:k<n):∃ad a,A=some ad∧l[k]?=some a∧(ad.add k).block<B∧i64ok a∧w.cell? (ad.add k)=some (.int .i64 a):=by
 obtain⟨ad,cs,a,e,hl,hb,_,hc,rfl,hok⟩:=h.at_ hk
 have c0:=hc 0 _ rfl
 rw[Nat.mul_one,Nat.add_zero]at c0
 exact⟨ad,a,e,hl,by rw[block_of_add];exact hb,hok,c0⟩
structure Hd where
 A:Option Addr
 n:Nat
 c:Nat
abbrev Hd.v (h:Hd):Value:=.slice h.A h.n h.c
abbrev Hd.nil:Hd:=⟨none,0,0⟩
structure Hds where
 a:Hd
 b:Hd
 c:Hd
 d:Hd
 e:Hd
 f:Hd
abbrev Rc.vals (r:Rc) (h:Hds):Array Value:=r.arr (.slice h.a.A h.a.n h.a.c) (.slice h.b.A h.b.n h.b.c) (.slice h.c.A h.c.n h.c.c) (.slice h.d.A h.d.n h.d.c) (.slice h.e.A h.e.n h.e.c) (.slice h.f.A h.f.n h.f.c)
structure RcIn (w:World) (r:Rc) (h:Hds):Prop where
 rd:Sl KyRel 1 w w.heap.size h.a.A h.a.n r.rd
 wr:Sl WtRel 4 w w.heap.size h.b.A h.b.n r.wr
 ps:Sl NmRel 1 w w.heap.size h.c.A h.c.n r.ps
 pr:Sl WtRel 4 w w.heap.size h.d.A h.d.n r.pr
 hs:Sl HsRel 2 w w.heap.size h.e.A h.e.n r.st.h
 pn:Sl PnRel 8 w w.heap.size h.f.A h.f.n r.st.p
 na:h.a.n≤maxLen
 nb:h.b.n≤maxLen
 nc:h.c.n≤maxLen
 nd:h.d.n≤maxLen
 ne:h.e.n≤maxLen
 nf:h.f.n≤maxLen
theorem RcIn.below {w w':World} {r:Rc} {h:Hds} (i:RcIn w r h) (hb:Below w.heap.size w w'):RcIn w' r h:=
 ⟨(i.rd.below KyRel.kept hb).more KyRel.kept hb.size,(i.wr.below WtRel.kept hb).more WtRel.kept hb.size,(i.ps.below NmRel.kept hb).more NmRel.kept hb.size,(i.pr.below WtRel.kept hb).more WtRel.kept hb.size,
   (i.hs.below HsRel.kept hb).more HsRel.kept hb.size,(i.pn.below PnRel.kept hb).more PnRel.kept hb.size,i.na,i.nb,i.nc,i.nd,i.ne,i.nf⟩
structure Rc.ok (r:Rc):Prop where
 k:i64ok r.k
 t:r.t.ok
 s:r.s.ok
 pv:r.pv.ok
 n:i64ok r.n
 pt:r.pt<18446744073709551616
 rg:r.st.r.ok
 fl:r.st.f.ok
 cl:r.st.c.ok
section
variable {H:Type} {enc:TypeId×Value→H} {w:World}
theorem opn_nms {v:Value} (h:Opn enc Tryz.prog w 29 [v]):∃l,HdRel NmRel 1 w w.heap.size v l:=
 h.slice NmRel 1 (by omega) Tryz.underlying29 (by kernel_rfl) fun cs hl ho=>by
  match cs,hl with
  |[c0],_=>
   obtain⟨s,rfl,hs⟩:=ho.int Tryz.underlying3
   exact⟨s,rfl,hs⟩
theorem open_nms {r:Reach} {b0:Nat} {v:Value} {d:DataW H} {ps:List MemPlace} (hv:Value.okWide Tryz.prog w r b0 29 v) (h:DataW.Trod enc Tryz.prog w 0 (fun _=>true) true 29 v d ps) (hs:Szd Tryz.prog 29 d):
 ∃A n c l,v=.slice A n c∧n≤c∧c≤maxLen∧Sl NmRel 1 w w.heap.size A n l:=by
 obtain⟨A,n,c,rfl⟩:=okWide_slice Tryz.underlying29 hv
 obtain⟨l,A',n',c',e,h1,h2,h3⟩:=opn_nms (Opn.of h hs)
 injection e with e1 e2 e3
 subst e1 e2 e3
 exact⟨_,_,_,l,rfl,h1,h2,h3⟩
end
end Go.Proofs.YthdmanadhbpogaaGreat
/- The walks of raceref's copies: Strings, CopyWrites, CopyPending, CopyPendings, CopyHistories, CopyState. -/
namespace Go.Proofs.YthdmanadhbpogaaGreat
set_option maxHeartbeats 4000000
set_option maxRecDepth 100000
set_option linter.unusedVariables false
open Go.RowKit Fl
attribute [local go_sem] run_store_float
def CopyRel {α:Type} (f:α→List Value) (E size:Nat) (l:List α) (w:World) (v i:Value) (wr:World):Prop:=∃k:Nat,k≤l.length∧i=.int .i64 (k:Int)∧OwnL f E size w.heap.size wr v (l.take k)∧Below w.heap.size w wr
theorem strings_any (A:Option Addr) (n c:Nat) (l:List ByteArray) (w:World) (h:Sl KyRel 1 w w.heap.size A n l) (hn:n≤1000000):
 Calls Tryz.prog 37 #[.slice A n c] w fun e w'=>∃v,e=.returned v∧OwnL keyCells 9 1 w.heap.size w' v l∧Below w.heap.size w w':=by
 obtain⟨i0,hi0,hz0,hz1,hz2⟩:=info_parts ky_info
 have hl:=h.1
 have hle:l.length≤n:=by omega
 have hge:n≤l.length:=by omega
 clear hl
 go_enter Tryz.func37,Tryz.ntmps37
 go_wp2
 go_loopw [3,4] (fun v i wr=>CopyRel keyCells 9 1 l w v i wr) (fun _ i _=>n-(intOf i).toNat)
 case atStart=>exact⟨0,by omega,rfl,OwnL.nil _,Below.refl _ _⟩
 case round=>
  obtain⟨k,hk,rfl,ho,hb⟩:=hrel
  have hzz:=hb.size
  by_cases hlt:k<n
  · obtain⟨ad,a,rfl,ha,hbk,hok,c0⟩:=(h.below KyRel.kept hb).ky hlt
    have hd1:decide ((k:Int)<(n:Int))=true:=by simp;omega
    have hk0:(0:Int)≤(k:Int):=by omega
    have hk1:(k:Int)<(n:Int):=by omega
    have HS:=Lib.hid (show l.take (k+1)=l.take k++[a] by rw[List.take_add_one,ha];rfl)
    have hln:(l.take k).length≤1000000:=by simp;omega
    clear ha
    obtain⟨A1,q1,rfl,hq1,hq1m⟩:=ho.form
    generalize l.take k=ks at*
    have hX:Below wr.heap.size wr (wr.alloc (.cells (keyCells a).toArray 9)):=(Below.refl _ _).alloc (Nat.le_refl _) _
    have hown0:=ho.below hX
    have hrd0:=reads_new' wr 9 (keyCells a) 1 rfl
    go_wp2_with (first
        |(at_builtin
          refine wpList_append_any _ rfl (.tmp 11) (.tmp 16) _ rfl w.heap.size 9 i0 _ 1 16 Tryz.underlying27 hi0 hz0 hz1 hz2 rfl (by omega) (.slice A1 ks.length q1) _ (ks.flatMap keyCells) (by rfl) hown0 _ (some ⟨wr.heap.size,0,none⟩) 1 1 (keyCells a) (by rfl)
           hrd0 (ky_one a) (by unfold maxLen;omega) (by omega) (by simp;omega) ?_
          intro v3 w3 hown3 hg3 hat3
          obtain⟨A3,q3,rfl,hq3,hq3m⟩:=own_form hown3))
    have hp:=OwnL.push a hown3
    have hbw:=(hb.trans (hX.mono hzz)).grown hg3 (by simp;omega) (fun q hq=>(hown0.lt q hq).1)
    go_roundw
    case rel=>
        refine⟨k+1,by omega,by go_num,?_,hbw⟩
        rw[HS.out]
        exact hp
    case measure=>simp[intOf];omega
  · have hd1:decide ((k:Int)<(n:Int))=false:=by simp;omega
    rw[List.take_of_length_le (by omega)]at ho
    obtain⟨A1,q1,rfl,hq1,hq1m⟩:=ho.form
    go_wp2
    go_ret
    exact⟨_,rfl,ho,hb⟩
theorem copyW_any (A:Option Addr) (n c:Nat) (l:List Wt) (w:World) (h:Sl WtRel 4 w w.heap.size A n l) (hn:n≤1000000):
 Calls Tryz.prog 38 #[.slice A n c] w fun e w'=>∃v,e=.returned v∧OwnL Wt.cells 60 4 w.heap.size w' v l∧Below w.heap.size w w':=by
 obtain⟨i0,hi0,hz0,hz1,hz2⟩:=info_parts wt_info
 have hl:=h.1
 have hle:l.length≤n:=by omega
 have hge:n≤l.length:=by omega
 clear hl
 go_enter Tryz.func38,Tryz.ntmps38
 go_wp2
 go_loopw [3,4] (fun v i wr=>CopyRel Wt.cells 60 4 l w v i wr) (fun _ i _=>n-(intOf i).toNat)
 case atStart=>exact⟨0,by omega,rfl,OwnL.nil _,Below.refl _ _⟩
 case round=>
  obtain⟨k,hk,rfl,ho,hb⟩:=hrel
  have hzz:=hb.size
  by_cases hlt:k<n
  · obtain⟨ad,a,rfl,ha,hbk,hok,c0,c1,c2,c3⟩:=(h.below WtRel.kept hb).wt hlt
    have hd1:decide ((k:Int)<(n:Int))=true:=by simp;omega
    have hk0:(0:Int)≤(k:Int):=by omega
    have hk1:(k:Int)<(n:Int):=by omega
    have HS:=Lib.hid (show l.take (k+1)=l.take k++[a] by rw[List.take_add_one,ha];rfl)
    have hln:(l.take k).length≤1000000:=by simp;omega
    clear ha
    obtain⟨A1,q1,rfl,hq1,hq1m⟩:=ho.form
    generalize l.take k=ks at*
    have hX:Below wr.heap.size wr (wr.alloc (.cells a.cells.toArray 60)):=(Below.refl _ _).alloc (Nat.le_refl _) _
    have hown0:=ho.below hX
    have hrd0:=reads_new' wr 60 a.cells 4 rfl
    go_wp2_with (first
        |(at_builtin
          refine wpList_append_any _ rfl (.tmp 11) (.tmp 16) _ rfl w.heap.size 60 i0 _ 4 48 Tryz.underlying28 hi0 hz0 hz1 hz2 rfl (by omega) (.slice A1 ks.length q1) _ (ks.flatMap Wt.cells) (by rfl) hown0 _ (some ⟨wr.heap.size,0,none⟩) 1 1 a.cells (by rfl)
           hrd0 (wt_one a) (by unfold maxLen;omega) (by omega) (by simp;omega) ?_
          intro v3 w3 hown3 hg3 hat3
          obtain⟨A3,q3,rfl,hq3,hq3m⟩:=own_form hown3))
    have hp:=OwnL.push a hown3
    have hbw:=(hb.trans (hX.mono hzz)).grown hg3 (by simp;omega) (fun q hq=>(hown0.lt q hq).1)
    go_roundw
    case rel=>
        refine⟨k+1,by omega,by go_num,?_,hbw⟩
        rw[HS.out]
        exact hp
    case measure=>simp[intOf];omega
  · have hd1:decide ((k:Int)<(n:Int))=false:=by simp;omega
    rw[List.take_of_length_le (by omega)]at ho
    obtain⟨A1,q1,rfl,hq1,hq1m⟩:=ho.form
    go_wp2
    go_ret
    exact⟨_,rfl,ho,hb⟩
theorem copyP_any (p:Pn) (A1 A2:Option Addr) (n1 n2 c1 c2:Nat) (w:World) (hr:Sl KyRel 1 w w.heap.size A1 n1 p.r) (hw:Sl WtRel 4 w w.heap.size A2 n2 p.w) (hn1:n1≤1000000) (hn2:n2≤1000000):
 Calls Tryz.prog 150 #[p.val (.slice A1 n1 c1) (.slice A2 n2 c2)] w (ClonePost p w):=by
 have hX:Below w.heap.size w ((w.alloc (.cells (p.arr (.slice A1 n1 c1) (.slice A2 n2 c2)) 96)).alloc (.cells zeroPn 96)):=by go_grown
 have i1:Blk ((w.alloc (.cells (p.arr (.slice A1 n1 c1) (.slice A2 n2 c2)) 96)).alloc (.cells zeroPn 96)) w.heap.size 96 (p.arr (.slice A1 n1 c1) (.slice A2 n2 c2)):=(Blk.new _ _ _).alloc _
 have i2:Blk ((w.alloc (.cells (p.arr (.slice A1 n1 c1) (.slice A2 n2 c2)) 96)).alloc (.cells zeroPn 96)) (w.heap.size+1) 96 zeroPn:=Blk.new' _ _ (by simp)
 have hT:=fun w' (hb:Below w.heap.size w w')=>strings_any A1 n1 c1 p.r w' ((hr.below KyRel.kept hb).more KyRel.kept hb.size) hn1
 have hW:=fun w' (hb:Below w.heap.size w w')=>copyW_any A2 n2 c2 p.w w' ((hw.below WtRel.kept hb).more WtRel.kept hb.size) hn2
 go_enter Tryz.func150,Tryz.ntmps150
 go_wp2
 generalize ((w.alloc (.cells (p.arr (.slice A1 n1 c1) (.slice A2 n2 c2)) 96)).alloc (.cells zeroPn 96))=w0 at*
 have l1:=i1.lt
 have l2:=i2.lt
 refine wp_region_held_drew (S:=fun w'=>Blk w' w.heap.size 96 (p.arr (.slice A1 n1 c1) (.slice A2 n2 c2))) (by kernel_rfl) i1.drew (fun hHeld=>?_)
 refine tc 0 3 ?_
 go_frame
 refine wpAnyH_take (i:=1) (oi:=⟨some 4,_,_,_,_,_⟩) rfl (by kernel_rfl) (by kernel_rfl) (by kernel_rfl) (fun _ _ _ h=>h) (yieldsIf_load_mid (by kernel_rfl) _ _ rfl w.heap.size 0 rfl [.int .i64 p.t.c,.int .i64 p.t.l,.int .i64 p.t.s] _ (fun W hSw=>Blk.range hSw 0 _ (three_of rfl rfl rfl)) rfl rfl (by kernel_rfl)) hHeld ?_
 go_frame
 refine tc 2 5 ?_
 go_frame
 refine wpAnyH_take (i:=3) (oi:=⟨some 6,_,_,_,_,_⟩) rfl (by kernel_rfl) (by kernel_rfl) (by kernel_rfl) (fun _ _ _ h=>h) (yieldsIf_load_mid (by kernel_rfl) _ _ rfl w.heap.size 3 rfl [.int .i64 p.s.w,.int .i64 p.s.l,.int .i64 p.s.n] _ (fun W hSw=>Blk.range hSw 3 _ (three_of rfl rfl rfl)) rfl rfl (by kernel_rfl)) hHeld ?_
 go_frame
 refine tc 4 7 ?_
 go_frame
 refine ts 5 8 rfl (v:=.slice A1 n1 c1) (fun W hSw=>by have z:W.cell? ⟨w.heap.size,6,none⟩=some (.slice A1 n1 c1):=Blk.cell hSw 6;clear hSw;go_simp) ?_
 go_frame
 refine tc 7 10 ?_
 go_frame
 refine ts 8 11 rfl (v:=.slice A2 n2 c2) (fun W hSw=>by have z:W.cell? ⟨w.heap.size,7,none⟩=some (.slice A2 n2 c2):=Blk.cell hSw 7;clear hSw;go_simp) ?_
 go_frame
 refine tr 6 rfl fun K hK=>?_
 go_simp
 refine(hT _ hX.drew).mono ?_
 rintro e w3 ⟨v3,rfl,o3,hb3⟩
 have j1:=i1.drew.below hb3 l1
 have j2:=i2.drew.below hb3 l2
 have hY:Below w.heap.size w w3:=hX.drew.trans (hb3.mono hX.size)
 have o3:OwnL _ _ _ (w.heap.size+2) _ _ _:=o3.mono_base (by show w.heap.size+2≤w0.heap.size;omega)
 obtain⟨A3,q3,rfl,hq3,hq3m⟩:=o3.form
 clear hb3 i1 i2 l1 l2 hHeld
 refine hK.out _ _ j1 (fun hHeld=>?_)
 clear hK K
 try go_frame
 refine tr 9 rfl fun K hK=>?_
 go_simp
 refine(hW _ hY).mono ?_
 rintro e w4 ⟨v4,rfl,o4,hb4⟩
 have k1:=j1.below hb4 j1.lt
 have k2:=j2.below hb4 j2.lt
 have hZ:Below w.heap.size w w4:=hY.trans (hb4.mono hY.size)
 have hz3:=j2.lt
 have o4:OwnL _ _ _ (w.heap.size+2) _ _ _:=o4.mono_base (by omega)
 have o3:=o3.below hb4
 obtain⟨A4,q4,rfl,hq4,hq4m⟩:=o4.form
 clear hb4 j1 j2 hHeld
 refine hK.out _ _ k1 (fun hHeld=>?_)
 clear hK K
 try go_frame
 refine tc 10 13 ?_
 go_frame
 refine wpAnyH_store_rowE (i:=11) (by kernel_rfl) rfl rfl _ _ _ rfl (w.heap.size+1) (p.arr (.slice A3 p.r.length q3) (.slice A4 p.w.length q4)) (by kernel_rfl) (by kernel_rfl) _ _ k2 (by kernel_rfl) rfl (by kernel_rfl) (k1.setRow_far _ (by omega)) ?_
 intro w5 hw5
 go_frame
 refine td ?_
 go_wp2
 refine post_cell rfl (by kernel_rfl) (by rw[hw5];exact k2.setRow _) rfl rfl (by kernel_rfl) ?_
 subst hw5
 exact⟨_,_,rfl,(o3.setRow_far (by omega) _).mono_base (by omega),(o4.setRow_far (by omega) _).mono_base (by omega),below_setRow hZ (by omega) _⟩
theorem hs_infoC:(Tryz.prog.info? 94).map (fun i=>(i.zero,i.size,i.bytes))=some (some (.agg #[.string ⟨#[]⟩,.slice none 0 0]),2,40):=by kernel_rfl
abbrev Pn.cl (p:Pn) (r q:Value):List Value:=[.int .i64 p.t.c,.int .i64 p.t.l,.int .i64 p.t.s,.int .i64 p.s.w,.int .i64 p.s.l,.int .i64 p.s.n,r,q]
def Single {α:Type} (R:Rel α) (E size base:Nat) (w:World) (v:Value) (l:List α):Prop:=Pair R E size base w v (.slice none 0 0) l []
def CopiesRel {α:Type} (R:Rel α) (E size:Nat) (l:List α) (w:World) (v i:Value) (wr:World):Prop:=∃k:Nat,k≤l.length∧i=.int .i64 (k:Int)∧Single R E size w.heap.size wr v (l.take k)∧Below w.heap.size w wr
def CopiesPost {α:Type} (R:Rel α) (E size:Nat) (l:List α) (w:World):Ending→World→Prop:=fun e w'=>∃v,e=.returned v∧Single R E size w.heap.size w' v l∧Below w.heap.size w w'
def CopyV (a:Hs) (W:World) (i:Value) (wr:World):Prop:=∃(k:Nat) (v:Value),k≤a.vs.length∧i=.int .i64 (k:Int)∧Blk wr W.heap.size 94 #[.string a.key,v]∧OwnL Vn.cells 130 6 (W.heap.size+1) wr v (a.vs.take k)∧Below W.heap.size W wr
theorem copyHs_any (A:Option Addr) (n c:Nat) (l:List Hs) (w:World) (h:Sl HsRel 2 w w.heap.size A n l) (hQ:SmallH l):
 Calls Tryz.prog 86 #[.slice A n c] w (CopiesPost HsRel 94 2 l w):=by
 obtain⟨i1,hi1,iz0,iz1,iz2⟩:=info_parts hs_infoC
 obtain⟨i0,hi0,hz0,hz1,hz2⟩:=info_parts vn_info
 have hl:=h.1
 have hge:n≤l.length:=by omega
 have hle:l.length≤n:=by omega
 have hn:n≤1000000:=Nat.le_trans hge hQ.1
 clear hl
 go_enter Tryz.func86,Tryz.ntmps86
 go_wp2
 go_loopw [3,4] (fun v i wr=>CopiesRel HsRel 94 2 l w v i wr) (fun _ i _=>n-(intOf i).toNat)
 case atStart=>exact⟨0,by omega,rfl,Pair.nil _,Below.refl _ _⟩
 case round=>
  obtain⟨k,hk,rfl,hp,hb⟩:=hrel
  have hzz:=hb.size
  have hlen:(l.take k).length≤1000000:=Nat.le_trans (List.length_take_le k l) (by omega)
  obtain⟨Av,qv,rfl,hqv,hqvm⟩:=Pair.form1 hp
  by_cases hlt:k<n
  · obtain⟨ad,a,A1,n1,c1,rfl,ha,hbk,hkz,d0,d1,hn1,hc1,hs1⟩:=((h.below HsRel.kept hb).more HsRel.kept hb.size).hs hlt
    have hd1:decide ((k:Int)<(n:Int))=true:=by simp;omega
    have hk0:(0:Int)≤(k:Int):=by omega
    have hk1:(k:Int)<(n:Int):=by omega
    have hsm:=hQ.2 a (List.mem_of_getElem? ha)
    have hl1:=hs1.1
    have hsm1:n1≤1000000:=by omega
    have hge1:n1≤a.vs.length:=by omega
    have hle1:a.vs.length≤n1:=by omega
    have HS:=Lib.hid (show l.take (k+1)=l.take k++[a] by rw[List.take_add_one,ha];rfl)
    have K1:=Lib.hid (fun k hk=>Sl.all_ok hs1 k hk:∀k∈a.vs,Vn.ok k)
    have HA:=Lib.hid ha
    clear ha hsm hl1
    generalize l.take k=L at*
    have i5:=Blk.new wr 94 #[.string a.key,.slice none 0 0]
    have hX0:Below wr.heap.size wr (wr.alloc (.cells #[.string a.key,.slice none 0 0] 94)):=by go_grown
    go_wp2
    obtain⟨wo,rfl⟩:∃wo,wo=wr:=⟨_,rfl⟩
    clear d0 d1 hs1
    go_loopw [6] (fun i wr=>CopyV a wo i wr) (fun i _=>n1-(intOf i).toNat)
    case atStart=>exact⟨0,_,by omega,rfl,i5,OwnL.nil _,hX0⟩
    case round=>
        clear i5 hX0
        obtain⟨k2,v,hk2,rfl,i5,ho,hb2⟩:=hrel
        have hz2':=hb2.size
        have hw:Below w.heap.size w wr:=hb.trans (hb2.mono hzz)
        have hwz:=hw.size
        obtain⟨ad1,a1,B1,m1,c3,ex,ha1,hbk1,hok1,d0,d1,hm1,hc3,hs1⟩:=((h.below HsRel.kept hw).more HsRel.kept hw.size).hs hlt
        injection ex with ex
        subst ex
        obtain rfl:a=a1:=Option.some.inj (HA.out.symm.trans ha1)
        obtain rfl:n1=m1:=by have:=hs1.1;omega
        clear ha1
        have hlv:(a.vs.take k2).length≤1000000:=Nat.le_trans (List.length_take_le _ _) (by omega)
        have l5:=i5.lt
        obtain⟨Bv,qb,rfl,hqb,hqbm⟩:=ho.form
        have y0:=cl (i5.cell 0)
        have y1:=cl (i5.cell 1)
        by_cases hlt2:k2<n1
        · obtain⟨bd,x,rfl,hx,hxb,hxo,x0,x1,x2,x3,x4,x5⟩:=hs1.vn hlt2
          have hd3:decide ((k2:Int)<(n1:Int))=true:=by simp;omega
          have hk20:(0:Int)≤(k2:Int):=by omega
          have hk21:(k2:Int)<(n1:Int):=by omega
          have HT:=Lib.hid (show a.vs.take (k2+1)=a.vs.take k2++[x] by rw[List.take_add_one,hx];rfl)
          clear hx
          generalize a.vs.take k2=V at*
          have hX:Below wr.heap.size wr (wr.alloc (.cells x.cells.toArray 130)).drew:=((Below.refl _ _).alloc (Nat.le_refl _) _).drew
          have hown0:=ho.below hX
          have hrd0:=(reads_new' wr 130 x.cells 6 rfl).drew
          have l6:wo.heap.size<wr.heap.size+1:=by omega
          go_wp2
          go_region_law (refine step_append_any _ rfl (.tmp 30) (.tmp 39) _ rfl (wo.heap.size+1) 130 i0 _ 6 56 Tryz.underlying92 hi0 hz0 hz1 hz2 rfl (by omega) (.slice Bv V.length qb) _ (V.flatMap Vn.cells) (by simp[Act.eval]) hown0 _ (some ⟨wr.heap.size,0,none⟩) 1 1 x.cells (by simp[Act.eval]) hrd0 (vn_one x) (by unfold maxLen;omega) (by omega) (by simp;omega) ?_;intro v3 w3 hown3 hg3 hat3;have e5:=(i5.alloc (.cells x.cells.toArray 130)).drew.grown hg3 (ho.ne (by omega));have z1:=e5.cell 1;simp only[List.getElem?_toArray,List.getElem?_cons_succ,List.getElem?_cons_zero]at z1;have f1:=e5.frozen 1;obtain⟨A3,q3,rfl,hq3,hq3m⟩:=own_form hown3)
          all_goals
           have hp3:=(OwnL.push x hown3).set_far (p:=⟨wo.heap.size,1,none⟩) (by simp) (.slice A3 (V.length+1) q3)
           have hbw:=((hb2.trans (hX.mono hz2')).grown hg3 (by have:=hX.size;omega) (fun q hq=>by have:=(hown0.lt q hq).1;omega)).setCell (p:=⟨wo.heap.size,1,none⟩) (Nat.le_refl _) (.slice A3 (V.length+1) q3)
           go_wp2
           go_roundw
           case rel=>
            refine⟨k2+1,_,by omega,by go_num,e5.set_ 1 _,?_,hbw⟩
            rw[HT.out]
            exact hp3
           case measure=>simp[intOf];omega
        · have hd3:decide ((k2:Int)<(n1:Int))=false:=by simp;omega
          have ht:a.vs.take k2=a.vs:=List.take_of_length_le (by omega)
          rw[ht]at ho hqb y1 i5
          clear ht hlv
          have hX:Below wr.heap.size wr (wr.alloc (.cells #[.string a.key,.slice Bv a.vs.length qb] 94)):=by go_grown
          have pX:=(Pair.below HsRel.kept HsRel.mono hp hb2).below HsRel.kept HsRel.mono hX
          have hK:∀k,wo.heap.size+1≤k→k<(wr.alloc (.cells #[.string a.key,.slice Bv a.vs.length qb] 94)).heap.size→freeB w.heap.size (wr.alloc (.cells #[.string a.key,.slice Bv a.vs.length qb] 94)).heap.size (.slice Av L.length qv) (.slice none 0 0) k=true:=Pair.fresh hp (by simp;omega) (by omega) (by omega)
          have hin:Inn HsRel (freeB w.heap.size (wr.alloc (.cells #[.string a.key,.slice Bv a.vs.length qb] 94)).heap.size (.slice Av L.length qv) (.slice none 0 0)) (wr.alloc (.cells #[.string a.key,.slice Bv a.vs.length qb] 94)) [.string a.key,.slice Bv a.vs.length qb] a:=
           ⟨_,rfl,hkz,OwnL.inn (by omega) vn_len (ho.below hX) K1.out hK⟩
          have HI:=Lib.hid hin
          obtain⟨xs,hown0,hpush⟩:=Pair.own1 HsRel.kept HsRel.mono pX
          have HP:=Lib.hid hpush
          have hrd0:=reads_new' wr 94 [.string a.key,.slice Bv a.vs.length qb] 2 rfl
          have hone:∀u∈[Value.string a.key,Value.slice Bv a.vs.length qb],u.oneCell'=true:=by
           intro u hu
           simp only[List.mem_cons,List.not_mem_nil,or_false]at hu
           rcases hu with rfl|rfl<;>rfl
          have HO:=Lib.hid hone
          clear hpush hin hK hone hs1
          go_wp2_with (first
           |(at_builtin
             refine wpList_append_any _ rfl (.tmp 42) (.tmp 44) _ rfl w.heap.size 94 i1 _ 2 40 Tryz.underlying33 hi1 iz0 iz1 iz2 rfl (by omega) (.slice Av L.length qv) _ xs (by rfl) hown0 _ (some ⟨wr.heap.size,0,none⟩) 1 1 [.string a.key,.slice Bv a.vs.length qb] (by rfl)
              hrd0 HO.out (by unfold maxLen;omega) (by omega) (by simp;omega) ?_
             intro v3 w3 hown3 hg3 hat3
             obtain⟨A3,q3,rfl,hq3,hq3m⟩:=own_form hown3))
          have hpn:=HP.out _ a w3 _ rfl HI.out hown3 hg3 hat3
          have hbw:=(hw.trans (hX.mono hwz)).grown hg3 (by have:=hX.size;omega) (fun q hq=>(hown0.lt q hq).1)
          go_roundw
          case rel=>
           refine⟨k+1,by omega,by go_num,?_,hbw⟩
           rw[HS.out]
           exact hpn
          case measure=>simp[intOf];omega
  · have hd1:decide ((k:Int)<(n:Int))=false:=by simp;omega
    rw[List.take_of_length_le (by omega)]at hp hqv
    rw[List.take_of_length_le (by omega)]
    go_wp2
    go_ret
    exact⟨_,rfl,hp,hb⟩
end Go.Proofs.YthdmanadhbpogaaGreat
/- The walks of racelaw15's some and alike. -/
namespace Go.Proofs.YthdmanadhbpogaaGreat
set_option linter.unusedVariables false
open Go.RowKit Fl
attribute [local go_sem] run_store_float
section
variable {α:Type} {R:Rel α} {E size base:Nat} {K:Nat→Bool} {w w':World} {v:Value} {l:List α}
theorem RowR.keep2 (hR:R.Kept) (h:RowR R E size base K w v l) (hs:w.heap.size≤w'.heap.size) (hb:∀k,base≤k→k<w.heap.size→w'.heap[k]?=w.heap[k]?) (hK:∀k,K k=true→w'.heap[k]?=w.heap[k]?):RowR R E size base K w' v l:=by
 obtain⟨css,ho,hlen,hl,hc⟩:=h
 exact⟨css,owns_same ho hb,hlen,hl,fun i cs a h1 h2=>(hc i cs a h1 h2).keep hR hK hs⟩
theorem RowR.own (hR:R.Kept) (h:RowR R E size base K w v l) (hK:∀k,K k=true→k<base) (hbs:base≤w.heap.size):∃xs,w.ownsRow base E size v l.length xs∧
 ∀(cs:List Value) (a:α) (w':World) (v':Value),cs.length=size→Inn R K w cs a→w'.ownsRow base E size v' (l.length+1) (xs++cs)→w.grownBy w' v.ownBlock→RowR R E size base K w' v' (l++[a]):=by
 obtain⟨css,ho,hlen,hl,hc⟩:=h
 refine⟨css.flatten,ho,fun cs a w' v' hcs hin hown hg=>?_⟩
 have hB:∀k,K k=true→w'.heap[k]?=w.heap[k]?:=fun k hk=>hg.block k (by have:=hK k hk;omega) (fun e=>by have:=(ho.lt k e.symm).1;have:=hK k hk;omega)
 refine⟨css++[cs],?_,by simp[hlen],?_,?_⟩
 · rw[List.length_append,List.flatten_append]
   simpa using hown
 · intro c hc'
   rcases List.mem_append.1 hc' with h1|h1
   · exact hl c h1
   · simp only[List.mem_cons,List.not_mem_nil,or_false]at h1
     rw[h1];exact hcs
 · intro i c b h1 h2
   by_cases hi:i<l.length
   · rw[List.getElem?_append_left (by omega)]at h1 h2
     exact(hc i c b h1 h2).keep hR hB hg.size
   · have hi2:i=l.length:=by
        have:=(List.getElem?_eq_some_iff.1 h2).1
        rw[List.length_append,List.length_cons,List.length_nil]at this
        omega
     subst hi2
     rw[List.getElem?_append_right (Nat.le_refl _)]at h2
     rw[←hlen,List.getElem?_append_right (Nat.le_refl _)]at h1
     simp only[Nat.sub_self,List.getElem?_cons_zero,Option.some.injEq]at h1 h2
     subst h1 h2
     exact hin.keep hR hB hg.size
end
def lowB (B:Nat):Nat→Bool:=fun k=>decide (k<B)
theorem Inn.low {α:Type} {R:Rel α} {w:World} {B:Nat} {cs:List Value} {a:α} (hR:R.Kept) (hRm:R.Mono) (h:R w B cs a) (hB:B≤w.heap.size):Inn R (lowB B) w cs a:=
 hR.2 _ _ _ _ _ (hRm _ _ _ _ _ h fun p u hp hc=>by rw[only_cell_in (by unfold lowB;simpa using hp)];exact hc) hB
theorem yieldsIf_load_blk {P:Program} {ops:Array Oper} {S:World→Prop} {op:Oper} {a:Act} (hw:Region.wanted op (yielded ops a.tmps)=true) (ty:TypeId) (x:Operand) (ho:op.op=.load ty x)
 (g:Nat) (hx:a.eval x=.pointer (some ⟨g,0,none⟩)) (t:TypeId) (cs:Array Value) (d:TypeDesc) (hS:∀w,S w→Blk w g t cs)
 (hu:P.underlying ty=some d) (hd:(match d with| .struct _| .array _ _=>true|_=>false)=true) (hi:(P.info? ty).map (·.size)=some cs.size):YieldsIf P ops S op (.agg cs) a:=
 .inl ⟨hw,fun w hw'=>by
  unfold execOp
  simp only[ho,hx,Instr.loadAt,Instr.sureAddr,Sem.run_bind,Sem.run_pure,Result.andThen_ok,run_loadVar_row w g t ty cs (0,0) d (hS w hw') hu hd hi]⟩
theorem setRow_alloc (w:World) (t:TypeId) (c c':Array Value):(w.alloc (.cells c t)).setRow w.heap.size c'=w.alloc (.cells c' t):=by
 unfold World.setRow World.alloc
 congr 1
 apply Array.ext_getElem?
 intro i
 simp only[Array.getElem?_modify,Array.getElem?_push]
 by_cases h:i=w.heap.size
 · subst h;simp
 · have h':w.heap.size≠i:=fun e=>h e.symm
   simp[h,h']
theorem wpList_store_new {P:Program} {ops:Array Oper} {rest:List Oper} {o:Oper} {a:Act} {w:World} {Q:Exit→Act→World→Prop} (hgd:o.guard=none) (ty:TypeId) (x y:Operand) (ho:o.op=.store ty x y)
 (cells:Array Value) (hx:a.eval x=.pointer (some ⟨w.heap.size,0,none⟩)) (hy:a.eval y=.agg cells)
 (t:TypeId) (old:Array Value) (hi:(P.info? ty).map (·.size)=some cells.size)
 (hold:old.size=cells.size) (h1:cells.all (·.oneCell')=true)
 (h:wpList P ops Q rest (a.put o.dst undef) (w.alloc (.cells cells t))):wpList P ops Q (o::rest) a (w.alloc (.cells old t)):=
 wpList_store_row hgd ty x y ho _ cells hx hy t old (Blk.new w t old) hi hold h1 (by rw[setRow_alloc];exact h)
theorem hs_info:(Tryz.prog.info? 94).map (fun i=>(i.zero,i.size,i.bytes))=some (some (.agg #[.string ⟨#[]⟩,.slice none 0 0]),2,40):=by kernel_rfl
theorem pn_info:(Tryz.prog.info? 96).map (fun i=>(i.zero,i.size,i.bytes))=some (some (.agg zeroPn),8,96):=by kernel_rfl
abbrev Pn.cs (p:Pn) (r q:Value):List Value:=[.int .i64 p.t.c,.int .i64 p.t.l,.int .i64 p.t.s,.int .i64 p.s.w,.int .i64 p.s.l,.int .i64 p.s.n,r,q]
theorem pn_one (p:Pn) (A1 A2:Option Addr) (n1 n2 c1 c2:Nat):∀u∈p.cs (.slice A1 n1 c1) (.slice A2 n2 c2),u.oneCell'=true:=by
 intro u hu
 simp only[Pn.cs,List.mem_cons,List.not_mem_nil,or_false]at hu
 rcases hu with rfl|rfl|rfl|rfl|rfl|rfl|rfl|rfl<;>rfl
theorem OwnL.inn2 {α:Type} {f:α→List Value} {ok:α→Prop} {E size b:Nat} {K:Nat→Bool} {w:World} {v:Value} {l:List α} (hk:0<size) (hf:∀a,(f a).length=size) (h:OwnL f E size b w v l) (hok:∀a∈l,ok a) (hK:∀k,v.ownBlock=some k→K k=true):
 HdRel (Flat f ok) size (only K w) w.heap.size v l:=by
 have h':OwnL f E size b (only K w) v l:=owns_only h hK
 have:=h'.sl hk hf hok
 rw[only_size]at this
 exact this
end Go.Proofs.YthdmanadhbpogaaGreat
/- The document's store in memory; the walks of its at and where. -/
namespace Go.Proofs.YthdmanadhbpogaaGreat
set_option maxHeartbeats 4000000
set_option maxRecDepth 100000
set_option linter.unusedVariables false
open Go.RowKit Fl
attribute [local go_sem] run_store_float
def nb (g:Nat):Nat→Bool:=fun k=>decide (k≠g)
theorem nb_iff {g k:Nat}:nb g k=true↔k≠g:=by unfold nb;rw[decide_eq_true_eq]
structure RSt (w:World) (g:Nat) (B1:Option Addr) (m1 d1:Nat) (B2:Option Addr) (m2 d2:Nat) (L:Sp) (Hl:List Hs) (Pl:List Pn):Prop where
 blk:Blk w g 168 #[.slice B1 m1 d1,.slice B2 m2 d2,.int .i64 L.w,.int .i64 L.l,.int .i64 L.n]
 hs:Sl HsRel 2 (only (nb g) w) w.heap.size B1 m1 Hl
 ps:Sl PnRel 8 (only (nb g) w) w.heap.size B2 m2 Pl
 le2:m2≤d2
 d2m:d2≤maxLen
 m1:m1≤maxLen
 m2:m2≤maxLen
section
variable {w w':World} {g:Nat} {B1 B2:Option Addr} {m1 d1 m2 d2:Nat} {L:Sp} {Hl:List Hs} {Pl:List Pn}
theorem RSt.below (h:RSt w g B1 m1 d1 B2 m2 d2 L Hl Pl) (hb:Below w.heap.size w w'):RSt w' g B1 m1 d1 B2 m2 d2 L Hl Pl:=by
 have hk:∀p:Addr,p.block<w.heap.size→(only (nb g) w').cell? p=(only (nb g) w).cell? p:=fun p hp=>by
  cases hn:nb g p.block
  · rw[only_cell_out hn,only_cell_out hn]
  · rw[only_cell_in hn,only_cell_in hn];exact hb.cell hp
 exact⟨h.blk.below hb h.blk.lt,(h.hs.keep HsRel.kept hk).more HsRel.kept hb.size,(h.ps.keep PnRel.kept hk).more PnRel.kept hb.size,h.le2,h.d2m,h.m1,h.m2⟩
theorem RSt.hist (h:RSt w g B1 m1 d1 B2 m2 d2 L Hl Pl):Sl HsRel 2 w w.heap.size B1 m1 Hl:=h.hs.mono HsRel.mono fun p u _ hc=>(only_cell hc).2
theorem RSt.pend (h:RSt w g B1 m1 d1 B2 m2 d2 L Hl Pl):Sl PnRel 8 w w.heap.size B2 m2 Pl:=h.ps.mono PnRel.mono fun p u _ hc=>(only_cell hc).2
end
def atFrom (key:ByteArray):Nat→List Hs→Int
 |_,[]=> -1
 |i,h::l=>if h.key.toList==key.toList then (i:Int) else atFrom key (i+1) l
theorem atFrom_drop {key:ByteArray} {l:List Hs} {k:Nat} {a:Hs} (h:l[k]?=some a):atFrom key k (l.drop k)=if a.key.toList==key.toList then (k:Int) else atFrom key (k+1) (l.drop (k+1)):=by
 have h1:=List.getElem?_eq_some_iff.1 h
 rw[List.drop_eq_getElem_cons h1.1,h1.2];rfl
def AtRel (key:ByteArray) (l:List Hs) (w:World) (i:Value) (wr:World):Prop:=∃k:Nat,k≤l.length∧i=.int .i64 (k:Int)∧atFrom key k (l.drop k)=atFrom key 0 l∧Below w.heap.size w wr
theorem rat_any (g:Nat) (B1 B2:Option Addr) (m1 d1 m2 d2:Nat) (L:Sp) (Hl:List Hs) (Pl:List Pn) (key:ByteArray) (w:World) (h:RSt w g B1 m1 d1 B2 m2 d2 L Hl Pl):
 Calls Tryz.prog 169 #[.pointer (some ⟨g,0,none⟩),.string key] w fun e w'=>e=.returned (.int .i64 (atFrom key 0 Hl))∧Below w.heap.size w w':=by
 have hm:=h.m1
 unfold maxLen at hm
 have hl:=h.hs.1
 have hge:m1≤Hl.length:=by omega
 have hle:Hl.length≤m1:=by omega
 clear hl
 go_enter Tryz.func169,Tryz.ntmps169
 go_wp2
 go_loopw [5] (fun i wr=>AtRel key Hl w i wr) (fun i _=>m1-(intOf i).toNat)
 case atStart=>exact⟨0,by omega,rfl,rfl,Below.refl _ _⟩
 case round=>
  obtain⟨k,hk,rfl,hs,hb⟩:=hrel
  have hzz:=hb.size
  have hr:=h.below hb
  obtain⟨gl,k0,k1,-,-,-⟩:=hr.blk.fiveC
  by_cases hlt:k<m1
  · obtain⟨ad,a,A',n',c',rfl,ha,hbk,hok,c0,c1,hn',hc',hsv⟩:=hr.hist.hs hlt
    have hd1:decide ((k:Int)<(m1:Int))=true:=by simp;omega
    have hk0:(0:Int)≤(k:Int):=by omega
    have hk1:(k:Int)<(m1:Int):=by omega
    rw[atFrom_drop ha]at hs
    clear ha
    cases he:(a.key.toList==key.toList)
    · rw[he]at hs
      have HS:=Lib.hid (show atFrom key (k+1) (Hl.drop (k+1))=atFrom key 0 Hl from hs)
      clear hs
      go_wp2
      go_roundw
      case rel=>exact⟨k+1,by omega,by go_num,HS.out,hb⟩
      case measure=>simp[intOf];omega
    · rw[he]at hs
      have HS:=Lib.hid (show (k:Int)=atFrom key 0 Hl from hs)
      clear hs
      go_wp2
      go_ret
      rw[←HS.out]
      exact⟨rfl,hb⟩
  · have hd1:decide ((k:Int)<(m1:Int))=false:=by simp;omega
    rw[List.drop_of_length_le (by omega)]at hs
    have HS:=Lib.hid (show (-1:Int)=atFrom key 0 Hl from hs)
    clear hs
    go_wp2
    go_ret
    rw[←HS.out]
    exact⟨rfl,hb⟩
def whFrom (t:Tx):Nat→List Pn→Int
 |_,[]=> -1
 |i,p::l=>if decide (p.t=t) then (i:Int) else whFrom t (i+1) l
theorem whFrom_drop {t:Tx} {l:List Pn} {k:Nat} {a:Pn} (h:l[k]?=some a):whFrom t k (l.drop k)=if decide (a.t=t) then (k:Int) else whFrom t (k+1) (l.drop (k+1)):=by
 have h1:=List.getElem?_eq_some_iff.1 h
 rw[List.drop_eq_getElem_cons h1.1,h1.2];rfl
theorem txn_run (a t:Tx) (w:World):(Op.equalIn 10000 23 (.agg #[.int .i64 a.c,.int .i64 a.l,.int .i64 a.s]) (.agg #[.int .i64 t.c,.int .i64 t.l,.int .i64 t.s])).run Tryz.prog w=.ok (decide (a=t)) w:=by
 have e:decide (a=t)=((a.c==t.c)&&(a.l==t.l)&&(a.s==t.s)):=by
  obtain⟨a1,a2,a3⟩:=a
  obtain⟨b1,b2,b3⟩:=t
  rw[Bool.eq_iff_iff]
  simp[and_assoc]
 rw[e]
 cases h1:(a.c==t.c)<;>cases h2:(a.l==t.l)<;>cases h3:(a.s==t.s)
 all_goals simp[go_sem,h1,h2,h3]
def WhRel (t:Tx) (l:List Pn) (w:World) (i:Value) (wr:World):Prop:=∃k:Nat,k≤l.length∧i=.int .i64 (k:Int)∧whFrom t k (l.drop k)=whFrom t 0 l∧Below w.heap.size w wr∧Blk wr w.heap.size 23 #[.int .i64 t.c,.int .i64 t.l,.int .i64 t.s]
theorem rwhere_any (g:Nat) (B1 B2:Option Addr) (m1 d1 m2 d2:Nat) (L:Sp) (Hl:List Hs) (Pl:List Pn) (t:Tx) (w:World) (h:RSt w g B1 m1 d1 B2 m2 d2 L Hl Pl):
 Calls Tryz.prog 114 #[.pointer (some ⟨g,0,none⟩),t.val] w fun e w'=>e=.returned (.int .i64 (whFrom t 0 Pl))∧Below w.heap.size w w':=by
 have hm:=h.m2
 unfold maxLen at hm
 have hl:=h.ps.1
 have hge:m2≤Pl.length:=by omega
 have hle:Pl.length≤m2:=by omega
 clear hl
 go_enter Tryz.func114,Tryz.ntmps114
 go_wp2
 go_loopw [5] (fun i wr=>WhRel t Pl w i wr) (fun i _=>m2-(intOf i).toNat)
 case atStart=>exact⟨0,by omega,rfl,rfl,by go_grown,Blk.new _ _ _⟩
 case round=>
  obtain⟨k,hk,rfl,hs,hb,i3⟩:=hrel
  have hzz:=hb.size
  have hr:=h.below hb
  obtain⟨gl,k0,k1,-,-,-⟩:=hr.blk.fiveC
  obtain⟨g3,s0,s1,s2⟩:=i3.three
  by_cases hlt:k<m2
  · obtain⟨ad,a,A1,n1,c1,A2,n2,c2,rfl,ha,hbk,hxt,hxs,e0,e1,e2,e3,e4,e5,e6,e7,hn1,hc1,hs1,hn2,hc2,hs2⟩:=hr.pend.pn hlt
    have hd1:decide ((k:Int)<(m2:Int))=true:=by simp;omega
    have hk0:(0:Int)≤(k:Int):=by omega
    have hk1:(k:Int)<(m2:Int):=by omega
    have hrun:=fun w=>txn_run a.t t w
    rw[whFrom_drop ha]at hs
    clear ha
    cases he:decide (a.t=t)
    · rw[he]at hs hrun
      have HS:=Lib.hid (show whFrom t (k+1) (Pl.drop (k+1))=whFrom t 0 Pl from hs)
      clear hs he
      go_wp2
      go_quiet (fail)
      all_goals go_wp2
      all_goals go_roundw
      case rel=>exact⟨k+1,by omega,by go_num,HS.out,hb.trans ((belowN _).mono hzz),i3⟩
      case measure=>simp[intOf];omega
    · rw[he]at hs hrun
      have HS:=Lib.hid (show (k:Int)=whFrom t 0 Pl from hs)
      clear hs he
      go_wp2
      go_quiet (fail)
      all_goals go_wp2
      all_goals go_ret
      rw[←HS.out]
      exact⟨rfl,hb.trans ((belowN _).mono hzz)⟩
  · have hd1:decide ((k:Int)<(m2:Int))=false:=by simp;omega
    rw[List.drop_of_length_le (by omega)]at hs
    have HS:=Lib.hid (show (-1:Int)=whFrom t 0 Pl from hs)
    clear hs
    go_wp2
    go_ret
    rw[←HS.out]
    exact⟨rfl,hb⟩
end Go.Proofs.YthdmanadhbpogaaGreat
/- The walks of recs' zeroState, zero, without. -/
namespace Go.Proofs.YthdmanadhbpogaaGreat
set_option maxHeartbeats 8000000
set_option maxRecDepth 100000
set_option linter.unusedVariables false
open Go.RowKit Fl
attribute [local go_sem] run_store_float
def Stt.zeroB (s:Stt):Bool:=(s.r.id==0)&&(s.r.ep==0)&&((s.r.lo:Int)==0)&&((s.r.hi:Int)==0)&&s.f.zero&&s.c.zero&&((s.h.length:Int)==0)&&((s.p.length:Int)==0)
theorem zeroState_any (s:Stt) (A1 A2:Option Addr) (n1 n2 c1 c2:Nat) (w:World) (h1:s.h.length=n1) (h2:s.p.length=n2):
 Calls Tryz.prog 89 #[.agg (s.arr (.slice A1 n1 c1) (.slice A2 n2 c2))] w fun e w'=>e=.returned (.bool s.zeroB)∧Below w.heap.size w w':=by
 have z1:=fun w=>zero_run s.f w
 have z2:=fun w=>zero_run s.c w
 have HZ:=Lib.hid (show s.zeroB=((s.r.id==0)&&(s.r.ep==0)&&((s.r.lo:Int)==0)&&((s.r.hi:Int)==0)&&s.f.zero&&s.c.zero&&((n1:Int)==0)&&((n2:Int)==0)) by unfold Stt.zeroB;rw[h1,h2])
 clear h1 h2
 generalize s.f.zero=b1 at*
 generalize s.c.zero=b2 at*
 go_enter Tryz.func89,Tryz.ntmps89
 go_wp2
 all_goals go_ret
 all_goals refine⟨ret_bool ?_,by go_grown⟩
 all_goals rw[HZ.out]
 all_goals simp_all
def Rc.zeroB (r:Rc):Bool:=decide (r.t=⟨0,0,0⟩)&&r.s.zero&&r.pv.zero&& !r.cm&&(r.n==0)&&((r.pt:Int)==0)&&((r.rd.length:Int)==0)&&((r.wr.length:Int)==0)&&((r.ps.length:Int)==0)&&((r.pr.length:Int)==0)&&r.st.zeroB
theorem zero_any (r:Rc) (h:Hds) (w:World) (h1:r.rd.length=h.a.n) (h2:r.wr.length=h.b.n) (h3:r.ps.length=h.c.n) (h4:r.pr.length=h.d.n) (h5:r.st.h.length=h.e.n) (h6:r.st.p.length=h.f.n):
 Calls Tryz.prog 42 #[.agg (r.vals h)] w fun e w'=>e=.returned (.bool r.zeroB)∧Below w.heap.size w w':=by
 have z0:=fun w=>txn_run r.t ⟨0,0,0⟩ w
 have z1:=fun w=>zero_run r.s w
 have z2:=fun w=>zero_run r.pv w
 have hS:=fun w=>zeroState_any r.st h.e.A h.f.A h.e.n h.f.n h.e.c h.f.c w h5 h6
 have HZ:=Lib.hid (show r.zeroB=(decide (r.t=⟨0,0,0⟩)&&r.s.zero&&r.pv.zero&& !r.cm&&(r.n==0)&&((r.pt:Int)==0)&&((h.a.n:Int)==0)&&((h.b.n:Int)==0)&&((h.c.n:Int)==0)&&((h.d.n:Int)==0)&&r.st.zeroB) by unfold Rc.zeroB;rw[h1,h2,h3,h4])
 clear h1 h2 h3 h4 h5 h6
 generalize decide (r.t=⟨0,0,0⟩)=b0 at*
 generalize r.s.zero=b1 at*
 generalize r.pv.zero=b2 at*
 generalize r.st.zeroB=b3 at*
 have hX:Below w.heap.size w (w.alloc (.cells (r.vals h) 38)):=by go_grown
 go_enter Tryz.func42,Tryz.ntmps42
 go_wp2_with ((with_reducible refine(hS _).mono ?_);rintro e w1 ⟨rfl,hb1⟩)
 all_goals go_ret
 all_goals refine⟨ret_bool ?_,by first|exact hX|exact hX.trans (hb1.mono hX.size)⟩
 all_goals rw[HZ.out]
 all_goals simp_all
def zeroS:Stt:=⟨⟨0,0,0,0⟩,⟨0,0,0⟩,⟨0,0,0⟩,[],[]⟩
def wipe (r:Rc):Rc:=
 if r.k=1 then {r with st:=zeroS} else
 if r.k=2 then {r with n:=0} else
 if r.k=3 then {r with t:=⟨0,0,0⟩,s:=⟨0,0,0⟩,rd:=[],wr:=[],ps:=[]} else
 if r.k=4 then {r with t:=⟨0,0,0⟩,cm:=false,s:=⟨0,0,0⟩} else
 if r.k=5 then {r with s:=⟨0,0,0⟩} else
 if r.k=6 then {r with pt:=0,n:=0,s:=⟨0,0,0⟩} else
 if r.k=7 then {r with n:=0} else
 if r.k=8 then {r with n:=0} else
 if r.k=9 then {r with t:=⟨0,0,0⟩,s:=⟨0,0,0⟩,ps:=[]} else
 if r.k=10 then {r with t:=⟨0,0,0⟩} else
 if r.k=11 then {r with pv:=⟨0,0,0⟩,s:=⟨0,0,0⟩,t:=⟨0,0,0⟩,wr:=[]} else
 if r.k=12 then {r with s:=⟨0,0,0⟩,pr:=[]} else
 r
def wipeH (k:Int) (h:Hds):Hds:=
 if k=1 then {h with e:=Hd.nil,f:=Hd.nil} else
 if k=3 then {h with a:=Hd.nil,b:=Hd.nil,c:=Hd.nil} else
 if k=9 then {h with c:=Hd.nil} else
 if k=11 then {h with b:=Hd.nil} else
 if k=12 then {h with d:=Hd.nil} else
 h
theorem wpList_store_second {P:Program} {ops:Array Oper} {rest:List Oper} {o:Oper} {a:Act} {w:World} {Q:Exit→Act→World→Prop} (hgd:o.guard=none) (ty:TypeId) (x y:Operand) (ho:o.op=.store ty x y)
 (cells:Array Value) (hx:a.eval x=.pointer (some ⟨w.heap.size+1,0,none⟩)) (hy:a.eval y=.agg cells)
 (t:TypeId) (old:Array Value) (ob:Obj) (hi:(P.info? ty).map (·.size)=some cells.size)
 (hold:old.size=cells.size) (h1:cells.all (·.oneCell')=true)
 (h:wpList P ops Q rest (a.put o.dst undef) ((w.alloc ob).alloc (.cells cells t))):wpList P ops Q (o::rest) a ((w.alloc ob).alloc (.cells old t)):=by
 have hs:(w.alloc ob).heap.size=w.heap.size+1:=by simp
 exact wpList_store_new hgd ty x y ho cells (by rw[hs];exact hx) hy t old hi hold h1 h
def kindB (k:Int):Bool:=decide (1≤k∧k≤12)
theorem without_1 (r:Rc) (h:Hds) (w:World) (hk:r.k=1):
 Calls Tryz.prog 41 #[.agg (r.vals h)] w fun e w'=>e=.returned (.tuple #[.agg (({r with st:=zeroS}:Rc).vals {h with e:=Hd.nil,f:=Hd.nil}),.bool true])∧Below w.heap.size w w':=by
 obtain⟨k,t,s,pv,cm,n,pt,rd,wr,ps,pr,st⟩:=r
 change k=1 at hk
 subst hk
 go_enter Tryz.func41,Tryz.ntmps41
 go_upto_region 25 with fail
 go_wp2_with (first
  |(refine wpList_load_row rfl 38 _ rfl _ rfl _ _ (0,0) _ ((Blk.new _ _ _).alloc _) rfl rfl (by kernel_rfl) ?_)
  |(refine wpList_store_second rfl 38 _ _ rfl _ rfl rfl _ _ _ (by kernel_rfl) (by kernel_rfl) (by kernel_rfl) ?_))
 refine post_cell_tmp rfl (by rfl) (Blk.new' (g:=w.heap.size+1) _ _ (by simp)) rfl rfl (by kernel_rfl) ?_
 exact⟨rfl,by go_grown⟩
theorem without_2 (r:Rc) (h:Hds) (w:World) (hk:r.k=2):
 Calls Tryz.prog 41 #[.agg (r.vals h)] w fun e w'=>e=.returned (.tuple #[.agg (({r with n:=0}:Rc).vals h),.bool true])∧Below w.heap.size w w':=by
 obtain⟨k,t,s,pv,cm,n,pt,rd,wr,ps,pr,st⟩:=r
 change k=2 at hk
 subst hk
 go_enter Tryz.func41,Tryz.ntmps41
 go_upto_region 25 with fail
 go_wp2_with (first
  |(refine wpList_load_row rfl 38 _ rfl _ rfl _ _ (0,0) _ ((Blk.new _ _ _).alloc _) rfl rfl (by kernel_rfl) ?_)
  |(refine wpList_store_second rfl 38 _ _ rfl _ rfl rfl _ _ _ (by kernel_rfl) (by kernel_rfl) (by kernel_rfl) ?_))
 refine post_cell_tmp rfl (by rfl) (Blk.new' (g:=w.heap.size+1) _ _ (by simp)) rfl rfl (by kernel_rfl) ?_
 exact⟨rfl,by go_grown⟩
theorem without_3 (r:Rc) (h:Hds) (w:World) (hk:r.k=3):
 Calls Tryz.prog 41 #[.agg (r.vals h)] w fun e w'=>e=.returned (.tuple #[.agg (({r with t:=⟨0,0,0⟩,s:=⟨0,0,0⟩,rd:=[],wr:=[],ps:=[]}:Rc).vals {h with a:=Hd.nil,b:=Hd.nil,c:=Hd.nil}),.bool true])∧Below w.heap.size w w':=by
 obtain⟨k,t,s,pv,cm,n,pt,rd,wr,ps,pr,st⟩:=r
 change k=3 at hk
 subst hk
 go_enter Tryz.func41,Tryz.ntmps41
 go_upto_region 25 with fail
 go_wp2_with (first
  |(refine wpList_load_row rfl 38 _ rfl _ rfl _ _ (0,0) _ ((Blk.new _ _ _).alloc _) rfl rfl (by kernel_rfl) ?_)
  |(refine wpList_store_second rfl 38 _ _ rfl _ rfl rfl _ _ _ (by kernel_rfl) (by kernel_rfl) (by kernel_rfl) ?_))
 refine post_cell_tmp rfl (by rfl) (Blk.new' (g:=w.heap.size+1) _ _ (by simp)) rfl rfl (by kernel_rfl) ?_
 exact⟨rfl,by go_grown⟩
theorem without_4 (r:Rc) (h:Hds) (w:World) (hk:r.k=4):
 Calls Tryz.prog 41 #[.agg (r.vals h)] w fun e w'=>e=.returned (.tuple #[.agg (({r with t:=⟨0,0,0⟩,cm:=false,s:=⟨0,0,0⟩}:Rc).vals h),.bool true])∧Below w.heap.size w w':=by
 obtain⟨k,t,s,pv,cm,n,pt,rd,wr,ps,pr,st⟩:=r
 change k=4 at hk
 subst hk
 go_enter Tryz.func41,Tryz.ntmps41
 go_upto_region 25 with fail
 go_wp2_with (first
  |(refine wpList_load_row rfl 38 _ rfl _ rfl _ _ (0,0) _ ((Blk.new _ _ _).alloc _) rfl rfl (by kernel_rfl) ?_)
  |(refine wpList_store_second rfl 38 _ _ rfl _ rfl rfl _ _ _ (by kernel_rfl) (by kernel_rfl) (by kernel_rfl) ?_))
 refine post_cell_tmp rfl (by rfl) (Blk.new' (g:=w.heap.size+1) _ _ (by simp)) rfl rfl (by kernel_rfl) ?_
 exact⟨rfl,by go_grown⟩
theorem without_5 (r:Rc) (h:Hds) (w:World) (hk:r.k=5):
 Calls Tryz.prog 41 #[.agg (r.vals h)] w fun e w'=>e=.returned (.tuple #[.agg (({r with s:=⟨0,0,0⟩}:Rc).vals h),.bool true])∧Below w.heap.size w w':=by
 obtain⟨k,t,s,pv,cm,n,pt,rd,wr,ps,pr,st⟩:=r
 change k=5 at hk
 subst hk
 go_enter Tryz.func41,Tryz.ntmps41
 go_upto_region 25 with fail
 go_wp2_with (first
  |(refine wpList_load_row rfl 38 _ rfl _ rfl _ _ (0,0) _ ((Blk.new _ _ _).alloc _) rfl rfl (by kernel_rfl) ?_)
  |(refine wpList_store_second rfl 38 _ _ rfl _ rfl rfl _ _ _ (by kernel_rfl) (by kernel_rfl) (by kernel_rfl) ?_))
 refine post_cell_tmp rfl (by rfl) (Blk.new' (g:=w.heap.size+1) _ _ (by simp)) rfl rfl (by kernel_rfl) ?_
 exact⟨rfl,by go_grown⟩
theorem without_6 (r:Rc) (h:Hds) (w:World) (hk:r.k=6):
 Calls Tryz.prog 41 #[.agg (r.vals h)] w fun e w'=>e=.returned (.tuple #[.agg (({r with pt:=0,n:=0,s:=⟨0,0,0⟩}:Rc).vals h),.bool true])∧Below w.heap.size w w':=by
 obtain⟨k,t,s,pv,cm,n,pt,rd,wr,ps,pr,st⟩:=r
 change k=6 at hk
 subst hk
 go_enter Tryz.func41,Tryz.ntmps41
 go_upto_region 25 with fail
 go_wp2_with (first
  |(refine wpList_load_row rfl 38 _ rfl _ rfl _ _ (0,0) _ ((Blk.new _ _ _).alloc _) rfl rfl (by kernel_rfl) ?_)
  |(refine wpList_store_second rfl 38 _ _ rfl _ rfl rfl _ _ _ (by kernel_rfl) (by kernel_rfl) (by kernel_rfl) ?_))
 refine post_cell_tmp rfl (by rfl) (Blk.new' (g:=w.heap.size+1) _ _ (by simp)) rfl rfl (by kernel_rfl) ?_
 exact⟨rfl,by go_grown⟩
theorem without_7 (r:Rc) (h:Hds) (w:World) (hk:r.k=7):
 Calls Tryz.prog 41 #[.agg (r.vals h)] w fun e w'=>e=.returned (.tuple #[.agg (({r with n:=0}:Rc).vals h),.bool true])∧Below w.heap.size w w':=by
 obtain⟨k,t,s,pv,cm,n,pt,rd,wr,ps,pr,st⟩:=r
 change k=7 at hk
 subst hk
 go_enter Tryz.func41,Tryz.ntmps41
 go_upto_region 25 with fail
 go_wp2_with (first
  |(refine wpList_load_row rfl 38 _ rfl _ rfl _ _ (0,0) _ ((Blk.new _ _ _).alloc _) rfl rfl (by kernel_rfl) ?_)
  |(refine wpList_store_second rfl 38 _ _ rfl _ rfl rfl _ _ _ (by kernel_rfl) (by kernel_rfl) (by kernel_rfl) ?_))
 refine post_cell_tmp rfl (by rfl) (Blk.new' (g:=w.heap.size+1) _ _ (by simp)) rfl rfl (by kernel_rfl) ?_
 exact⟨rfl,by go_grown⟩
theorem without_8 (r:Rc) (h:Hds) (w:World) (hk:r.k=8):
 Calls Tryz.prog 41 #[.agg (r.vals h)] w fun e w'=>e=.returned (.tuple #[.agg (({r with n:=0}:Rc).vals h),.bool true])∧Below w.heap.size w w':=by
 obtain⟨k,t,s,pv,cm,n,pt,rd,wr,ps,pr,st⟩:=r
 change k=8 at hk
 subst hk
 go_enter Tryz.func41,Tryz.ntmps41
 go_upto_region 25 with fail
 go_wp2_with (first
  |(refine wpList_load_row rfl 38 _ rfl _ rfl _ _ (0,0) _ ((Blk.new _ _ _).alloc _) rfl rfl (by kernel_rfl) ?_)
  |(refine wpList_store_second rfl 38 _ _ rfl _ rfl rfl _ _ _ (by kernel_rfl) (by kernel_rfl) (by kernel_rfl) ?_))
 refine post_cell_tmp rfl (by rfl) (Blk.new' (g:=w.heap.size+1) _ _ (by simp)) rfl rfl (by kernel_rfl) ?_
 exact⟨rfl,by go_grown⟩
theorem without_9 (r:Rc) (h:Hds) (w:World) (hk:r.k=9):
 Calls Tryz.prog 41 #[.agg (r.vals h)] w fun e w'=>e=.returned (.tuple #[.agg (({r with t:=⟨0,0,0⟩,s:=⟨0,0,0⟩,ps:=[]}:Rc).vals {h with c:=Hd.nil}),.bool true])∧Below w.heap.size w w':=by
 obtain⟨k,t,s,pv,cm,n,pt,rd,wr,ps,pr,st⟩:=r
 change k=9 at hk
 subst hk
 go_enter Tryz.func41,Tryz.ntmps41
 go_upto_region 25 with fail
 go_wp2_with (first
  |(refine wpList_load_row rfl 38 _ rfl _ rfl _ _ (0,0) _ ((Blk.new _ _ _).alloc _) rfl rfl (by kernel_rfl) ?_)
  |(refine wpList_store_second rfl 38 _ _ rfl _ rfl rfl _ _ _ (by kernel_rfl) (by kernel_rfl) (by kernel_rfl) ?_))
 refine post_cell_tmp rfl (by rfl) (Blk.new' (g:=w.heap.size+1) _ _ (by simp)) rfl rfl (by kernel_rfl) ?_
 exact⟨rfl,by go_grown⟩
theorem without_10 (r:Rc) (h:Hds) (w:World) (hk:r.k=10):
 Calls Tryz.prog 41 #[.agg (r.vals h)] w fun e w'=>e=.returned (.tuple #[.agg (({r with t:=⟨0,0,0⟩}:Rc).vals h),.bool true])∧Below w.heap.size w w':=by
 obtain⟨k,t,s,pv,cm,n,pt,rd,wr,ps,pr,st⟩:=r
 change k=10 at hk
 subst hk
 go_enter Tryz.func41,Tryz.ntmps41
 go_upto_region 25 with fail
 go_wp2_with (first
  |(refine wpList_load_row rfl 38 _ rfl _ rfl _ _ (0,0) _ ((Blk.new _ _ _).alloc _) rfl rfl (by kernel_rfl) ?_)
  |(refine wpList_store_second rfl 38 _ _ rfl _ rfl rfl _ _ _ (by kernel_rfl) (by kernel_rfl) (by kernel_rfl) ?_))
 refine post_cell_tmp rfl (by rfl) (Blk.new' (g:=w.heap.size+1) _ _ (by simp)) rfl rfl (by kernel_rfl) ?_
 exact⟨rfl,by go_grown⟩
theorem without_11 (r:Rc) (h:Hds) (w:World) (hk:r.k=11):
 Calls Tryz.prog 41 #[.agg (r.vals h)] w fun e w'=>e=.returned (.tuple #[.agg (({r with pv:=⟨0,0,0⟩,s:=⟨0,0,0⟩,t:=⟨0,0,0⟩,wr:=[]}:Rc).vals {h with b:=Hd.nil}),.bool true])∧Below w.heap.size w w':=by
 obtain⟨k,t,s,pv,cm,n,pt,rd,wr,ps,pr,st⟩:=r
 change k=11 at hk
 subst hk
 go_enter Tryz.func41,Tryz.ntmps41
 go_upto_region 25 with fail
 go_wp2_with (first
  |(refine wpList_load_row rfl 38 _ rfl _ rfl _ _ (0,0) _ ((Blk.new _ _ _).alloc _) rfl rfl (by kernel_rfl) ?_)
  |(refine wpList_store_second rfl 38 _ _ rfl _ rfl rfl _ _ _ (by kernel_rfl) (by kernel_rfl) (by kernel_rfl) ?_))
 refine post_cell_tmp rfl (by rfl) (Blk.new' (g:=w.heap.size+1) _ _ (by simp)) rfl rfl (by kernel_rfl) ?_
 exact⟨rfl,by go_grown⟩
theorem without_12 (r:Rc) (h:Hds) (w:World) (hk:r.k=12):
 Calls Tryz.prog 41 #[.agg (r.vals h)] w fun e w'=>e=.returned (.tuple #[.agg (({r with s:=⟨0,0,0⟩,pr:=[]}:Rc).vals {h with d:=Hd.nil}),.bool true])∧Below w.heap.size w w':=by
 obtain⟨k,t,s,pv,cm,n,pt,rd,wr,ps,pr,st⟩:=r
 change k=12 at hk
 subst hk
 go_enter Tryz.func41,Tryz.ntmps41
 go_upto_region 25 with fail
 go_wp2_with (first
  |(refine wpList_load_row rfl 38 _ rfl _ rfl _ _ (0,0) _ ((Blk.new _ _ _).alloc _) rfl rfl (by kernel_rfl) ?_)
  |(refine wpList_store_second rfl 38 _ _ rfl _ rfl rfl _ _ _ (by kernel_rfl) (by kernel_rfl) (by kernel_rfl) ?_))
 refine post_cell_tmp rfl (by rfl) (Blk.new' (g:=w.heap.size+1) _ _ (by simp)) rfl rfl (by kernel_rfl) ?_
 exact⟨rfl,by go_grown⟩
theorem without_0 (r:Rc) (h:Hds) (w:World) (hk:kindB r.k=false):
 Calls Tryz.prog 41 #[.agg (r.vals h)] w fun e w'=>e=.returned (.tuple #[.agg (r.vals h),.bool false])∧Below w.heap.size w w':=by
 obtain⟨k,t,s,pv,cm,n,pt,rd,wr,ps,pr,st⟩:=r
 change kindB k=false at hk
 unfold kindB at hk
 rw[decide_eq_false_iff_not]at hk
 have e1:(k==1)=false:=by simp;omega
 have e2:(k==2)=false:=by simp;omega
 have e3:(k==3)=false:=by simp;omega
 have e4:(k==4)=false:=by simp;omega
 have e5:(k==5)=false:=by simp;omega
 have e6:(k==6)=false:=by simp;omega
 have e7:(k==7)=false:=by simp;omega
 have e8:(k==8)=false:=by simp;omega
 have e9:(k==9)=false:=by simp;omega
 have e10:(k==10)=false:=by simp;omega
 have e11:(k==11)=false:=by simp;omega
 have e12:(k==12)=false:=by simp;omega
 clear hk
 go_enter Tryz.func41,Tryz.ntmps41
 go_upto_region 2 with fail
 go_wp2_with (first
  |(refine wpList_load_row rfl 38 _ rfl _ rfl _ _ (0,0) _ ((Blk.new _ _ _).alloc _) rfl rfl (by kernel_rfl) ?_)
  |(refine wpList_store_second rfl 38 _ _ rfl _ rfl rfl _ _ _ (by kernel_rfl) (by kernel_rfl) (by kernel_rfl) ?_))
 refine post_cell_tmp rfl (by rfl) (Blk.new' (g:=w.heap.size+1) _ _ (by simp)) rfl rfl (by kernel_rfl) ?_
 exact⟨rfl,by go_grown⟩
theorem without_any (r:Rc) (h:Hds) (w:World):
 Calls Tryz.prog 41 #[.agg (r.vals h)] w fun e w'=>e=.returned (.tuple #[.agg ((wipe r).vals (wipeH r.k h)),.bool (kindB r.k)])∧Below w.heap.size w w':=by
 cases hk:kindB r.k
 · have hk':=hk
   unfold kindB at hk'
   rw[decide_eq_false_iff_not]at hk'
   have e1:wipe r=r:=by unfold wipe;repeat (rw[if_neg (by omega)])
   have e2:wipeH r.k h=h:=by unfold wipeH;repeat (rw[if_neg (by omega)])
   rw[e1,e2]
   exact without_0 r h w hk
 · unfold kindB at hk
   rw[decide_eq_true_eq]at hk
   have hc:r.k=1∨r.k=2∨r.k=3∨r.k=4∨r.k=5∨r.k=6∨r.k=7∨r.k=8∨r.k=9∨r.k=10∨r.k=11∨r.k=12:=by omega
   rcases hc with e|e|e|e|e|e|e|e|e|e|e|e
   · have e1:wipe r={r with st:=zeroS}:=by unfold wipe;simp[e]
     have e2:wipeH r.k h={h with e:=Hd.nil,f:=Hd.nil}:=by unfold wipeH;simp[e]
     rw[e1,e2];exact without_1 r h w e
   · have e1:wipe r={r with n:=0}:=by unfold wipe;simp[e]
     have e2:wipeH r.k h=h:=by unfold wipeH;simp[e]
     rw[e1,e2];exact without_2 r h w e
   · have e1:wipe r={r with t:=⟨0,0,0⟩,s:=⟨0,0,0⟩,rd:=[],wr:=[],ps:=[]}:=by unfold wipe;simp[e]
     have e2:wipeH r.k h={h with a:=Hd.nil,b:=Hd.nil,c:=Hd.nil}:=by unfold wipeH;simp[e]
     rw[e1,e2];exact without_3 r h w e
   · have e1:wipe r={r with t:=⟨0,0,0⟩,cm:=false,s:=⟨0,0,0⟩}:=by unfold wipe;simp[e]
     have e2:wipeH r.k h=h:=by unfold wipeH;simp[e]
     rw[e1,e2];exact without_4 r h w e
   · have e1:wipe r={r with s:=⟨0,0,0⟩}:=by unfold wipe;simp[e]
     have e2:wipeH r.k h=h:=by unfold wipeH;simp[e]
     rw[e1,e2];exact without_5 r h w e
   · have e1:wipe r={r with pt:=0,n:=0,s:=⟨0,0,0⟩}:=by unfold wipe;simp[e]
     have e2:wipeH r.k h=h:=by unfold wipeH;simp[e]
     rw[e1,e2];exact without_6 r h w e
   · have e1:wipe r={r with n:=0}:=by unfold wipe;simp[e]
     have e2:wipeH r.k h=h:=by unfold wipeH;simp[e]
     rw[e1,e2];exact without_7 r h w e
   · have e1:wipe r={r with n:=0}:=by unfold wipe;simp[e]
     have e2:wipeH r.k h=h:=by unfold wipeH;simp[e]
     rw[e1,e2];exact without_8 r h w e
   · have e1:wipe r={r with t:=⟨0,0,0⟩,s:=⟨0,0,0⟩,ps:=[]}:=by unfold wipe;simp[e]
     have e2:wipeH r.k h={h with c:=Hd.nil}:=by unfold wipeH;simp[e]
     rw[e1,e2];exact without_9 r h w e
   · have e1:wipe r={r with t:=⟨0,0,0⟩}:=by unfold wipe;simp[e]
     have e2:wipeH r.k h=h:=by unfold wipeH;simp[e]
     rw[e1,e2];exact without_10 r h w e
   · have e1:wipe r={r with pv:=⟨0,0,0⟩,s:=⟨0,0,0⟩,t:=⟨0,0,0⟩,wr:=[]}:=by unfold wipe;simp[e]
     have e2:wipeH r.k h={h with b:=Hd.nil}:=by unfold wipeH;simp[e]
     rw[e1,e2];exact without_11 r h w e
   · have e1:wipe r={r with s:=⟨0,0,0⟩,pr:=[]}:=by unfold wipe;simp[e]
     have e2:wipeH r.k h={h with d:=Hd.nil}:=by unfold wipeH;simp[e]
     rw[e1,e2];exact without_12 r h w e
end Go.Proofs.YthdmanadhbpogaaGreat
/- The walks of Parts, the program's and the document's. -/
namespace Go.Proofs.YthdmanadhbpogaaGreat
set_option maxHeartbeats 4000000
set_option maxRecDepth 100000
set_option linter.unusedVariables false
open Go.RowKit Fl
attribute [local go_sem] run_store_float
def numsFrom:Option Int→List Int→Bool
 |_,[]=>true
 |p,n::l=>decide (1≤n)&&decide (n≤12)&&(match p with|none=>true|some q=>decide (q<n))&&numsFrom (some n) l
def partsB (l:List Int):Bool:=numsFrom none l&&decide (0<l.length)
theorem numsFrom_drop {l:List Int} {k:Nat} {a:Int} (h:l[k]?=some a):
 numsFrom (ahead l k) (l.drop k)=(decide (1≤a)&&decide (a≤12)&&(match ahead l k with|none=>true|some q=>decide (q<a))&&numsFrom (ahead l (k+1)) (l.drop (k+1))):=by
 have h1:=List.getElem?_eq_some_iff.1 h
 rw[List.drop_eq_getElem_cons h1.1,h1.2]
 show (_&&_&&_&&numsFrom (some a) _)=_
 rw[show ahead l (k+1)=some a from h]
def NumsRel (l:List Int) (w:World) (i:Value) (wr:World):Prop:=∃k:Nat,k≤l.length∧i=.int .i64 (k:Int)∧numsFrom (ahead l k) (l.drop k)=numsFrom none l∧w=wr
theorem parts_any (A:Option Addr) (n c:Nat) (l:List Int) (w:World) (h:Sl NmRel 1 w w.heap.size A n l) (hn:n≤maxLen):
 Calls Tryz.prog 14 #[.slice A n c] w fun e w'=>e=.returned (.bool (partsB l))∧w=w':=by
 unfold maxLen at hn
 have hl:=h.1
 have hge:n≤l.length:=by omega
 go_enter Tryz.func14,Tryz.ntmps14
 go_wp2
 go_loopw [7] (fun i wr=>NumsRel l w i wr) (fun i _=>n-(intOf i).toNat)
 case atStart=>exact⟨0,by omega,rfl,rfl,rfl⟩
 case round=>
  obtain⟨k,hk,rfl,hs,rfl⟩:=hrel
  by_cases hlt:k<n
  · obtain⟨ad,a,rfl,ha,hbk,hok,c0⟩:=h.nm hlt
    have hd1:decide ((k:Int)<(n:Int))=true:=by simp;omega
    have hk0:(0:Int)≤(k:Int):=by omega
    have hk1:(k:Int)<(n:Int):=by omega
    rw[numsFrom_drop ha]at hs
    by_cases h1:a<1
    · have HF:RowKit.Hid (partsB l=false):=by refine Lib.hid ?_;unfold partsB;rw[←hs,decide_eq_false (show ¬1≤a by omega)];rfl
      clear hs ha hl
      go_wp2
      go_ret
      rw[HF.out]
      exact⟨rfl,rfl⟩
    · rw[decide_eq_true (show 1≤a by omega),Bool.true_and]at hs
      by_cases h2:12<a
      · have HF:RowKit.Hid (partsB l=false):=by refine Lib.hid ?_;unfold partsB;rw[←hs,decide_eq_false (show ¬a≤12 by omega)];rfl
        clear hs ha hl
        go_wp2
        go_ret
        rw[HF.out]
        exact⟨rfl,rfl⟩
      · rw[decide_eq_true (show a≤12 by omega),Bool.true_and]at hs
        by_cases hz:k=0
        · have hd2:¬(0<k):=by omega
          have HS:=Lib.hid (show numsFrom (ahead l (k+1)) (l.drop (k+1))=numsFrom none l by rw[←hs,hz];simp[ahead])
          clear hs hl ha hz
          go_wp2
          go_roundw
          case rel=>exact⟨k+1,by omega,by go_num,HS.out,rfl⟩
          case measure=>simp[intOf];omega
        · obtain⟨ad',b,e',hb,hbk',hok',d0⟩:=h.nm (k:=k-1) (by omega)
          injection e' with e'
          subst e'
          have hd2:0<k:=by omega
          have hj0:(0:Int)≤(k:Int)-1:=by omega
          have hj1:(k:Int)-1<(n:Int):=by omega
          have hj2:((k:Int)-1).toNat=k-1:=by omega
          have hah:ahead l k=some b:=by
           cases k with
           |zero=>omega
           |succ j=>exact hb
          rw[hah]at hs
          by_cases h3:a≤b
          · have HF:RowKit.Hid (partsB l=false):=by refine Lib.hid ?_;unfold partsB;rw[←hs];simp[show ¬b<a by omega]
            clear hs hl ha hb hz hah
            go_wp2
            go_ret
            rw[HF.out]
            exact⟨rfl,rfl⟩
          · have HS:=Lib.hid (show numsFrom (ahead l (k+1)) (l.drop (k+1))=numsFrom none l by rw[←hs];simp only[decide_eq_true (show b<a by omega),Bool.true_and])
            clear hs hl ha hb hz hah
            go_wp2
            go_roundw
            case rel=>exact⟨k+1,by omega,by go_num,HS.out,rfl⟩
            case measure=>simp[intOf];omega
  · have hd1:decide ((k:Int)<(n:Int))=false:=by simp;omega
    have HS:=Lib.hid (show partsB l=decide ((0:Int)<(n:Int)) by unfold partsB;rw[←hs,List.drop_of_length_le (by omega),hl];simp[numsFrom])
    clear hs hl
    go_wp2
    go_ret
    rw[HS.out]
    exact⟨by simp,rfl⟩
end Go.Proofs.YthdmanadhbpogaaGreat
/- The walks of the document's upto (of all), Newest, old. -/
namespace Go.Proofs.YthdmanadhbpogaaGreat
set_option maxHeartbeats 8000000
set_option maxRecDepth 100000
set_option linter.unusedVariables false
open Go.RowKit Fl
attribute [local go_sem] run_store_float
def rvers (key:ByteArray) (l:List Hs):List Vn:=match l.find? fun h=>h.key.toList==key.toList with|some h=>h.vs|none=>[]
theorem at_find (key:ByteArray):∀(l:List Hs) (k:Nat),(atFrom key k l<0∧(l.find? fun h=>h.key.toList==key.toList)=none)∨∃(i:Nat) (h:Hs),atFrom key k l=((k+i:Nat):Int)∧l[i]?=some h∧(l.find? fun h=>h.key.toList==key.toList)=some h:=by
 intro l
 induction l with
 |nil=>intro k;exact .inl ⟨by show (-1:Int)<0;omega,rfl⟩
 |cons a l ih=>
  intro k
  by_cases he:(a.key.toList==key.toList)=true
  · refine .inr ⟨0,a,?_,rfl,?_⟩
    · show (if a.key.toList==key.toList then (k:Int) else _)=_;rw[if_pos he];simp
    · rw[List.find?_cons,he]
  · have e1:atFrom key k (a::l)=atFrom key (k+1) l:=by show (if a.key.toList==key.toList then (k:Int) else _)=_;rw[if_neg he]
    have e2:(a.key.toList==key.toList)=false:=by simpa using he
    rw[e1,List.find?_cons,e2]
    rcases ih (k+1) with ⟨h1,h2⟩|⟨i,h,h1,h2,h3⟩
    · exact .inl ⟨h1,h2⟩
    · exact .inr ⟨i+1,h,by rw[h1];omega,h2,h3⟩
theorem at_vers (key:ByteArray) (l:List Hs):(atFrom key 0 l<0∧rvers key l=[])∨∃(i:Nat) (h:Hs),atFrom key 0 l=(i:Int)∧l[i]?=some h∧rvers key l=h.vs:=by
 unfold rvers
 rcases at_find key l 0 with ⟨h1,h2⟩|⟨i,h,h1,h2,h3⟩
 · exact .inl ⟨h1,by rw[h2]⟩
 · exact .inr ⟨i,h,by rw[h1];omega,h2,by rw[h3]⟩
theorem rupto_any (g:Nat) (B1 B2:Option Addr) (m1 d1 m2 d2:Nat) (L:Sp) (Hl:List Hs) (Pl:List Pn) (key:ByteArray) (s:Sp) (w:World) (h:RSt w g B1 m1 d1 B2 m2 d2 L Hl Pl):
 Calls Tryz.prog 199 #[.pointer (some ⟨g,0,none⟩),.string key,s.val,.bool true] w fun e w'=>e=.returned (.agg (seenArr key (lastV (rvers key Hl))))∧Below w.heap.size w w':=by
 have hm:=h.m1
 unfold maxLen at hm
 have hl:=h.hs.1
 have hX:Below w.heap.size w (((w.alloc (.cells s.arr 25)).alloc (.cells (seenArr ⟨#[]⟩ zeroVn) 223)).alloc (.cells (seenArr key zeroVn) 223)):=by go_grown
 have i8:Blk (((w.alloc (.cells s.arr 25)).alloc (.cells (seenArr ⟨#[]⟩ zeroVn) 223)).alloc (.cells (seenArr key zeroVn) 223)) (w.heap.size+1) 223 (seenArr ⟨#[]⟩ zeroVn):=(Blk.new' _ _ (by simp)).alloc _
 have i9:Blk (((w.alloc (.cells s.arr 25)).alloc (.cells (seenArr ⟨#[]⟩ zeroVn) 223)).alloc (.cells (seenArr key zeroVn) 223)) (w.heap.size+1+1) 223 (seenArr key zeroVn):=Blk.new' _ _ (by simp)
 have hA:=rat_any g B1 B2 m1 d1 m2 d2 L Hl Pl key _ (h.below hX)
 rcases at_vers key Hl with ⟨hneg,hv⟩|⟨i,hh,hat,hi,hv⟩
 · have HV:=Lib.hid hv
   clear hv hl
   generalize atFrom key 0 Hl=z at*
   have hz:decide (z<0)=true:=by simp;omega
   go_enter Tryz.func199,Tryz.ntmps199
   go_wp2_with (go_at_call 169;fail)
   refine hA.mono ?_
   rintro e w1 ⟨rfl,hb1⟩
   have b8:=i8.below hb1 i8.lt
   have b9:=i9.below hb1 i9.lt
   have hb:=hX.trans (hb1.mono hX.size)
   obtain⟨g9,x0,x1,x2,x3,x4,x5,x6⟩:=b9.sevenC
   have l8:=b8.lt
   go_wp2_with (refine wpList_store_row rfl 223 _ _ rfl _ _ rfl rfl _ _ b8 (by kernel_rfl) (by kernel_rfl) (by kernel_rfl) ?_)
   refine post_cell rfl (by rfl) (b8.setRow _) rfl rfl (by kernel_rfl) ?_
   rw[HV.out]
   exact⟨rfl,below_setRow hb (by omega) _⟩
 · have HV:=Lib.hid hv
   have hilt:i<m1:=by have:=(List.getElem?_eq_some_iff.1 hi).1;omega
   rw[hat]at hA
   have HI:=Lib.hid hi
   have hz:decide ((i:Int)<0)=false:=by simp
   have hi0:(0:Int)≤(i:Int):=by omega
   have hi1:(i:Int)<(m1:Int):=by omega
   clear hv hl hat hi
   go_enter Tryz.func199,Tryz.ntmps199
   go_wp2_with (go_at_call 169;fail)
   refine hA.mono ?_
   rintro e w1 ⟨rfl,hb1⟩
   have b8:=i8.below hb1 i8.lt
   have b9:=i9.below hb1 i9.lt
   have hb0:=hX.trans (hb1.mono hX.size)
   clear hb1 i8 i9 hX hA
   go_wp2
   go_loopw [11] (fun j wr=>NewestRel key hh.vs w j wr) (fun j _=>hh.vs.length-(intOf j).toNat)
   case atStart=>exact⟨0,by omega,rfl,b8,b9,hb0⟩
   case round=>
    clear b8 b9 hb0
    obtain⟨k,hk',rfl,b8,b9,hb⟩:=hrel
    have hzz:=hb.size
    have hr:=h.below hb
    obtain⟨gl,k0,k1',-,-,-⟩:=hr.blk.fiveC
    obtain⟨ad,a1,A',n',c',rfl,ha1,hbk,hok,d0,d1',hn',hc',hsv⟩:=hr.hist.hs hilt
    obtain rfl:hh=a1:=Option.some.inj (HI.out.symm.trans ha1)
    have hll:=hsv.1
    have hge:n'≤hh.vs.length:=by omega
    have hle:hh.vs.length≤n':=by omega
    unfold maxLen at hc'
    clear hll ha1
    by_cases hlt:k<n'
    · obtain⟨bd,a,rfl,ha,hbk2,hok2,c0,c1,c2,c3,c4,c5⟩:=hsv.vn hlt
      have hd1:decide ((k:Int)<(n':Int))=true:=by simp;omega
      have hk0:(0:Int)≤(k:Int):=by omega
      have hk1:(k:Int)<(n':Int):=by omega
      have HS:=Lib.hid (lastV_take ha)
      have b11:=Blk.new wr 130 #[.int .i64 a.s.w,.int .i64 a.s.l,.int .i64 a.s.n,.int .i64 a.v.k,.float .f64 a.v.n,.string a.v.t]
      have b9':=b9.alloc (.cells #[.int .i64 a.s.w,.int .i64 a.s.l,.int .i64 a.s.n,.int .i64 a.v.k,.float .f64 a.v.n,.string a.v.t] 130)
      have b8':=b8.alloc (.cells #[.int .i64 a.s.w,.int .i64 a.s.l,.int .i64 a.s.n,.int .i64 a.v.k,.float .f64 a.v.n,.string a.v.t] 130)
      have hb':=hb.alloc hzz (.cells #[.int .i64 a.s.w,.int .i64 a.s.l,.int .i64 a.s.n,.int .i64 a.v.k,.float .f64 a.v.n,.string a.v.t] 130)
      clear ha
      go_wp2
      generalize hg11:wr.heap.size=g11 at*
      generalize (wr.alloc (.cells #[.int .i64 a.s.w,.int .i64 a.s.l,.int .i64 a.s.n,.int .i64 a.v.k,.float .f64 a.v.n,.string a.v.t] 130))=wz at*
      obtain⟨l11,x0,x1,x2,x3,x4,x5⟩:=b11.six
      obtain⟨g9,y0,y1,y2,y3,y4,y5,y6⟩:=b9'.sevenC
      have ne9:g11≠w.heap.size+1+1:=by have:=b9.lt;omega
      have ne10:¬w.heap.size+1+1=g11:=fun e=>ne9 e.symm
      clear c0 c1 c2 c3 c4 c5
      refine wp_region_held_drew (S:=fun w'=>Blk w' g11 130 #[.int .i64 a.s.w,.int .i64 a.s.l,.int .i64 a.s.n,.int .i64 a.v.k,.float .f64 a.v.n,.string a.v.t]) (by kernel_rfl) b11 (fun hHeld=>?_)
      refine tk 0 53 (v:=.pointer (some ⟨g11,3,none⟩)) rfl (Or.inl ⟨by kernel_rfl,fun w hSw=>by clear hSw;go_simp⟩) hHeld ?_
      go_frame
      refine wpAnyH_take (i:=1) (oi:=⟨some 54,_,_,_,_,_⟩) rfl (by kernel_rfl) (by kernel_rfl) (by kernel_rfl) (fun _ _ _ h=>h) (yieldsIf_load_mid (by kernel_rfl) _ _ rfl g11 3 rfl [.int .i64 a.v.k,.float .f64 a.v.n,.string a.v.t] _ (fun w h=>h.range 3 _ (three_of rfl rfl rfl)) rfl rfl (by kernel_rfl)) hHeld ?_
      go_frame
      refine tk 2 55 (v:=.pointer (some ⟨g11,0,none⟩)) rfl (Or.inl ⟨by kernel_rfl,fun w hSw=>by clear hSw;go_simp⟩) hHeld ?_
      go_frame
      refine wpAnyH_take (i:=3) (oi:=⟨some 56,_,_,_,_,_⟩) rfl (by kernel_rfl) (by kernel_rfl) (by kernel_rfl) (fun _ _ _ h=>h) (yieldsIf_load_mid (by kernel_rfl) _ _ rfl g11 0 rfl [.int .i64 a.s.w,.int .i64 a.s.l,.int .i64 a.s.n] _ (fun w h=>h.range 0 _ (three_of rfl rfl rfl)) rfl rfl (by kernel_rfl)) hHeld ?_
      go_frame
      refine tk 4 57 (v:=.pointer (some ⟨w.heap.size+1+1,1,none⟩)) rfl (Or.inl ⟨by kernel_rfl,fun w hSw=>by clear hSw;go_simp⟩) hHeld ?_
      go_frame
      have b9a:=b9'.drew.setCells3 (x:=.int .i64 a.v.k) (y:=.float .f64 a.v.n) (z:=.string a.v.t)
      have b11a:=b11.drew.setCells3_far (o:=1) (x:=.int .i64 a.v.k) (y:=.float .f64 a.v.n) (z:=.string a.v.t) ne9
      have b8a:=b8'.drew.setCells3_far (b:=w.heap.size+1+1) (o:=1) (x:=.int .i64 a.v.k) (y:=.float .f64 a.v.n) (z:=.string a.v.t) (by omega)
      have hba:=below_setCells3 (b:=w.heap.size+1+1) (o:=1) (x:=.int .i64 a.v.k) (y:=.float .f64 a.v.n) (z:=.string a.v.t) hb'.drew (by omega)
      refine wpAnyH_store_mid (i:=5) (by kernel_rfl) rfl rfl _ _ _ rfl (w.heap.size+1+1) 1 #[.int .i64 a.v.k,.float .f64 a.v.n,.string a.v.t] rfl rfl (b9'.drew.there 1 3 (by simp)) (by kernel_rfl) (by kernel_rfl) b11a ?_
      go_frame
      generalize (wz.drew.setCells (w.heap.size+1+1) 1 [.int .i64 a.v.k,.float .f64 a.v.n,.string a.v.t])=wq at*
      refine tk 6 58 (v:=.pointer (some ⟨w.heap.size+1+1,4,none⟩)) rfl (Or.inl ⟨by kernel_rfl,fun w hSw=>by clear hSw;go_simp⟩) b11a ?_
      go_frame
      have b9c:=b9a.setCells3' (x:=.int .i64 a.s.w) (y:=.int .i64 a.s.l) (z:=.int .i64 a.s.n)
      have b11c:=b11a.setCells3_far (b:=w.heap.size+1+1) (o:=4) (x:=.int .i64 a.s.w) (y:=.int .i64 a.s.l) (z:=.int .i64 a.s.n) ne9
      have b8c:=b8a.setCells3_far (b:=w.heap.size+1+1) (o:=4) (x:=.int .i64 a.s.w) (y:=.int .i64 a.s.l) (z:=.int .i64 a.s.n) (by omega)
      have hbc:=below_setCells3 (b:=w.heap.size+1+1) (o:=4) (x:=.int .i64 a.s.w) (y:=.int .i64 a.s.l) (z:=.int .i64 a.s.n) hba (by omega)
      refine wpAnyH_store_mid (i:=7) (by kernel_rfl) rfl rfl _ _ _ rfl (w.heap.size+1+1) 4 #[.int .i64 a.s.w,.int .i64 a.s.l,.int .i64 a.s.n] rfl rfl (b9a.there 4 3 (by simp)) (by kernel_rfl) (by kernel_rfl) b11c ?_
      generalize (wq.setCells (w.heap.size+1+1) 4 [.int .i64 a.s.w,.int .i64 a.s.l,.int .i64 a.s.n])=wp at*
      refine td ?_
      go_frame
      go_wp2
      go_roundw
      case rel=>
       refine⟨k+1,by omega,by go_num,b8c,?_,hbc⟩
       rw[HS.out]
       exact b9c
      case measure=>simp[intOf];omega
    · have hd1:decide ((k:Int)<(n':Int))=false:=by simp;omega
      rw[List.take_of_length_le (by omega)]at b9
      obtain⟨g9,x0,x1,x2,x3,x4,x5,x6⟩:=b9.sevenC
      have l8:=b8.lt
      go_wp2_with (refine wpList_store_row rfl 223 _ _ rfl _ _ rfl rfl _ _ b8 (by kernel_rfl) (by kernel_rfl) (by kernel_rfl) ?_)
      refine post_cell rfl (by rfl) (b8.setRow _) rfl rfl (by kernel_rfl) ?_
      rw[HV.out]
      exact⟨rfl,below_setRow hb (by omega) _⟩
theorem rnewest_any (g:Nat) (B1 B2:Option Addr) (m1 d1 m2 d2:Nat) (L:Sp) (Hl:List Hs) (Pl:List Pn) (key:ByteArray) (w:World) (h:RSt w g B1 m1 d1 B2 m2 d2 L Hl Pl):
 Calls Tryz.prog 168 #[.pointer (some ⟨g,0,none⟩),.string key] w fun e w'=>e=.returned (.agg (seenArr key (lastV (rvers key Hl))))∧Below w.heap.size w w':=by
 have hX:Below w.heap.size w (w.alloc (.cells (seenArr ⟨#[]⟩ zeroVn) 223)):=by go_grown
 have i4:=Blk.new w 223 (seenArr ⟨#[]⟩ zeroVn)
 have hN:=rupto_any g B1 B2 m1 d1 m2 d2 L Hl Pl key ⟨0,0,0⟩ _ (h.below hX)
 go_enter Tryz.func168,Tryz.ntmps168
 go_wp2_with (go_at_call 199;fail)
 refine hN.mono ?_
 rintro e w1 ⟨rfl,hb⟩
 have j4:=i4.below hb i4.lt
 go_wp2_with (refine wpList_store_row rfl 223 _ _ rfl _ _ rfl rfl _ _ j4 (by kernel_rfl) (by kernel_rfl) (by kernel_rfl) ?_)
 refine post_cell rfl (by rfl) (j4.setRow _) rfl rfl (by kernel_rfl) ?_
 exact⟨rfl,below_setRow (hX.trans (hb.mono hX.size)) (by omega) _⟩
end Go.Proofs.YthdmanadhbpogaaGreat
