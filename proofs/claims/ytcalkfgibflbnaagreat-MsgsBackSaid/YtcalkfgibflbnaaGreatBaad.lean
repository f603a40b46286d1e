/- Rows of structs that hold slices: what an element's slices read lies in blocks that the rows' own growth does not turn. Plain lemmas over any program. -/
import Derived.Carry
import Derived.Deep.CutRange
import Derived.Test.YtcalkfgibflbnaaGreatBaac
namespace Go.Proofs.YtcalkfgibflbnaaGreat
set_option linter.unusedVariables false
open Go.RowKit
def only (K:Nat->Bool) (w:World):World:={w with heap:=w.heap.mapIdx fun k o=>if K k then o else .cells #[] 0 (0,0)}
section
variable {K K':Nat->Bool} {w w':World} {p:Addr} {u:Value} {k:Nat}
theorem Ll:(only K w).heap.size=w.heap.size:=by simp[only]
theorem Qw (h:K k=true):(only K w).heap[k]?=w.heap[k]?:=by
 unfold only;simp only[Array.getElem?_mapIdx,h];cases w.heap[k]?<;>rfl
theorem qE (h:K p.block=true):(only K w).cell? p=w.cell? p:=World.cell?_of_block (Qw h)
theorem wP (h:K p.block=false):(only K w).cell? p=none:=by
 unfold only World.cell?;simp only[Array.getElem?_mapIdx,h];cases w.heap[p.block]?<;>simp
theorem tZ (h:(only K w).cell? p=some u):K p.block=true/\w.cell? p=some u:=by
 cases hk:K p.block
 · rw[wP hk]at h;cases h
 · rw[qE hk]at h;exact⟨rfl,h⟩
theorem Qx (h:∀k,K k=true->w'.heap[k]?=w.heap[k]?) (p:Addr):(only K w').cell? p=(only K w).cell? p:=by
 cases hk:K p.block
 · rw[wP hk,wP hk]
 · rw[qE hk,qE hk];exact World.cell?_of_block (h _ hk)
theorem Lm {base e size n:Nat} {v:Value} {xs:List Value} (h:w.ownsRow base e size v n xs) (hK:∀k,v.ownBlock=some k->K k=true):(only K w).ownsRow base e size v n xs:=by
 refine⟨h.1,?_⟩;rcases h.2 with hn|⟨g,cap,cur,rfl,hb,hgg,rest⟩
 · exact .inl hn
 · exact .inr ⟨g,cap,cur,rfl,hb,by rw[Qw (hK g rfl)];exact hgg,rest⟩
theorem Qy {base e size n:Nat} {v:Value} {xs:List Value} (h:w.ownsRow base e size v n xs) (hb:∀k,base<=k->k<w.heap.size->w'.heap[k]?=w.heap[k]?):w'.ownsRow base e size v n xs:=by
 refine⟨h.1,?_⟩;rcases h.2 with hn|⟨g,cap,cur,rfl,hg,hgg,rest⟩
 · exact .inl hn
 · exact .inr ⟨g,cap,cur,rfl,hg,by rw[hb g hg (Array.getElem?_eq_some_iff.1 hgg).1];exact hgg,rest⟩
end
def Rel.ji {α:Type} (R:Rel α):Prop:=∀w w' B cs a,R w B cs a->(∀p u,p.block<B->w.cell? p=some u->w'.cell? p=some u)->R w' B cs a
section
variable {α:Type} {R:Rel α} {size n:Nat} {w w':World} {B:Nat} {v:Value} {A:Option Addr} {l:List α}
theorem Sl.mono (hR:R.ji) (h:Sl R size w B A n l) (hk:∀p u,p.block<B->w.cell? p=some u->w'.cell? p=some u):Sl R size w' B A n l:=
 ⟨h.1,fun i a hi=>by
  obtain⟨ad,cs,e,hb,hl,hc,hr⟩:=h.2 i a hi;exact⟨ad,cs,e,hb,hl,fun j u hu=>hk _ _ (by rw[iW];exact hb) (hc j u hu),hR _ _ _ _ _ hr hk⟩⟩
theorem dH.mono (hR:R.ji) (h:dH R size w B v l) (hk:∀p u,p.block<B->w.cell? p=some u->w'.cell? p=some u):dH R size w' B v l:=by
 obtain⟨A,n,c,e,h1,h2,h3⟩:=h;exact⟨A,n,c,e,h1,h2,h3.mono hR hk⟩
end
theorem Flat.mono {α:Type} (cells:α->List Value) (ok:α->Prop):(Flat cells ok).ji:=fun _ _ _ _ _ h _=>h
theorem aO.mono:(aO).ji:=Flat.mono _ _
theorem aF.mono:(aF).ji:=Flat.mono _ _
theorem fC.mono:(fC).ji:=Flat.mono _ _
theorem aQ.mono:(aQ).ji:=fun _ _ _ _ _ ⟨v,e,hk,h⟩ hw=>⟨v,e,hk,h.mono fC.mono hw⟩
theorem aP.mono:(aP).ji:=fun _ _ _ _ _ ⟨r,q,e,h1,h2,h3,h4⟩ hw=>⟨r,q,e,h1,h2,h3.mono aO.mono hw,h4.mono aF.mono hw⟩
def jW {α:Type} (R:Rel α) (K:Nat->Bool) (w:World) (cs:List Value) (a:α):Prop:=R (only K w) w.heap.size cs a
section
variable {α:Type} {R:Rel α} {K K':Nat->Bool} {w w':World} {cs:List Value} {a:α}
theorem jW.keep (hR:R.Kept) (h:jW R K w cs a) (hb:∀k,K k=true->w'.heap[k]?=w.heap[k]?) (hs:w.heap.size<=w'.heap.size):jW R K w' cs a:=
 hR.2 _ _ _ _ _ (hR.1 _ _ _ _ _ h fun p _=>Qx hb p) hs
theorem jW.wider (hR:R.ji) (h:jW R K w cs a) (hK:∀k,K k=true->K' k=true):jW R K' w cs a:=
 hR _ _ _ _ _ h fun p u _ hc=>by
  obtain⟨hk,hw⟩:=tZ hc;rw[qE (hK _ hk)];exact hw
end
theorem Qz (k:Nat):∀(css:List (List Value)) (i r:Nat),(∀cs∈css,cs.length=k)->r<k->css.flatten[i*k+r]?=(css[i]?).bind fun cs=>cs[r]?:=by
 intro css
 induction css with
 |nil=>intro i r _ _;simp
 |cons cs css ih=>
  intro i r hl hr;have h0:=hl cs (List.mem_cons_self ..);rw[List.flatten_cons];cases i with
  |zero=>rw[Nat.zero_mul,Nat.zero_add,List.getElem?_append_left byOmega];rfl
  |succ i=>
   have e:(i+1)*k+r=k+(i*k+r):=(by rw[Nat.succ_mul];omega);rw[e,List.getElem?_append_right byOmega,h0,Nat.add_sub_cancel_left,ih i r (fun c hc=>hl c (List.mem_cons_of_mem _ hc)) hr];rfl
def jH {α:Type} (R:Rel α) (E size base:Nat) (K:Nat->Bool) (w:World) (v:Value) (l:List α):Prop:=
 ∃css:List (List Value),w.ownsRow base E size v l.length css.flatten/\css.length=l.length/\(∀cs∈css,cs.length=size)/\∀(i:Nat) (cs:List Value) (a:α),css[i]?=some cs->l[i]?=some a->jW R K w cs a
section
variable {α:Type} {R:Rel α} {E size base:Nat} {K K':Nat->Bool} {w w':World} {v:Value} {l:List α}
theorem jH.nil (w:World):jH R E size base K w (.slice none 0 0) []:=⟨[],World.ownsRow_nil _ _ _ _,rfl,fun cs h=>by simp at h,fun i cs a h=>by simp at h⟩
theorem jH.form (h:jH R E size base K w v l):∃A c,v=.slice A l.length c/\l.length<=c/\c<=maxLen:=by
 obtain⟨css,ho,_⟩:=h;exact fP ho
theorem jH.lt (h:jH R E size base K w v l):∀k,v.ownBlock=some k->base<=k/\k<w.heap.size:=by
 obtain⟨css,ho,_⟩:=h;exact ho.lt
theorem jH.held (hR:R.ji) (hsz:0<size) (h:jH R E size base K w v l) (hK:∀k,K k=true->K' k=true) (hv:∀k,v.ownBlock=some k->K' k=true):dH R size (only K' w) w.heap.size v l:=by
 obtain⟨css,ho,hlen,hl,hc⟩:=h;obtain⟨A,c,rfl,h1,h2⟩:=fP ho;refine⟨A,_,c,rfl,h1,h2,rfl,fun i a hi=>?_⟩;have hlt:=(List.getElem?_eq_some_iff.1 hi).1;have hr:=Reads.kK (Lm ho hv);obtain⟨ad,e,hb,hcell⟩:=hr.2 byOmega;have hcs:css[i]?=some css[i]:=List.getElem?_eq_getElem byOmega;have hm:css[i]∈css:=List.getElem_mem _;refine⟨ad,css[i],e,by rw[Ll]at hb;exact hb,hl _ hm,fun j u hj=>hcell _ u ?_,(hc i _ a hcs hi).wider hR hK⟩;have hj':=(List.getElem?_eq_some_iff.1 hj).1;rw[Qz size css i j hl (by rw[<-hl _ hm];exact hj'),hcs];exact hj
theorem jH.same (hR:R.Kept) (sD:R.ji) (h:jH R E size base K w v l) (hs:w.heap.size<=w'.heap.size) (hb:∀k,base<=k->k<w.heap.size->w'.heap[k]?=w.heap[k]?) (hK:∀k,K k=true->base<=k/\k<w.heap.size/\K' k=true):jH R E size base K' w' v l:=by
 obtain⟨css,ho,hlen,hl,hc⟩:=h;exact⟨css,Qy ho hb,hlen,hl,fun i cs a h1 h2=>((hc i cs a h1 h2).keep hR (fun k hk=>hb k (hK k hk).1 (hK k hk).2.1) hs).wider sD fun k hk=>(hK k hk).2.2⟩
end
def qc (base size:Nat) (v1 v2:Value):Nat->Bool:=fun k=>decide (base<=k)&&decide (k<size)&&decide (v1.ownBlock≠some k)&&decide (v2.ownBlock≠some k)
theorem yQ {base size k:Nat} {v1 v2:Value}:qc base size v1 v2 k=true↔base<=k/\k<size/\v1.ownBlock≠some k/\v2.ownBlock≠some k:=by
 unfold qc;simp only[Bool.and_eq_true,decide_eq_true_eq,and_assoc]
def Pair {α:Type} (R:Rel α) (E size base:Nat) (w:World) (v1 v2:Value) (l1 l2:List α):Prop:=
 jH R E size base (qc base w.heap.size v1 v2) w v1 l1/\jH R E size base (qc base w.heap.size v1 v2) w v2 l2/\Ia v1 v2
section
variable {α:Type} {R:Rel α} {E size base:Nat} {w w':World} {v1 v2:Value} {l1 l2:List α}
theorem Pair.nil (w:World):Pair R E size base w (.slice none 0 0) (.slice none 0 0) [] []:=⟨jH.nil _,jH.nil _,Ia.nil _⟩
theorem Pair.same (hR:R.Kept) (sD:R.ji) (h:Pair R E size base w v1 v2 l1 l2) (hs:w.heap.size<=w'.heap.size) (hb:∀k,base<=k->k<w.heap.size->w'.heap[k]?=w.heap[k]?):Pair R E size base w' v1 v2 l1 l2:=by
 obtain⟨h1,h2,h3⟩:=h;have hK:∀k,qc base w.heap.size v1 v2 k=true->base<=k/\k<w.heap.size/\qc base w'.heap.size v1 v2 k=true:=fun k hk=>by
  rw[yQ]at*;exact⟨hk.1,hk.2.1,hk.1,byOmega,hk.2.2⟩
 exact⟨h1.same hR sD hs hb hK,h2.same hR sD hs hb hK,h3⟩
theorem Pair.below (hR:R.Kept) (sD:R.ji) (h:Pair R E size base w v1 v2 l1 l2) (hb:Below w.heap.size w w'):Pair R E size base w' v1 v2 l1 l2:=h.same hR sD hb.size fun k _ hk=>hb.block k hk
theorem Pair.Zy (hR:R.Kept) (sD:R.ji) (h:Pair R E size base w v1 v2 l1 l2):∃xs,w.ownsRow base E size v1 l1.length xs/\
 ∀(cs:List Value) (a:α) (w':World) (v':Value),cs.length=size->jW R (qc base w.heap.size v1 v2) w cs a->w'.ownsRow base E size v' (l1.length+1) (xs++cs)->w.grownBy w' v1.ownBlock->(v'.ownBlock=v1.ownBlock∨v'.ownBlock=some w.heap.size)->
  Pair R E size base w' v' v2 (l1++[a]) l2:=by
 obtain⟨⟨css,ho,hlen,hl,hc⟩,⟨ds,ho2,hlen2,hl2,hc2⟩,hd⟩:=h;refine⟨css.flatten,ho,fun cs a w' v' hcs hin hown hg hat=>?_⟩;have hK:∀k,qc base w.heap.size v1 v2 k=true->qc base w'.heap.size v' v2 k=true:=fun k hk=>by
  rw[yQ]at*;have:=hg.size;refine⟨hk.1,byOmega,fun e=>?_,hk.2.2.2⟩;rcases hat with e2|e2
  · rw[e2]at e;exact hk.2.2.1 e
  · rw[e2]at e;injection e with e;omega
 have hB:∀k,qc base w.heap.size v1 v2 k=true->w'.heap[k]?=w.heap[k]?:=fun k hk=>by
  rw[yQ]at hk;exact hg.block k hk.2.1 (fun e=>hk.2.2.1 e.symm)
 have up:∀{cs:List Value} {a:α},jW R (qc base w.heap.size v1 v2) w cs a->jW R (qc base w'.heap.size v' v2) w' cs a:=fun hi=>(hi.keep hR hB hg.size).wider sD hK
 have hlt:=ho2.lt;refine⟨⟨css++[cs],?_,by simp[hlen],?_,?_⟩,⟨ds,?_,hlen2,hl2,fun i cs a h1 h2=>up (hc2 i cs a h1 h2)⟩,?_⟩
 · rw[aK,List.flatten_append];simpa using hown
 · intro c hc';rcases List.mem_append.1 hc' with h1|h1
   · exact hl c h1
   · simp only[List.mem_cons,List.not_mem_nil,or_false]at h1;rw[h1];exact hcs
 · intro i c b h1 h2;by_cases hi:i<l1.length
   · rw[List.getElem?_append_left byOmega]at h1 h2;exact up (hc i c b h1 h2)
   · have hi2:i=l1.length:=by
        have:=(List.getElem?_eq_some_iff.1 h2).1;rw[aK,List.length_cons,List.length_nil]at this;omega
     subst hi2;rw[List.getElem?_append_right (Nat.le_refl _)]at h2;rw[<-hlen,List.getElem?_append_right (Nat.le_refl _)]at h1;simp only[Nat.sub_self,getZero,Option.some.injEq]at h1 h2;subst h1 h2;exact up hin
 · refine ho2.kept hg ?_;cases e:v2.ownBlock with
   |none=>exact .inl rfl
   |some k=>exact .inr fun e2=>hd k e2.symm e
 · intro k e e2;rcases hat with e3|e3
   · exact hd k (e3.symm.trans e) e2
   · have:=(hlt k e2).2;rw[e3]at e;injection e;omega
theorem Pair.QA (h:Pair R E size base w v1 v2 l1 l2):∃A c,v1=.slice A l1.length c/\l1.length<=c/\c<=maxLen:=h.1.form
theorem Pair.fresh (h:Pair R E size base w v1 v2 l1 l2) (hs:w.heap.size<=w'.heap.size) {b:Nat} (hb:w.heap.size<=b) (hbb:base<=b):∀k,b<=k->k<w'.heap.size->qc base w'.heap.size v1 v2 k=true:=fun k hk hk2=>by
 rw[yQ];refine⟨byOmega,hk2,fun e=>?_,fun e=>?_⟩
 · have:=(h.1.lt k e).2;omega
 · have:=(h.2.1.lt k e).2;omega
end
theorem bV.inn {α:Type} {f:α->List Value} {ok:α->Prop} {E size b:Nat} {K:Nat->Bool} {w:World} {v:Value} {l:List α} (hk:0<size) (hf:∀a,(f a).length=size) (h:bV f E size b w v l) (hok:∀a∈l,ok a) (hK:∀k,b<=k->k<w.heap.size->K k=true):
 dH (Flat f ok) size (only K w) w.heap.size v l:=by
 have h':bV f E size b (only K w) v l:=Lm h fun k e=>hK k (h.lt k e).1 (h.lt k e).2
 have:=h'.sl hk hf hok;rw[Ll]at this;exact this
def rng (a b:Nat):Nat->Bool:=fun k=>decide (a<=k)&&decide (k<b)
theorem uf {a b k:Nat}:rng a b k=true↔a<=k/\k<b:=by unfold rng;simp only[Bool.and_eq_true,decide_eq_true_eq]
theorem Pair.held {α:Type} {R:Rel α} {E size base:Nat} {w:World} {v1 v2:Value} {l1 l2:List α} (sD:R.ji) (hsz:0<size) (h:Pair R E size base w v1 v2 l1 l2):
 dH R size (only (rng base w.heap.size) w) w.heap.size v1 l1/\dH R size (only (rng base w.heap.size) w) w.heap.size v2 l2:=
 ⟨h.1.held sD hsz (fun k hk=>by rw[yQ]at hk;rw[uf];exact⟨hk.1,hk.2.1⟩) fun k e=>uf.2 (h.1.lt k e),
  h.2.1.held sD hsz (fun k hk=>by rw[yQ]at hk;rw[uf];exact⟨hk.1,hk.2.1⟩) fun k e=>uf.2 (h.2.1.lt k e)⟩
end Go.Proofs.YtcalkfgibflbnaaGreat
namespace Go.Proofs.YtcalkfgibflbnaaGreat
set_option maxHeartbeats 1000000
set_option maxRecDepth 100000
set_option linter.unusedVariables false
open Go.ChangeShapes Go.WideShapes Go.RowKit
structure Rc where
 k:Int
 t:Tx
 s:Sp
 pv:Sp
 cm:Bool
 n:Int
 pt:Nat
 rd:List ByteArray
 wr:List Wt
 ps:List Int
 pr:List Wt
 st:dP
abbrev Rc.arr (r:Rc) (v1 v2 v3 v4 v5 v6:Value):Array Value:=#[.int .i64 r.k,.int .i64 r.t.c,.int .i64 r.t.l,.int .i64 r.t.s,.int .i64 r.s.w,.int .i64 r.s.l,.int .i64 r.s.n,.int .i64 r.pv.w,.int .i64 r.pv.l,.int .i64 r.pv.n,.bool r.cm,.int .i64 r.n,.float .f64 r.pt,v1,v2,v3,v4,.int .i64 r.st.r.id,.int .i64 r.st.r.ep,.float .f64 r.st.r.lo,.float .f64 r.st.r.hi,.int .i64 r.st.f.w,.int .i64 r.st.f.l,.int .i64 r.st.f.n,.int .i64 r.st.c.w,.int .i64 r.st.c.l,.int .i64 r.st.c.n,v5,v6]
def sF (n:Int):List Value:=[.int .i64 n]
abbrev bK:Rel Int:=Flat sF bG
theorem bK.kept:(bK).Kept:=Flat.kept _ _
theorem bK.mono:(bK).ji:=Flat.mono _ _
theorem Zz (a:Int):∀u∈sF a,u.oneCell'=true:=by
 intro u hu;simp only[sF,List.mem_cons,List.not_mem_nil,or_false]at hu;subst hu;rfl
theorem Sl.nm {w:World} {B n:Nat} {A:Option Addr} {l:List Int} (h:Sl bK 1 w B A n l) {k:Nat} (hk:k<n):∃ad a,A=some ad/\l[k]?=some a/\(ad.add k).block<B/\bG a/\w.cell? (ad.add k)=some (.int .i64 a):=by
 obtain⟨ad,cs,a,e,hl,hb,_,hc,rfl,hok⟩:=h.at_ hk;have c0:=hc 0 _ rfl;rw[Nat.mul_one,Nat.add_zero]at c0;exact⟨ad,a,e,hl,by rw[iW];exact hb,hok,c0⟩
structure Hd where
 A:Option Addr
 n:Nat
 c:Nat
abbrev Hd.v (h:Hd):Value:=.slice h.A h.n h.c
abbrev Hd.nil:Hd:=⟨none,0,0⟩
structure aV where
 a:Hd
 b:Hd
 c:Hd
 d:Hd
 e:Hd
 f:Hd
abbrev Rc.vals (r:Rc) (h:aV):Array Value:=r.arr (.slice h.a.A h.a.n h.a.c) (.slice h.b.A h.b.n h.b.c) (.slice h.c.A h.c.n h.c.c) (.slice h.d.A h.d.n h.d.c) (.slice h.e.A h.e.n h.e.c) (.slice h.f.A h.f.n h.f.c)
structure dO (w:World) (r:Rc) (h:aV):Prop where
 rd:Sl aO 1 w w.heap.size h.a.A h.a.n r.rd
 wr:Sl aF 4 w w.heap.size h.b.A h.b.n r.wr
 ps:Sl bK 1 w w.heap.size h.c.A h.c.n r.ps
 pr:Sl aF 4 w w.heap.size h.d.A h.d.n r.pr
 hs:Sl aQ 2 w w.heap.size h.e.A h.e.n r.st.h
 pn:Sl aP 8 w w.heap.size h.f.A h.f.n r.st.p
 na:h.a.n<=maxLen
 nb:h.b.n<=maxLen
 nc:h.c.n<=maxLen
 nd:h.d.n<=maxLen
 ne:h.e.n<=maxLen
 nf:h.f.n<=maxLen
theorem dO.below {w w':World} {r:Rc} {h:aV} (i:dO w r h) (hb:Below w.heap.size w w'):dO w' r h:=
 ⟨(i.rd.below aO.kept hb).more aO.kept hb.size,(i.wr.below aF.kept hb).more aF.kept hb.size,(i.ps.below bK.kept hb).more bK.kept hb.size,(i.pr.below aF.kept hb).more aF.kept hb.size,
   (i.hs.below aQ.kept hb).more aQ.kept hb.size,(i.pn.below aP.kept hb).more aP.kept hb.size,i.na,i.nb,i.nc,i.nd,i.ne,i.nf⟩
structure Rc.ok (r:Rc):Prop where
 k:bG r.k
 t:r.t.ok
 s:r.s.ok
 pv:r.pv.ok
 n:bG r.n
 pt:r.pt<18446744073709551616
 rg:r.st.r.ok
 fl:r.st.f.ok
 cl:r.st.c.ok
section
variable {H:Type} {enc:TypeId×Value->H} {w:World}
theorem QB {v:Value} (h:Opn enc Tryz.prog w 30 [v]):∃l,dH bK 1 w w.heap.size v l:=
 h.slice bK 1 byOmega Tryz.underlying30 ah fun cs hl ho=>by
  match cs,hl with
  |[c0],_=>
   obtain⟨s,rfl,hs⟩:=ho.int Tryz.underlying3;exact⟨s,rfl,hs⟩
theorem ZA {cs:List Value} (h:Opn enc Tryz.prog w 105 cs):∃v:Wt,cs=v.cells/\v.ok:=by
 have hl:=h.len Tryz.underlying105;rw[show Tryz.prog.cellsOf 105=4 from ah]at hl
 match cs,hl with
 |[c0,c1,c2,c3],_=>
  obtain⟨x0,rfl,h0⟩:=(h.cZ 0 1 (ty:=9) (off:=0) ah ah).str Tryz.underlying9;obtain⟨x1,e1,h1⟩:=Ht (h.cZ 1 3 (ty:=59) (off:=1) ah ah);refine⟨⟨x0,x1⟩,?_,h0,h1⟩;change [c1,c2,c3]=_ at e1;rw[e1];rfl
theorem ZB {v:Value} (h:Opn enc Tryz.prog w 67 [v]):∃l,dH aF 4 w w.heap.size v l:=
 h.slice aF 4 byOmega Tryz.underlying67 ah fun _ _ ho=>ZA ho
theorem ZC {cs:List Value} (h:Opn enc Tryz.prog w 69 cs):∃(r:Rc) (v1 v2 v3 v4 v5 v6:Value),cs=(r.arr v1 v2 v3 v4 v5 v6).toList/\r.ok/\dH aO 1 w w.heap.size v1 r.rd/\dH aF 4 w w.heap.size v2 r.wr/\
 dH bK 1 w w.heap.size v3 r.ps/\dH aF 4 w w.heap.size v4 r.pr/\dH aQ 2 w w.heap.size v5 r.st.h/\dH aP 8 w w.heap.size v6 r.st.p:=by
 have hl:=h.len Tryz.underlying69;rw[show Tryz.prog.cellsOf 69=29 from ah]at hl
 match cs,hl with
 |[c0,c1,c2,c3,c4,c5,c6,c7,c8,c9,c10,c11,c12,c13,c14,c15,c16,c17,c18,c19,c20,c21,Fv,c23,c24,c25,Bl,Bo,c28],_=>
  obtain⟨k,rfl,hk⟩:=(h.cZ 0 1 (ty:=3) (off:=0) ah ah).int Tryz.underlying3;obtain⟨t,e1,ht⟩:=Ld (h.cZ 1 3 (ty:=23) (off:=1) ah ah);obtain⟨s,e2,hs⟩:=yP (h.cZ 2 3 (ty:=26) (off:=4) ah ah);obtain⟨pv,e3,hpv⟩:=yP (h.cZ 3 3 (ty:=26) (off:=7) ah ah);obtain⟨cm,rfl⟩:=(h.cZ 4 1 (ty:=4) (off:=10) ah ah).bool Tryz.underlying4;obtain⟨n,rfl,hn⟩:=(h.cZ 5 1 (ty:=3) (off:=11) ah ah).int Tryz.underlying3;obtain⟨pt,rfl,hpt⟩:=(h.cZ 6 1 (ty:=33) (off:=12) ah ah).float Tryz.underlying33;obtain⟨rd,hrd⟩:=Le (h.cZ 7 1 (ty:=27) (off:=13) ah ah);obtain⟨wr,hwr⟩:=J6 (h.cZ 8 1 (ty:=29) (off:=14) ah ah);obtain⟨ps,hps⟩:=QB (h.cZ 9 1 (ty:=30) (off:=15) ah ah);obtain⟨pr,hpr⟩:=ZB (h.cZ 10 1 (ty:=67) (off:=16) ah ah);obtain⟨st,a,b,e4,q1,q2,q3,q4,q5⟩:=Qr (h.cZ 11 12 (ty:=39) (off:=17) ah ah);refine⟨⟨k,t,s,pv,cm,n,pt,rd,wr,ps,pr,st⟩,c13,c14,c15,c16,a,b,?_,⟨hk,ht,hs,hpv,hn,hpt,q1,q2,q3⟩,hrd,hwr,hps,hpr,q4,q5⟩;change [c1,c2,c3]=_ at e1;change [c4,c5,c6]=_ at e2;change [c7,c8,c9]=_ at e3;change [c17,c18,c19,c20,c21,Fv,c23,c24,c25,Bl,Bo,c28]=_ at e4;show [.int .i64 k]++([c1,c2,c3]++([c4,c5,c6]++([c7,c8,c9]++([.bool cm,.int .i64 n,.float .f64 pt,c13,c14,c15,c16]++[c17,c18,c19,c20,c21,Fv,c23,c24,c25,Bl,Bo,c28]))))=_;rw[e1,e2,e3,e4];rfl
end
end Go.Proofs.YtcalkfgibflbnaaGreat
namespace Go.Proofs.YtcalkfgibflbnaaGreat
set_option linter.unusedVariables false
open Go.RowKit Fl
attribute [local go_sem] dJ
section
variable {α:Type} {R:Rel α} {E size base:Nat} {K:Nat->Bool} {w w':World} {v:Value} {l:List α}
theorem jH.own (hR:R.Kept) (h:jH R E size base K w v l) (hK:∀k,K k=true->k<base) (hbs:base<=w.heap.size):∃xs,w.ownsRow base E size v l.length xs/\
 ∀(cs:List Value) (a:α) (w':World) (v':Value),cs.length=size->jW R K w cs a->w'.ownsRow base E size v' (l.length+1) (xs++cs)->w.grownBy w' v.ownBlock->jH R E size base K w' v' (l++[a]):=by
 obtain⟨css,ho,hlen,hl,hc⟩:=h;refine⟨css.flatten,ho,fun cs a w' v' hcs hin hown hg=>?_⟩;have hB:∀k,K k=true->w'.heap[k]?=w.heap[k]?:=fun k hk=>hg.block k (by have:=hK k hk;omega) (fun e=>by have:=(ho.lt k e.symm).1;have:=hK k hk;omega)
 refine⟨css++[cs],?_,by simp[hlen],?_,?_⟩
 · rw[aK,List.flatten_append];simpa using hown
 · intro c hc';rcases List.mem_append.1 hc' with h1|h1
   · exact hl c h1
   · simp only[List.mem_cons,List.not_mem_nil,or_false]at h1;rw[h1];exact hcs
 · intro i c b h1 h2;by_cases hi:i<l.length
   · rw[List.getElem?_append_left byOmega]at h1 h2;exact(hc i c b h1 h2).keep hR hB hg.size
   · have hi2:i=l.length:=by
        have:=(List.getElem?_eq_some_iff.1 h2).1;rw[aK,List.length_cons,List.length_nil]at this;omega
     subst hi2;rw[List.getElem?_append_right (Nat.le_refl _)]at h2;rw[<-hlen,List.getElem?_append_right (Nat.le_refl _)]at h1;simp only[Nat.sub_self,getZero,Option.some.injEq]at h1 h2;subst h1 h2;exact hin.keep hR hB hg.size
end
abbrev zeroCells:Array Value:=#[.int .i64 0,.int .i64 0,.float .f64 0,.float .f64 0,.int .i64 0,.int .i64 0,.int .i64 0,.int .i64 0,.int .i64 0,.int .i64 0,.slice none 0 0,.slice none 0 0]
theorem aj.dozen {w:World} {g:Nat} {t:TypeId} {a b c d e f h i j k l m:Value} (hh:aj w g t #[a,b,c,d,e,f,h,i,j,k,l,m]):
 g<w.heap.size/\w.cell? ⟨g,0,none⟩=some a/\w.cell? ⟨g,1,none⟩=some b/\w.cell? ⟨g,2,none⟩=some c/\w.cell? ⟨g,3,none⟩=some d/\w.cell? ⟨g,4,none⟩=some e/\w.cell? ⟨g,5,none⟩=some f/\
 w.cell? ⟨g,6,none⟩=some h/\w.cell? ⟨g,7,none⟩=some i/\w.cell? ⟨g,8,none⟩=some j/\w.cell? ⟨g,9,none⟩=some k/\w.cell? ⟨g,10,none⟩=some l/\w.cell? ⟨g,11,none⟩=some m:=
 ⟨hh.lt,hh.cell 0,hh.cell 1,hh.cell 2,hh.cell 3,hh.cell 4,hh.cell 5,hh.cell 6,hh.cell 7,hh.cell 8,hh.cell 9,hh.cell 10,hh.cell 11⟩
theorem vP {P:Program} {ops:Array Oper} {S:World->Prop} {op:Oper} {a:Act} (hw:Region.wanted op (yielded ops a.tmps)=true) (ty:TypeId) (x:Operand) (ho:op.op=.load ty x)
 (g:Nat) (hx:a.eval x=.pointer (some ⟨g,0,none⟩)) (t:TypeId) (cs:Array Value) (d:TypeDesc) (hS:∀w,S w->aj w g t cs)
 (hu:P.underlying ty=some d) (hd:(match d with| .struct _| .array _ _=>true|_=>false)=true) (hi:(P.info? ty).map (·.size)=some cs.size):YieldsIf P ops S op (.agg cs) a:=
 .inl ⟨hw,fun w hw'=>by
  unfold execOp;simp only[ho,hx,Instr.loadAt,Instr.sureAddr,Sem.run_bind,Sem.run_pure,Result.andThen_ok,run_loadVar_row w g t ty cs (0,0) d (hS w hw') hu hd hi]⟩
theorem ZE (w:World) (t:TypeId) (c c':Array Value):(w.alloc (.cells c t)).setRow w.heap.size c'=w.alloc (.cells c' t):=by
 unfold World.setRow World.alloc
 congr 1
 apply Array.ext_getElem?;intro i;simp only[Array.getElem?_modify,Array.getElem?_push];by_cases h:i=w.heap.size
 · subst h;simp
 · have h':w.heap.size≠i:=fun e=>h e.symm
   simp[h,h']
theorem xO {P:Program} {ops:Array Oper} {rest:List Oper} {o:Oper} {a:Act} {w:World} {Q:Exit->Act->World->Prop} (hgd:o.guard=none) (ty:TypeId) (x y:Operand) (ho:o.op=.store ty x y)
 (cells:Array Value) (hx:a.eval x=.pointer (some ⟨w.heap.size,0,none⟩)) (hy:a.eval y=.agg cells)
 (t:TypeId) (old:Array Value) (hi:(P.info? ty).map (·.size)=some cells.size)
 (hold:old.size=cells.size) (h1:cells.all (·.oneCell')=true)
 (h:wpList P ops Q rest (a.put o.dst undef) (w.alloc (.cells cells t))):wpList P ops Q (o::rest) a (w.alloc (.cells old t)):=
 wpList_store_row hgd ty x y ho _ cells hx hy t old (aj.new w t old) hi hold h1 (by rw[ZE];exact h)
theorem ZF:(Tryz.prog.info? 158).map (fun i=>(i.zero,i.size,i.bytes))=some (some (.agg #[.string ⟨#[]⟩,.slice none 0 0]),2,40):=ah
theorem QC:(Tryz.prog.info? 162).map (fun i=>(i.zero,i.size,i.bytes))=some (some (.agg jU),8,96):=ah
abbrev Pn.cs (p:Pn) (r q:Value):List Value:=[.int .i64 p.t.c,.int .i64 p.t.l,.int .i64 p.t.s,.int .i64 p.s.w,.int .i64 p.s.l,.int .i64 p.s.n,r,q]
theorem Ij (p:Pn) (A1 A2:Option Addr) (n1 n2 c1 c2:Nat):∀u∈p.cs (.slice A1 n1 c1) (.slice A2 n2 c2),u.oneCell'=true:=by
 intro u hu;simp only[Pn.cs,List.mem_cons,List.not_mem_nil,or_false]at hu;rcases hu with rfl|rfl|rfl|rfl|rfl|rfl|rfl|rfl<;>rfl
theorem bV.Ik {α:Type} {f:α->List Value} {ok:α->Prop} {E size b:Nat} {K:Nat->Bool} {w:World} {v:Value} {l:List α} (hk:0<size) (hf:∀a,(f a).length=size) (h:bV f E size b w v l) (hok:∀a∈l,ok a) (hK:∀k,v.ownBlock=some k->K k=true):
 dH (Flat f ok) size (only K w) w.heap.size v l:=by
 have h':bV f E size b (only K w) v l:=Lm h hK;have:=h'.sl hk hf hok;rw[Ll]at this;exact this
set_option maxHeartbeats 4000000
set_option maxRecDepth 100000
def lU:Option Int->List Int->Bool
 |_,[]=>true
 |p,n::l=>decide (1<=n)&&decide (n<=12)&&(match p with|none=>true|some q=>decide (q<n))&&lU (some n) l
def dQ (l:List Int):Bool:=lU none l&&decide (0<l.length)
theorem QD {l:List Int} {k:Nat} {a:Int} (h:l[k]?=some a):
 lU (ahead l k) (l.drop k)=(decide (1<=a)&&decide (a<=12)&&(match ahead l k with|none=>true|some q=>decide (q<a))&&lU (ahead l (k+1)) (l.drop (k+1))):=by
 have h1:=List.getElem?_eq_some_iff.1 h;rw[List.drop_eq_getElem_cons h1.1,h1.2];show (_&&_&&_&&lU (some a) _)=_;rw[show ahead l (k+1)=some a from h]
theorem ZG:∀(l:List Int) (q:Int),q<=12->lU (some q) l=true->(l.length:Int)<=12-q:=by
 intro l
 induction l with
 |nil=>intro q h1 _;simp;omega
 |cons n l ih=>
  intro q h1 h;have h':(decide (1<=n)&&decide (n<=12)&&decide (q<n)&&lU (some n) l)=true:=h;simp only[Bool.and_eq_true,decide_eq_true_eq]at h';obtain⟨⟨⟨h2,h3⟩,h4⟩,h5⟩:=h';have:=ih n h3 h5;simp only[List.length_cons];omega
theorem ZH {l:List Int} (h:lU none l=true):l.length<=12:=by
 cases l with
 |nil=>simp
 |cons n l=>
  have h':(decide (1<=n)&&decide (n<=12)&&true&&lU (some n) l)=true:=h;simp only[Bool.and_eq_true,decide_eq_true_eq]at h';obtain⟨⟨⟨h2,h3⟩,-⟩,h5⟩:=h';have:=ZG l n h3 h5;simp only[List.length_cons];omega
def ZI (l:List Int) (w:World) (i:Value) (wr:World):Prop:=∃k:Nat,k<=l.length/\i=.int .i64 (k:Int)/\lU (ahead l k) (l.drop k)=lU none l/\w=wr
theorem Lp (A:Option Addr) (n c:Nat) (l:List Int) (w:World) (h:Sl bK 1 w w.heap.size A n l) (hn:n<=maxLen):
 Calls Tryz.prog 106 #[.slice A n c] w fun e w'=>e=.returned (.bool (dQ l))/\w=w':=by
 unfold maxLen at hn;have hl:=h.1;have hge:n<=l.length:=byOmega;go_enter Tryz.func106,Tryz.ntmps106;go_wp2
 go_loopw [7] (fun i wr=>ZI l w i wr) (fun i _=>n-(intOf i).toNat)
 case atStart=>exact⟨0,byOmega,rfl,rfl,rfl⟩
 case round=>
  obtain⟨k,hk,rfl,hs,rfl⟩:=hrel;by_cases hlt:k<n
  · obtain⟨ad,a,rfl,ha,hbk,hok,c0⟩:=h.nm hlt;have hd1:decide ((k:Int)<(n:Int))=true:=ay;have hk0:(0:Int)<=(k:Int):=byOmega;have hk1:(k:Int)<(n:Int):=byOmega;rw[QD ha]at hs;by_cases h1:a<1
    · have HF:RowKit.Hid (dQ l=false):=(by refine au ?_;unfold dQ;rw[<-hs,decide_eq_false (show ¬1<=a by omega)];rfl);clear hs ha hl;go_wp2;go_ret;rw[HF.out];exact⟨rfl,rfl⟩
    · rw[decide_eq_true (show 1<=a by omega),Bool.true_and]at hs;by_cases h2:12<a
      · have HF:RowKit.Hid (dQ l=false):=(by refine au ?_;unfold dQ;rw[<-hs,decide_eq_false (show ¬a<=12 by omega)];rfl);clear hs ha hl;go_wp2;go_ret;rw[HF.out];exact⟨rfl,rfl⟩
      · rw[decide_eq_true (show a<=12 by omega),Bool.true_and]at hs;by_cases hz:k=0
        · have hd2:¬(0<k):=byOmega;have HS:=au (show lU (ahead l (k+1)) (l.drop (k+1))=lU none l by rw[<-hs,hz];simp[ahead]);clear hs hl ha hz;go_wp2;go_roundw
          case rel=>exact⟨k+1,byOmega,by go_num,HS.out,rfl⟩
          case measure=>simp[intOf];omega
        · obtain⟨ad',b,e',hb,gq,hok',d0⟩:=h.nm (k:=k-1) byOmega;injection e' with e'
          subst e';have hd2:0<k:=byOmega;have hj0:(0:Int)<=(k:Int)-1:=byOmega;have hj1:(k:Int)-1<(n:Int):=byOmega;have hj2:((k:Int)-1).toNat=k-1:=byOmega;have hah:ahead l k=some b:=by
           cases k with
           |zero=>omega
           |succ j=>exact hb
          rw[hah]at hs;by_cases h3:a<=b
          · have HF:RowKit.Hid (dQ l=false):=(by refine au ?_;unfold dQ;rw[<-hs];simp[show ¬b<a by omega]);clear hs hl ha hb hz hah;go_wp2;go_ret;rw[HF.out];exact⟨rfl,rfl⟩
          · have HS:=au (show lU (ahead l (k+1)) (l.drop (k+1))=lU none l by rw[<-hs];simp only[decide_eq_true (show b<a by omega),Bool.true_and]);clear hs hl ha hb hz hah;go_wp2;go_roundw
            case rel=>exact⟨k+1,byOmega,by go_num,HS.out,rfl⟩
            case measure=>simp[intOf];omega
  · have hd1:decide ((k:Int)<(n:Int))=false:=ay;have HS:=au (show dQ l=decide ((0:Int)<(n:Int)) by unfold dQ;rw[<-hs,bF byOmega,hl];simp[lU]);clear hs hl;go_wp2;go_ret;rw[HS.out];exact⟨aA,rfl⟩
def ZJ (l:List Int) (w:World) (i:Value) (wr:World):Prop:=∃k:Nat,k<=l.length/\i=.int .i64 (k:Int)/\lU (ahead l k) (l.drop k)=lU none l/\Below w.heap.size w wr
theorem yR (A:Option Addr) (n c:Nat) (l:List Int) (w:World) (h:Sl bK 1 w w.heap.size A n l) (hn:n<=maxLen):
 Calls Tryz.prog 70 #[.slice A n c] w fun e w'=>e=.returned (.bool (dQ l))/\Below w.heap.size w w':=by
 unfold maxLen at hn;have hl:=h.1;have hge:n<=l.length:=byOmega;by_cases hsm:1<=n/\n<=12
 · have hb0:¬((n:Int)<1):=byOmega;have hb1:¬((12:Int)<(n:Int)):=byOmega;have hrb:dQ l=lU none l:=(by unfold dQ;rw[hl,decide_eq_true (show 0<n by omega),Bool.and_true]);go_enter Tryz.func70,Tryz.ntmps70;go_wp2
   go_loopw [3] (fun i wr=>ZJ l w i wr) (fun i _=>n-(intOf i).toNat)
   case atStart=>exact⟨0,byOmega,rfl,rfl,aC⟩
   case round=>
    obtain⟨k,hk,rfl,hs,hb⟩:=hrel;have hzz:=hb.size;by_cases hlt:k<n
    · obtain⟨ad,a,rfl,ha,hbk,hok,c0⟩:=(h.below bK.kept hb).nm hlt;have hd1:decide ((k:Int)<(n:Int))=true:=ay;have hk0:(0:Int)<=(k:Int):=byOmega;have hk1:(k:Int)<(n:Int):=byOmega;rw[QD ha]at hs;by_cases h1:a<1
      · have HF:RowKit.Hid (dQ l=false):=(by refine au ?_;rw[hrb,<-hs,decide_eq_false (show ¬1<=a by omega)];rfl);clear hs ha hl;go_wp2
        go_quiet (fail)
        go_wp2;go_ret;rw[HF.out];exact⟨rfl,hb.trans ((bD _).mono hzz)⟩
      · rw[decide_eq_true (show 1<=a by omega),Bool.true_and]at hs;by_cases h2:12<a
        · have HF:RowKit.Hid (dQ l=false):=(by refine au ?_;rw[hrb,<-hs,decide_eq_false (show ¬a<=12 by omega)];rfl);have hd3:decide ((12:Int)<a)=true:=ay;have hd4:decide (a<1)=false:=ay;clear hs ha hl h1 h2;go_wp2;refine wp_region_held_drew (S:=fun w'=>w'.cell? (ad.add k)=some (.int .i64 a)) ah c0 (fun hHeld=>?_);refine t0 0 18 ?_;go_frame;refine t0 1 19 ?_;go_frame;refine t0 2 20 ?_;go_frame;refine t0 3 21 ?_;go_frame;refine t0 4 22 ?_;go_frame;refine t0 5 23 ?_;go_frame;refine t0 6 24 ?_;go_frame;refine t0 7 25 ?_;go_frame;refine t0 8 26 ?_;go_frame;refine t0 9 27 ?_;go_frame;refine t0 10 28 ?_;go_frame;refine t0 11 29 ?_;go_frame;refine t0 12 30 ?_;go_frame;refine tn 13 31 ?_;go_frame;refine tn 14 32 ?_;go_frame;refine tn 15 33 ?_;go_frame;refine tn 16 34 ?_;go_frame;refine tn 17 35 ?_;go_frame;refine tn 18 36 ?_;go_frame;refine tn 19 37 ?_;go_frame;refine tn 20 38 ?_;go_frame;refine tn 21 39 ?_;go_frame;refine tn 22 40 ?_;go_frame;refine tn 23 41 ?_;go_frame;refine tn 24 42 ?_;go_frame;refine tn 25 43 ?_;go_frame;refine tn 26 44 ?_;go_frame;refine t0 27 45 ?_;go_frame;refine td ?_;go_wp2;go_ret;rw[HF.out];exact⟨rfl,hb.trans ((bD _).mono hzz)⟩
        · rw[decide_eq_true (show a<=12 by omega),Bool.true_and]at hs;by_cases hz:k=0
          · have hd2:¬(0<k):=byOmega;have HS:=au (show lU (ahead l (k+1)) (l.drop (k+1))=lU none l by rw[<-hs,hz];simp[ahead]);have hd3:decide ((12:Int)<a)=false:=ay;have hd4:decide (a<1)=false:=ay;have hd5:decide (0<k)=false:=ay;clear hs hl ha hz h1 h2;go_wp2;refine wp_region_held_drew (S:=fun w'=>w'.cell? (ad.add k)=some (.int .i64 a)) ah c0 (fun hHeld=>?_);refine t0 0 18 ?_;go_frame;refine t0 1 19 ?_;go_frame;refine t0 2 20 ?_;go_frame;refine t0 3 21 ?_;go_frame;refine t0 4 22 ?_;go_frame;refine t0 5 23 ?_;go_frame;refine t0 6 24 ?_;go_frame;refine t0 7 25 ?_;go_frame;refine t0 8 26 ?_;go_frame;refine t0 9 27 ?_;go_frame;refine t0 10 28 ?_;go_frame;refine t0 11 29 ?_;go_frame;refine t0 12 30 ?_;go_frame;refine t0 13 31 ?_;go_frame;refine t0 14 32 ?_;go_frame;refine t0 15 33 ?_;go_frame;refine tn 16 34 ?_;go_frame;refine tn 17 35 ?_;go_frame;refine tn 18 36 ?_;go_frame;refine tn 19 37 ?_;go_frame;refine tn 20 38 ?_;go_frame;refine tn 21 39 ?_;go_frame;refine tn 22 40 ?_;go_frame;refine tn 23 41 ?_;go_frame;refine tn 24 42 ?_;go_frame;refine tn 25 43 ?_;go_frame;refine t0 26 44 ?_;go_frame;refine t0 27 45 ?_;go_frame;refine td ?_;go_wp2;go_roundw
            case rel=>exact⟨k+1,byOmega,by go_num,HS.out,hb.trans ((bD _).mono hzz)⟩
            case measure=>simp[intOf];omega
          · obtain⟨ad',b,e',hb',gq,hok',d0⟩:=(h.below bK.kept hb).nm (k:=k-1) byOmega;injection e' with e'
            subst e';have hd2:0<k:=byOmega;have hj0:(0:Int)<=(k:Int)-1:=byOmega;have hj1:(k:Int)-1<(n:Int):=byOmega;have hj2:((k:Int)-1).toNat=k-1:=byOmega;have hah:ahead l k=some b:=by
             cases k with
             |zero=>omega
             |succ j=>exact hb'
            rw[hah]at hs;by_cases h3:a<=b
            · have HF:RowKit.Hid (dQ l=false):=(by refine au ?_;rw[hrb,<-hs];simp[show ¬b<a by omega]);have hd3:decide ((12:Int)<a)=false:=ay;have hd4:decide (a<1)=false:=ay;have hd5:decide (0<k)=true:=ay;have hd6:decide (a<=b)=true:=ay;have hj3:IntKind.i64.wrap ((k:Int)-1)=(k:Int)-1:=(by rw[IntKind.wrap_i64];omega);have QE:(1:Int)<=(k:Int):=byOmega;clear hs hl ha hb' hz hah h1 h2;go_wp2;refine wp_region_held_drew (S:=fun w'=>w'.cell? (ad.add k)=some (.int .i64 a)/\w'.cell? (ad.add (k-1))=some (.int .i64 b)) ah ⟨c0,d0⟩ (fun hHeld=>?_);refine t0 0 18 ?_;go_frame;refine t0 1 19 ?_;go_frame;refine t0 2 20 ?_;go_frame;refine t0 3 21 ?_;go_frame;refine t0 4 22 ?_;go_frame;refine t0 5 23 ?_;go_frame;refine t0 6 24 ?_;go_frame;refine t0 7 25 ?_;go_frame;refine t0 8 26 ?_;go_frame;refine t0 9 27 ?_;go_frame;refine t0 10 28 ?_;go_frame;refine t0 11 29 ?_;go_frame;refine t0 12 30 ?_;go_frame;refine t0 13 31 ?_;go_frame;refine t0 14 32 ?_;go_frame;refine t0 15 33 ?_;go_frame;refine t0 16 34 ?_;go_frame;refine t0 17 35 ?_;go_frame;refine t0 18 36 ?_;go_frame;refine t0 19 37 ?_;go_frame;refine t0 20 38 ?_;go_frame;refine t0 21 39 ?_;go_frame;refine t0 22 40 ?_;go_frame;refine t0 23 41 ?_;go_frame;refine t0 24 42 ?_;go_frame;refine t0 25 43 ?_;go_frame;refine t0 26 44 ?_;go_frame;refine t0 27 45 ?_;go_frame;refine td ?_;go_wp2;go_ret;rw[HF.out];exact⟨rfl,hb.trans ((bD _).mono hzz)⟩
            · have HS:=au (show lU (ahead l (k+1)) (l.drop (k+1))=lU none l by rw[<-hs];simp only[decide_eq_true (show b<a by omega),Bool.true_and]);have hd3:decide ((12:Int)<a)=false:=ay;have hd4:decide (a<1)=false:=ay;have hd5:decide (0<k)=true:=ay;have hd6:decide (a<=b)=false:=ay;have hj3:IntKind.i64.wrap ((k:Int)-1)=(k:Int)-1:=(by rw[IntKind.wrap_i64];omega);have QE:(1:Int)<=(k:Int):=byOmega;clear hs hl ha hb' hz hah h1 h2;go_wp2;refine wp_region_held_drew (S:=fun w'=>w'.cell? (ad.add k)=some (.int .i64 a)/\w'.cell? (ad.add (k-1))=some (.int .i64 b)) ah ⟨c0,d0⟩ (fun hHeld=>?_);refine t0 0 18 ?_;go_frame;refine t0 1 19 ?_;go_frame;refine t0 2 20 ?_;go_frame;refine t0 3 21 ?_;go_frame;refine t0 4 22 ?_;go_frame;refine t0 5 23 ?_;go_frame;refine t0 6 24 ?_;go_frame;refine t0 7 25 ?_;go_frame;refine t0 8 26 ?_;go_frame;refine t0 9 27 ?_;go_frame;refine t0 10 28 ?_;go_frame;refine t0 11 29 ?_;go_frame;refine t0 12 30 ?_;go_frame;refine t0 13 31 ?_;go_frame;refine t0 14 32 ?_;go_frame;refine t0 15 33 ?_;go_frame;refine t0 16 34 ?_;go_frame;refine t0 17 35 ?_;go_frame;refine t0 18 36 ?_;go_frame;refine t0 19 37 ?_;go_frame;refine t0 20 38 ?_;go_frame;refine t0 21 39 ?_;go_frame;refine t0 22 40 ?_;go_frame;refine t0 23 41 ?_;go_frame;refine t0 24 42 ?_;go_frame;refine t0 25 43 ?_;go_frame;refine t0 26 44 ?_;go_frame;refine t0 27 45 ?_;go_frame;refine td ?_;go_wp2;go_roundw
              case rel=>exact⟨k+1,byOmega,by go_num,HS.out,hb.trans ((bD _).mono hzz)⟩
              case measure=>simp[intOf];omega
    · have hd1:decide ((k:Int)<(n:Int))=false:=ay;have HS:=au (show dQ l=true by rw[hrb,<-hs,bF byOmega];rfl);clear hs hl;go_wp2;go_ret;rw[HS.out];exact⟨rfl,hb⟩
 · have HF:RowKit.Hid (dQ l=false):=by
    refine au ?_;cases hp:dQ l
    · rfl
    · unfold dQ at hp;rw[Bool.and_eq_true,decide_eq_true_eq]at hp;have:=ZH hp.1;omega
   by_cases hb0:(n:Int)<1
   · clear hl hsm;go_enter Tryz.func70,Tryz.ntmps70;go_wp2;go_ret;rw[HF.out];exact⟨rfl,aC⟩
   · have hb1:(12:Int)<(n:Int):=byOmega;clear hl hsm;go_enter Tryz.func70,Tryz.ntmps70;go_wp2;go_ret;rw[HF.out];exact⟨rfl,aC⟩
def bY (n:Int):Bool:=decide (1<=n)&&decide (n<=12)
theorem vS (n:Int) (w:World):Calls Tryz.prog 33 #[.int .i64 n] w fun e w'=>e=.returned (.bool (bY n))/\w=w':=by
 have HI:=au (show bY n=(decide (1<=n)&&decide (n<=12)) from rfl);cases h1:decide (1<=n)<;>cases h2:decide (n<=12)
 all_goals
  rw[h1,h2]at HI;go_enter Tryz.func33,Tryz.ntmps33;go_wp2;go_ret;rw[HI.out];exact⟨rfl,rfl⟩
theorem Lr (A:Option Addr) (n c:Nat) (l:List ByteArray) (w:World) (h:Sl aO 1 w w.heap.size A n l) (hn:n<=maxLen):
 Calls Tryz.prog 102 #[.slice A n c] w fun e w'=>e=.returned (.bool (cu l))/\w=w':=by
 unfold maxLen at hn;have hl:=h.1;have hge:n<=l.length:=byOmega;go_enter Tryz.func102,Tryz.ntmps102;go_wp2
 go_loopw [7] (fun i wr=>PZ l w i wr) (fun i _=>n-(intOf i).toNat)
 case atStart=>exact⟨0,byOmega,rfl,rfl,rfl⟩
 case round=>
  obtain⟨k,hk,rfl,hs,rfl⟩:=hrel;by_cases hlt:k<n
  · obtain⟨ad,a,rfl,ha,hbk,hok,c0⟩:=h.ky hlt;have hka:=fun w=>EU a w
    have hd1:decide ((k:Int)<(n:Int))=true:=ay;have hk0:(0:Int)<=(k:Int):=byOmega;have hk1:(k:Int)<(n:Int):=byOmega;rw[Ib ha]at hs;cases hkb:gY a
    · rw[hkb]at hka hs;have HF:RowKit.Hid (cu l=false):=(by unfold cu;rw[<-hs];rfl);clear hs ha hl;go_wp2_with ((with_reducible refine(hka _).mono ?_);rintro e w1 ⟨rfl,rfl⟩);go_ret;rw[HF.out];exact⟨rfl,rfl⟩
    · rw[hkb]at hka hs;by_cases hz:k=0
      · have hd2:¬(0<k):=byOmega;have hs':iP (ahead l (k+1)) (l.drop (k+1))=iP none l:=(by rw[<-hs,hz];simp[ahead]);have HS:=au hs';clear hs hs' hl ha hz;go_wp2_with ((with_reducible refine(hka _).mono ?_);rintro e w1 ⟨rfl,rfl⟩);go_roundw
        case rel=>exact⟨k+1,byOmega,by go_num,HS.out,rfl⟩
        case measure=>simp[intOf];omega
      · obtain⟨ad',b,e',hb,gq,hok',d0⟩:=h.ky (k:=k-1) byOmega;injection e' with e'
        subst e';have hd2:0<k:=byOmega;have hj0:(0:Int)<=(k:Int)-1:=byOmega;have hj1:(k:Int)-1<(n:Int):=byOmega;have hj2:((k:Int)-1).toNat=k-1:=byOmega;have hah:ahead l k=some b:=by
         cases k with
         |zero=>omega
         |succ j=>exact hb
        rw[hah]at hs;cases hbl:bl b a
        · have HF:=au (show cu l=false by unfold cu;rw[<-hs];simp[hbl]);unfold bl at hbl;clear hs hl ha hb hz hah;go_wp2_with ((with_reducible refine(hka _).mono ?_);rintro e w1 ⟨rfl,rfl⟩);go_ret;rw[HF.out];exact⟨rfl,rfl⟩
        · have hs':iP (ahead l (k+1)) (l.drop (k+1))=iP none l:=(by rw[<-hs];simp[hbl]);have HS:=au hs';unfold bl at hbl;clear hs hs' hl ha hb hz hah;go_wp2_with ((with_reducible refine(hka _).mono ?_);rintro e w1 ⟨rfl,rfl⟩);go_roundw
          case rel=>exact⟨k+1,byOmega,by go_num,HS.out,rfl⟩
          case measure=>simp[intOf];omega
  · have hd1:decide ((k:Int)<(n:Int))=false:=ay;have hr:cu l=decide ((n:Int)<=16):=by
        unfold cu;rw[<-hs,bF byOmega,hl];rfl
    have HS:=au hr;clear hs hr hl;go_wp2;go_ret;rw[HS.out];exact⟨rfl,rfl⟩
def rG (n:Int) (l:List Int):Bool:=l.any fun x=>x==n
def QF (l:List Int) (n:Int) (w:World) (i:Value) (wr:World):Prop:=∃k:Nat,k<=l.length/\i=.int .i64 (k:Int)/\((l.drop k).any fun x=>x==n)=rG n l/\w=wr
theorem ZK (A:Option Addr) (n c:Nat) (l:List Int) (x:Int) (w:World) (h:Sl bK 1 w w.heap.size A n l) (hn:n<=maxLen):
 Calls Tryz.prog 107 #[.slice A n c,.int .i64 x] w fun e w'=>e=.returned (.bool (rG x l))/\w=w':=by
 unfold maxLen at hn;have hl:=h.1;have hge:n<=l.length:=byOmega;go_enter Tryz.func107,Tryz.ntmps107;go_wp2
 go_loopw [9] (fun i wr=>QF l x w i wr) (fun i _=>n-(intOf i).toNat)
 case atStart=>exact⟨0,byOmega,rfl,rfl,rfl⟩
 case round=>
  obtain⟨k,hk,rfl,hs,rfl⟩:=hrel;by_cases hlt:k<n
  · obtain⟨ad,a,rfl,ha,hbk,hok,c0⟩:=h.nm hlt;have hd1:decide ((k:Int)<(n:Int))=true:=ay;have hk0:(0:Int)<=(k:Int):=byOmega;have hk1:(k:Int)<(n:Int):=byOmega;rw[yM ha]at hs;clear ha hl;cases hx:(a==x)
    · rw[hx,Bool.false_or]at hs;have HS:=au hs;clear hs;go_wp2;go_roundw
      case rel=>exact⟨k+1,byOmega,by go_num,HS.out,rfl⟩
      case measure=>simp[intOf];omega
    · rw[hx,Bool.true_or]at hs;have HS:=au hs;clear hs;go_wp2;go_ret;rw[<-HS.out];exact⟨rfl,rfl⟩
  · have hd1:decide ((k:Int)<(n:Int))=false:=ay;rw[bF byOmega]at hs;have HS:=au hs;clear hs hl;go_wp2;go_ret;rw[<-HS.out];exact⟨rfl,rfl⟩
def jI (l:List Rg):Bool:=l.all lT&&decide ((l.length:Int)<=12)
def QG (l:List Rg) (w:World) (i:Value) (wr:World):Prop:=∃k:Nat,k<=l.length/\i=.int .i64 (k:Int)/\(l.drop k).all lT=l.all lT/\Below w.heap.size w wr
theorem ZL (A:Option Addr) (n c:Nat) (l:List Rg) (w:World) (h:Sl gX 4 w w.heap.size A n l) (hn:n<=maxLen):
 Calls Tryz.prog 156 #[.slice A n c] w fun e w'=>e=.returned (.bool (jI l))/\Below w.heap.size w w':=by
 unfold maxLen at hn;have hl:=h.1;have hge:n<=l.length:=byOmega;go_enter Tryz.func156,Tryz.ntmps156;go_wp2
 go_loopw [7] (fun i wr=>QG l w i wr) (fun i _=>n-(intOf i).toNat)
 case atStart=>exact⟨0,byOmega,rfl,rfl,aC⟩
 case round=>
  obtain⟨k,hk,rfl,hs,hb⟩:=hrel;have hzz:=hb.size;by_cases hlt:k<n
  · obtain⟨ad,a,rfl,ha,hbk,hok,c0,c1,c2,c3⟩:=((h.below gX.kept hb).more gX.kept hb.size).rg hlt;have hd1:decide ((k:Int)<(n:Int))=true:=ay;have hk0:(0:Int)<=(k:Int):=byOmega;have hk1:(k:Int)<(n:Int):=byOmega;have hm:=fun w=>Ku a w hok
    rw[rZ ha]at hs;clear ha hl;cases hx:lT a
    · rw[hx,Bool.false_and]at hs;rw[hx]at hm;have HS:=au (show jI l=false by unfold jI;rw[<-hs];rfl);clear hs;go_wp2_with ((with_reducible refine(hm _).mono ?_);rintro e w1 ⟨rfl,rfl⟩);go_ret;rw[HS.out];exact⟨rfl,hb.trans (Below.mono aJ hzz)⟩
    · rw[hx,Bool.true_and]at hs;rw[hx]at hm;have HS:=au hs;clear hs;go_wp2_with ((with_reducible refine(hm _).mono ?_);rintro e w1 ⟨rfl,rfl⟩);go_roundw
      case rel=>exact⟨k+1,byOmega,by go_num,HS.out,hb.trans (Below.mono aJ hzz)⟩
      case measure=>simp[intOf];omega
  · have hd1:decide ((k:Int)<(n:Int))=false:=ay;rw[bF byOmega]at hs;have HS:=au (show jI l=decide ((n:Int)<=12) by unfold jI;rw[<-hs,hl];rfl);clear hs hl;go_wp2;go_ret;rw[HS.out];exact⟨rfl,hb⟩
def lV (cd:Int) (fine:Bool) (l:List Rg):Bool:=if cd=0 then fine&&decide (l.length=0) else decide (0<cd)&&decide (cd<=25)&&jI l
theorem QH (A:Option Addr) (n c:Nat) (l:List Rg) (cd:Int) (fine:Bool) (w:World) (h:Sl gX 4 w w.heap.size A n l) (hn:n<=maxLen):
 Calls Tryz.prog 103 #[.int .i64 cd,.bool fine,.slice A n c] w fun e w'=>e=.returned (.bool (lV cd fine l))/\Below w.heap.size w w':=by
 have hC:=ZL A n c l w h hn;have HC:=au (show lV cd fine l=if cd=0 then fine&&decide (n=0) else decide (0<cd)&&decide (cd<=25)&&jI l by unfold lV;rw[h.1]);generalize jI l=cv at*;clear h;by_cases h0:cd=0
 · have e0:(cd==0)=true:=(by simp[h0]);have HX:=au (show lV cd fine l=(fine&&decide (n=0)) by rw[HC.out,if_pos h0]);clear h0;cases fine;all_goals
    go_enter Tryz.func103,Tryz.ntmps103;go_wp2;all_goals
        go_ret;rw[HX.out];refine⟨aZ ?_,aC⟩;by_cases hz:n=0<;>simp_all
 · have e0:(cd==0)=false:=(by simp[h0]);have HX:=au (show lV cd fine l=(decide (0<cd)&&decide (cd<=25)&&cv) by rw[HC.out,if_neg h0]);clear h0;cases e1:decide (0<cd)<;>cases e2:decide (cd<=25)
   all_goals
    rw[e1,e2]at HX;go_enter Tryz.func103,Tryz.ntmps103;go_wp2_with ((with_reducible refine hC.mono ?_);rintro e w1 ⟨rfl,hb1⟩);go_ret;rw[HX.out]
    first
        |exact⟨aZ aA,hb1⟩
        |exact⟨aZ aA,aC⟩
theorem QI (A A':Option Addr) (n n' c c':Nat) (l m:List Int) (w:World) (h:Sl bK 1 w w.heap.size A n l) (h':Sl bK 1 w w.heap.size A' n' m) (hn:n<=maxLen) (hn':n'<=maxLen):
 Calls Tryz.prog 37 #[.slice A n c,.slice A' n' c'] w fun e w'=>e=.returned (.bool (aT (fun a b=>a==b) l m))/\Below w.heap.size w w':=by
 unfold maxLen at hn hn';have hl:=h.1;have hl':=h'.1;by_cases hne:n=n'
 · subst hne;have hb0:((n:Int) !=(n:Int))=false:=aA;have hle:l.length<=n:=byOmega;have hge:n<=l.length:=byOmega;have hle':n<=m.length:=byOmega;have hle2:m.length<=n:=byOmega;clear hl hl';go_enter Tryz.func37,Tryz.ntmps37;go_wp2
   go_loopw [5] (fun i wr=>xF (fun a b=>a==b) l m w i wr) (fun i _=>n-(intOf i).toNat)
   case atStart=>exact⟨0,byOmega,rfl,rfl,aC⟩
   case round=>
    obtain⟨k,hk,rfl,hs,hb⟩:=hrel;have hzz:=hb.size;by_cases hlt:k<n
    · obtain⟨ad,a,rfl,ha,hbk,hok,c0⟩:=(h.below bK.kept hb).nm hlt;obtain⟨ad',a',rfl,ha',gq,hok',c0'⟩:=(h'.below bK.kept hb).nm hlt;have hd1:decide ((k:Int)<(n:Int))=true:=ay;have hk0:(0:Int)<=(k:Int):=byOmega;have hk1:(k:Int)<(n:Int):=byOmega;rw[xE ha ha']at hs;have HS:=au hs;clear ha ha' hs;cases hq:(a==a')
      · have HF:RowKit.Hid (aT (fun a b:Int=>a==b) l m=false):=(by have:=HS.out;rw[hq]at this;exact this.symm);go_wp2
        go_quiet (fail)
        go_wp2;go_ret;rw[HF.out];exact⟨rfl,hb.trans ⟨rfl,rfl,rfl,Nat.le_refl _,fun _ _=>rfl⟩⟩
      · have HT:RowKit.Hid (aT (fun a b:Int=>a==b) (l.drop (k+1)) (m.drop (k+1))=aT (fun a b:Int=>a==b) l m):=(by have:=HS.out;rw[hq]at this;exact this);go_wp2
        go_quiet (fail)
        go_wp2;go_roundw
        case rel=>exact⟨k+1,byOmega,by go_num,HT.out,hb.trans ⟨rfl,rfl,rfl,Nat.le_refl _,fun _ _=>rfl⟩⟩
        case measure=>simp[intOf];omega
    · have hd1:decide ((k:Int)<(n:Int))=false:=ay;have hs2:aT (fun a b:Int=>a==b) l m=true:=by
         rw[<-hs,bF byOmega,bF byOmega];rfl
      have HS:=au hs2;clear hs hs2;go_wp2;go_ret;rw[HS.out];exact⟨rfl,hb⟩
 · have hb0:((n:Int) !=(n':Int))=true:=ay;rw[yJ l m byOmega];clear hl hl' hne;go_enter Tryz.func37,Tryz.ntmps37;go_wp2;go_ret;exact⟨rfl,aC⟩
theorem ZM (A A':Option Addr) (n n' c c':Nat) (l m:List Wt) (w:World) (h:Sl aF 4 w w.heap.size A n l) (h':Sl aF 4 w w.heap.size A' n' m) (hn:n<=maxLen) (hn':n'<=maxLen):
 Calls Tryz.prog 125 #[.slice A n c,.slice A' n' c'] w fun e w'=>e=.returned (.bool (aT Wt.same l m))/\Below w.heap.size w w':=by
 unfold maxLen at hn hn';have hl:=h.1;have hl':=h'.1;by_cases hne:n=n'
 · subst hne;have hb0:((n:Int) !=(n:Int))=false:=aA;have hle:l.length<=n:=byOmega;have hge:n<=l.length:=byOmega;have hle':n<=m.length:=byOmega;have hle2:m.length<=n:=byOmega;clear hl hl';go_enter Tryz.func125,Tryz.ntmps125;go_wp2
   go_loopw [5] (fun i wr=>xF Wt.same l m w i wr) (fun i _=>n-(intOf i).toNat)
   case atStart=>exact⟨0,byOmega,rfl,rfl,aC⟩
   case round=>
    obtain⟨k,hk,rfl,hs,hb⟩:=hrel;have hzz:=hb.size;by_cases hlt:k<n
    · obtain⟨ad,a,rfl,ha,hbk,hok,c0,c1,c2,c3⟩:=(h.below aF.kept hb).wt hlt;obtain⟨ad',a',rfl,ha',gq,hok',d0,d1,d2,d3⟩:=(h'.below aF.kept hb).wt hlt;have hd1:decide ((k:Int)<(n:Int))=true:=ay;have hk0:(0:Int)<=(k:Int):=byOmega;have hk1:(k:Int)<(n:Int):=byOmega;have hbw:(ad.add (k*4)).block<wr.heap.size:=byOmega;have yK:(ad'.add (k*4)).block<wr.heap.size:=byOmega;rw[xE ha ha']at hs;have HS:=au hs;clear ha ha' hs hok hok';cases hq:(a.key.toList==a'.key.toList)
      · have HF:RowKit.Hid (aT Wt.same l m=false):=(by have:=HS.out;rw[show Wt.same a a'=false from by unfold Wt.same;rw[hq];rfl]at this;exact this.symm);go_wp2
        go_quiet (fail)
        go_wp2;go_ret;rw[HF.out];exact⟨rfl,hb.trans ⟨rfl,rfl,rfl,Nat.le_refl _,fun _ _=>rfl⟩⟩
      · have hsm:Wt.same a a'=a.v.same a'.v:=(by unfold Wt.same;rw[hq];rfl);have hv:=fun w=>ET a.v a'.v w
        rw[hsm]at HS;clear hsm;generalize a.v.same a'.v=r at*;go_wp2
        go_region_held3 (fun w'=>(w'.cell? (ad.add (k*4))=some (.string a.key)/\w'.cell? ⟨(ad.add (k*4)).block,(ad.add (k*4)).off+1,none⟩=some (.int .i64 a.v.k)/\w'.cell? ⟨(ad.add (k*4)).block,(ad.add (k*4)).off+2,none⟩=some (.float .f64 a.v.n)/\w'.cell? ⟨(ad.add (k*4)).block,(ad.add (k*4)).off+3,none⟩=some (.string a.v.t))/\
         w'.cell? (ad'.add (k*4))=some (.string a'.key)/\w'.cell? ⟨(ad'.add (k*4)).block,(ad'.add (k*4)).off+1,none⟩=some (.int .i64 a'.v.k)/\w'.cell? ⟨(ad'.add (k*4)).block,(ad'.add (k*4)).off+2,none⟩=some (.float .f64 a'.v.n)/\w'.cell? ⟨(ad'.add (k*4)).block,(ad'.add (k*4)).off+3,none⟩=some (.string a'.v.t))
         (first|exact⟨⟨c0,c1,c2,c3⟩,d0,d1,d2,d3⟩|exact⟨⟨(hb1.cell hbw).trans c0,(hb1.cell (p:=⟨_,_,none⟩) hbw).trans c1,(hb1.cell (p:=⟨_,_,none⟩) hbw).trans c2,(hb1.cell (p:=⟨_,_,none⟩) hbw).trans c3⟩,(hb1.cell yK).trans d0,(hb1.cell (p:=⟨_,_,none⟩) yK).trans d1,(hb1.cell (p:=⟨_,_,none⟩) yK).trans d2,(hb1.cell (p:=⟨_,_,none⟩) yK).trans d3⟩)
         (first|((with_reducible refine(hv _).mono ?_);rintro e w1 ⟨rfl,hb1⟩))
        have hb2:Below w.heap.size w w1:=hb.trans (Below.mono (w:=wr) ⟨hb1.os,hb1.tape,hb1.output,hb1.size,hb1.block⟩ hzz);cases r
        · have HF:RowKit.Hid (aT Wt.same l m=false):=(by have:=HS.out;rw[Bool.false_and]at this;exact this.symm);go_wp2;go_ret;rw[HF.out];exact⟨rfl,hb2⟩
        · have HT:RowKit.Hid (aT Wt.same (l.drop (k+1)) (m.drop (k+1))=aT Wt.same l m):=(by have:=HS.out;rw[Bool.true_and]at this;exact this);go_wp2;go_roundw
          case rel=>exact⟨k+1,byOmega,by go_num,HT.out,hb2⟩
          case measure=>simp[intOf];omega
    · have hd1:decide ((k:Int)<(n:Int))=false:=ay;have hs2:aT Wt.same l m=true:=by
         rw[<-hs,bF byOmega,bF byOmega];rfl
      have HS:=au hs2;clear hs hs2;go_wp2;go_ret;rw[HS.out];exact⟨rfl,hb⟩
 · have hb0:((n:Int) !=(n':Int))=true:=ay;rw[yJ l m byOmega];clear hl hl' hne;go_enter Tryz.func125,Tryz.ntmps125;go_wp2;go_ret;exact⟨rfl,aC⟩
