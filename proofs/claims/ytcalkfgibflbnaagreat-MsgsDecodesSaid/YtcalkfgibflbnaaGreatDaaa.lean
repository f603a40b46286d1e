/- Words for memory: a slice that reads as a list of data; kept where nothing below has turned. Plain lemmas over any program. -/
import Derived.WalkKit
import Derived.Deep.Slices
import Derived.Deep.Draws
import Derived.Laws.Cover2
import Derived.Test.YtcalkfgibflbnaaGreatRows
import Derived.ProofKit
import Derived.Below
import Derived.Maps.AppendAt
import Derived.Deep.AppendLies
import Derived.RegionTactic
import Derived.OwnWalk
namespace Go.Proofs.YtcalkfgibflbnaaGreat
open Go.RowKit
theorem block_of_add (a:Addr) (n:Nat):(a.add n).block=a.block:=by unfold Addr.add;split<;>rfl
theorem add_of_add (a:Addr) (i j:Nat):(a.add i).add j=a.add (i+j):=by
 unfold Addr.add
 by_cases hi:i=0<;>by_cases hj:j=0<;>simp[hi,hj,Nat.add_assoc]
abbrev Rel (α:Type):=World→Nat→List Value→α→Prop
def Rel.Kept {α:Type} (R:Rel α):Prop:=(∀w w' B cs a,R w B cs a→(∀p:Addr,p.block<B→w'.cell? p=w.cell? p)→R w' B cs a)∧(∀w B B' cs a,R w B cs a→B≤B'→R w B' cs a)
def Sl {α:Type} (R:Rel α) (size:Nat) (w:World) (B:Nat) (A:Option Addr) (n:Nat) (l:List α):Prop:=
 l.length=n∧∀i a,l[i]?=some a→∃ad cs,A=some ad∧ad.block<B∧cs.length=size∧(∀j u,cs[j]?=some u→w.cell? (ad.add (i*size+j))=some u)∧R w B cs a
section
variable {α:Type} {R:Rel α} {size:Nat} {w w':World} {B B' n:Nat} {A:Option Addr} {l:List α}
theorem Sl.nil:Sl R size w B A 0 []:=⟨rfl,fun i a h=>by simp at h⟩
theorem Sl.keep (hR:R.Kept) (h:Sl R size w B A n l) (hk:∀p:Addr,p.block<B→w'.cell? p=w.cell? p):Sl R size w' B A n l:=
 ⟨h.1,fun i a hi=>by
  obtain⟨ad,cs,e,hb,hl,hc,hr⟩:=h.2 i a hi
  exact⟨ad,cs,e,hb,hl,fun j u hu=>(hk _ (by rw[block_of_add];exact hb)).trans (hc j u hu),hR.1 _ _ _ _ _ hr hk⟩⟩
theorem Sl.more (hR:R.Kept) (h:Sl R size w B A n l) (hB:B≤B'):Sl R size w B' A n l:=
 ⟨h.1,fun i a hi=>by
  obtain⟨ad,cs,e,hb,hl,hc,hr⟩:=h.2 i a hi
  exact⟨ad,cs,e,by omega,hl,hc,hR.2 _ _ _ _ _ hr hB⟩⟩
theorem Sl.below (hR:R.Kept) (h:Sl R size w B A n l) (hb:Below B w w'):Sl R size w' B A n l:=h.keep hR fun _ hp=>hb.cell hp
theorem Sl.at_ (h:Sl R size w B A n l) {k:Nat} (hk:k<n):∃ad cs a,A=some ad∧l[k]?=some a∧ad.block<B∧cs.length=size∧(∀j u,cs[j]?=some u→w.cell? (ad.add (k*size+j))=some u)∧R w B cs a:=by
 have hl:k<l.length:=by rw[h.1];exact hk
 obtain⟨ad,cs,e,hb,h2,hc,hr⟩:=h.2 k l[k] (List.getElem?_eq_getElem hl)
 exact⟨ad,cs,l[k],e,List.getElem?_eq_getElem hl,hb,h2,hc,hr⟩
end
def Blk (w:World) (g:Nat) (t:TypeId) (cs:Array Value):Prop:=w.heap[g]?=some (.cells cs t (0,0))
section
variable {w w':World} {g:Nat} {t:TypeId} {cs:Array Value}
theorem Blk.lt (h:Blk w g t cs):g<w.heap.size:=by
 rcases Nat.lt_or_ge g w.heap.size with hlt|hge
 · exact hlt
 · unfold Blk at h;rw[Array.getElem?_eq_none hge]at h;cases h
theorem Blk.cell (h:Blk w g t cs) (i:Nat):w.cell? ⟨g,i,none⟩=cs[i]?:=cell_of_row w g i cs t (0,0) h
theorem Blk.frozen (h:Blk w g t cs) (i:Nat):w.frozen? ⟨g,i,none⟩=false:=by
 unfold Blk at h
 simp[World.frozen?,h]
theorem Blk.new (w:World) (t:TypeId) (cs:Array Value):Blk (w.alloc (.cells cs t)) w.heap.size t cs:=heap_alloc_new w _
theorem Blk.new' {w:World} {g:Nat} (t:TypeId) (cs:Array Value) (h:g=w.heap.size):Blk (w.alloc (.cells cs t)) g t cs:=by subst h;exact Blk.new w t cs
theorem Blk.alloc (h:Blk w g t cs) (o:Obj):Blk (w.alloc o) g t cs:=(Below.heap_alloc w o g h.lt).trans h
theorem Blk.set_ (h:Blk w g t cs) (i:Nat) (u:Value):Blk (w.setCell ⟨g,i,none⟩ u) g t (cs.setIfInBounds i u):=by
 unfold Blk at h ⊢
 simp[World.setCell,Array.getElem?_modify,h]
theorem Blk.far (h:Blk w g t cs) {p:Addr} (hp:g≠p.block) (u:Value):Blk (w.setCell p u) g t cs:=(Below.heap_setCell w p u g hp).trans h
theorem Blk.below {B:Nat} (h:Blk w g t cs) (hb:Below B w w') (hg:g<B):Blk w' g t cs:=(hb.block g hg).trans h
theorem Blk.grown {row:Option Nat} (h:Blk w g t cs) (hb:w.grownBy w' row) (hg:some g≠row):Blk w' g t cs:=(hb.block g h.lt hg).trans h
theorem Blk.four {a b c d:Value} (h:Blk w g t #[a,b,c,d]):g<w.heap.size∧w.cell? ⟨g,0,none⟩=some a∧w.cell? ⟨g,1,none⟩=some b∧w.cell? ⟨g,2,none⟩=some c∧w.cell? ⟨g,3,none⟩=some d∧
 w.frozen? ⟨g,0,none⟩=false∧w.frozen? ⟨g,1,none⟩=false∧w.frozen? ⟨g,2,none⟩=false∧w.frozen? ⟨g,3,none⟩=false:=
 ⟨h.lt,h.cell 0,h.cell 1,h.cell 2,h.cell 3,h.frozen 0,h.frozen 1,h.frozen 2,h.frozen 3⟩
end
section
variable {P:Program} {fn:Func} {R:Ending→World→Prop} {tmps:Array Value} {w:World}
theorem run_loadVar_blk {g:Nat} {t ty:TypeId} {cs:Array Value} {d:TypeDesc} (hb:Blk w g t cs) (hu:P.underlying ty=some d) (hd:(match d with| .struct _| .array _ _=>true|_=>false)=true) (hi:(P.info? ty).map (·.size)=some cs.size):
 (loadVar ty ⟨g,0,none⟩).run P w=.ok (.agg cs) w:=run_loadVar_row w g t ty cs (0,0) d hb hu hd hi
theorem post_cell {p:Tmp} {g:Nat} {t ty:TypeId} {cs:Array Value} {d:TypeDesc} (h:fn.results=#[.cell p ty]) (hp:tmps.getD p undef=.pointer (some ⟨g,0,none⟩)) (hb:Blk w g t cs)
 (hu:P.underlying ty=some d) (hd:(match d with| .struct _| .array _ _=>true|_=>false)=true) (hi:(P.info? ty).map (·.size)=some cs.size) (hR:R (.returned (.agg cs)) w):bodyPost P fn R .ret ⟨tmps,[]⟩ w:=
 bodyPost_ret (results_cell_row h tmps w g t cs (0,0) d hp hb hu hd hi) rfl hR
theorem post_cell_tmp {p u:Tmp} {g:Nat} {t ty:TypeId} {cs:Array Value} {d:TypeDesc} (h:fn.results=#[.cell p ty,.tmp u]) (hp:tmps.getD p undef=.pointer (some ⟨g,0,none⟩)) (hb:Blk w g t cs)
 (hu:P.underlying ty=some d) (hd:(match d with| .struct _| .array _ _=>true|_=>false)=true) (hi:(P.info? ty).map (·.size)=some cs.size) (hR:R (.returned (.tuple #[.agg cs,tmps.getD u undef])) w):bodyPost P fn R .ret ⟨tmps,[]⟩ w:=by
 refine bodyPost_ret ?_ rfl hR
 rw[results_cell_tmp h,hp]
 show ((loadVar ty ⟨g,0,none⟩).run P w).andThen _=_
 rw[run_loadVar_blk hb hu hd hi];rfl
end
def Flat {α:Type} (cells:α→List Value) (ok:α→Prop):Rel α:=fun _ _ cs a=>cs=cells a∧ok a
theorem Flat.kept {α:Type} (cells:α→List Value) (ok:α→Prop):(Flat cells ok).Kept:=⟨fun _ _ _ _ _ h _=>h,fun _ _ _ _ _ h _=>h⟩
structure Rg where
 id:Int
 ep:Int
 lo:Nat
 hi:Nat
 deriving DecidableEq
def Rg.cells (r:Rg):List Value:=[.int .i64 r.id,.int .i64 r.ep,.float .f64 r.lo,.float .f64 r.hi]
abbrev Rg.val (r:Rg):Value:=.agg #[.int .i64 r.id,.int .i64 r.ep,.float .f64 r.lo,.float .f64 r.hi]
def i64ok (n:Int):Prop:= -9223372036854775808≤n∧n≤9223372036854775807
def Rg.ok (r:Rg):Prop:=i64ok r.id∧i64ok r.ep∧r.lo<18446744073709551616∧r.hi<18446744073709551616
abbrev RgRel:Rel Rg:=Flat Rg.cells Rg.ok
theorem RgRel.kept:(RgRel).Kept:=Flat.kept _ _
section
variable {w:World} {B n:Nat} {A:Option Addr} {l:List Rg}
theorem Sl.rg (h:Sl RgRel 4 w B A n l) {k:Nat} (hk:k<n):∃ad r,A=some ad∧l[k]?=some r∧(ad.add (k*4)).block<B∧r.ok∧
 w.cell? (ad.add (k*4))=some (.int .i64 r.id)∧w.cell? ⟨(ad.add (k*4)).block,(ad.add (k*4)).off+1,none⟩=some (.int .i64 r.ep)∧
 w.cell? ⟨(ad.add (k*4)).block,(ad.add (k*4)).off+2,none⟩=some (.float .f64 r.lo)∧w.cell? ⟨(ad.add (k*4)).block,(ad.add (k*4)).off+3,none⟩=some (.float .f64 r.hi):=by
 obtain⟨ad,cs,r,e,hl,hb,_,hc,rfl,hok⟩:=h.at_ hk
 have e0:∀j,ad.add (k*4+j)=(ad.add (k*4)).add j:=fun j=>(add_of_add _ _ _).symm
 have c0:=hc 0 _ rfl
 have c1:=hc 1 _ rfl
 have c2:=hc 2 _ rfl
 have c3:=hc 3 _ rfl
 rw[e0]at c1 c2 c3
 exact⟨ad,r,e,hl,by rw[block_of_add];exact hb,hok,c0,c1,c2,c3⟩
end
end Go.Proofs.YtcalkfgibflbnaaGreat
namespace Go.Proofs.YtcalkfgibflbnaaGreat
open Go.ChangeShapes Go.WideShapes Go.ChangeAt Go.RowKit
theorem Tryz.own:ownKnob Tryz.prog.godebug=none:=by kernel_rfl
theorem Tryz.laidOut:laidOutB Tryz.prog=true:=by kernel_rfl
section
variable {H:Type} {enc:TypeId×Value→H} {P:Program}
theorem trodAll_below (hl:laidOutB P=true) {W W':World} (hb:Below W.heap.size W W'):
 ∀(ts:List TypeId) (vs:List Value) (ds:List (DataW H)) (ps:List MemPlace),(∀t∈ts,P.readableRec t=true∧t<P.types.size)→
  DataW.TrodAll enc P W 0 (fun _=>true) true ts vs ds ps→(∀x∈ps,x.block<W.heap.size)→
  DataW.TrodAll enc P W' 0 (fun b=>decide (b<W.heap.size)) true ts vs ds ps
 |[],[],[],_,_,h,_=>h
 |t::ts,v::vs,d::ds,ps,hr,h,hlt=>by
  obtain⟨p,q,h1,h2,rfl⟩:=h
  exact⟨p,q,Below.trod hl (hr t (by simp)).1 (hr t (by simp)).2 h1 hb (fun x hx=>hlt x (by simp[hx])),
   trodAll_below hl hb ts vs ds q (fun t ht=>hr t (by simp[ht])) h2 (fun x hx=>hlt x (by simp[hx])),rfl⟩
 |[],_::_,_,_,_,h,_=>h.elim
 |[],[],_::_,_,_,h,_=>h.elim
 |_::_,[],_,_,_,h,_=>h.elim
 |_::_,_::_,[],_,_,h,_=>h.elim
theorem law_post (hl:laidOutB P=true) {f:Func} {s:ChangeSpec} {apart fresh handsOn:Bool} {W W':World} {args:Array Value} {ds gs:List (DataW H)} {before:List MemPlace} {tb:TypeId}
 (hvars:s.vars=[]) (hres:f.resultTypes=#[tb]) (htb:P.underlying tb=some .bool)
 (hread:∀t∈f.params.toList,P.readableRec t=true∧t<P.types.size)
 (hfn:s.fn H (ds++[])={results:=[.lit (.bool true)],args:=ds})
 (hW:DataW.Whole enc P f.params.toList s.vars apart W args.toList ds gs before) (hb:Below W.heap.size W W'):
 s.post enc P f apart fresh handsOn false W args (.bool true) W':=by
 have hW':=hW
 have hlt:∀p∈before,p.block<W.heap.size:=fun p hp=>hW.lt p hp
 obtain⟨p,q,hA,hV,rfl,hfz,hnd⟩:=hW
 rw[hvars]at hV
 obtain⟨rfl,rfl⟩:=trodVars_none hV
 have e1:(s.fn H (ds++([]:List (DataW H)))).results=[.lit (.bool true)]:=by rw[hfn]
 have e2:(s.fn H (ds++([]:List (DataW H)))).args=ds:=by rw[hfn]
 have e3:(s.fn H (ds++([]:List (DataW H)))).vars=[]:=by rw[hfn]
 refine⟨ds,[],p++[],[],p,[],hW',?_,?_,?_,World.keptBut_mono (fun x hx=>⟨hx,?_⟩) (hb.frame (· ∈p++[])),fun h=>by cases h⟩
 · rw[e1,hres]
   exact trodAll_mk1 (shut_bool htb true)
 · rw[e2]
   exact trodAll_below hl hb _ _ _ _ hread hA (fun x hx=>hlt x (by simp[hx]))
 · rw[e3,hvars]
   rfl
 · simpa using hx
end
section
variable {H:Type} {enc:TypeId×Value→H} {P:Program} {w:World}
theorem open_sl {α:Type} (R:Rel α) (size:Nat) (hsz:0<size) {t e:TypeId} {v:Value} {d:DataW H} {ps:List MemPlace} {r:Reach} {b0:Nat} (ht:P.underlying t=some (.slice e)) (hc:P.cellsOf e=size)
 (hel:∀(fuel:Nat) (cs:List Value) (x:DataW H×List MemPlace),cs.length=size→DataW.trod enc P w 0 (fun _=>true) true fuel e cs=some x→∃a,R w w.heap.size cs a)
 (hv:Value.okWide P w r b0 t v) (h:DataW.Trod enc P w 0 (fun _=>true) true t v d ps):
 ∃A n c l,v=.slice A n c∧n≤maxLen∧n≤c∧c≤maxLen∧Sl R size w w.heap.size A n l:=by
 obtain⟨A,n,c,rfl⟩:=okWide_slice ht hv
 obtain⟨fuel,hf⟩:=h
 rcases Go.Deep.open_slice ht hf with ⟨hcs,_⟩|⟨a,len,cap,m,k,D,Pl,hcs,_,hl,hm,hmm,_,hi⟩
 · simp only[Value.cells,List.cons.injEq,Value.slice.injEq]at hcs
   obtain⟨⟨rfl,rfl,rfl⟩,_⟩:=hcs
   exact⟨_,_,_,[],rfl,by unfold maxLen;omega,by omega,by unfold maxLen;omega,Sl.nil⟩
 · simp only[Value.cells,List.cons.injEq,Value.slice.injEq]at hcs
   obtain⟨⟨rfl,rfl,rfl⟩,_⟩:=hcs
   have hmm':m=c:=by rw[hmm];rfl
   have hall:∀i,i<n→∃(x:List Value×α),x.1.length=size∧(∀j u,x.1[j]?=some u→w.cell? (a.add (i*size+j))=some u)∧R w w.heap.size x.1 x.2:=by
    intro i hin
    obtain⟨cs',hcell,ht'⟩:=hi i (by omega)
    rw[hc]at hcell
    obtain⟨_,hlen,hat⟩:=World.cells?_some hcell
    obtain⟨x,hx⟩:=hel k cs' _ hlen ht'
    refine⟨(cs',x),hlen,fun j u hu=>?_,hx⟩
    have hj:j<size:=by
        rw[←hlen]
        exact(List.getElem?_eq_some_iff.1 hu).1
    rw[←add_of_add,hat j hj]
    exact hu
   by_cases hn:n=0
   · subst hn
     exact⟨_,_,_,[],rfl,by omega,hl,hm,Sl.nil⟩
   · obtain⟨x0,_⟩:=hall 0 (by omega)
     have:Inhabited (List Value×α):=⟨x0⟩
     obtain⟨f,hf⟩:=Go.Deep.choose_lt hall
     refine⟨_,_,_,(List.range n).map fun i=>(f i).2,rfl,by omega,hl,hm,by simp,fun i b hb=>?_⟩
     have hin:i<n:=by
        have:=(List.getElem?_eq_some_iff.1 hb).1
        simpa using this
     obtain⟨h1,h2,h3⟩:=hf i hin
     have hb':b=(f i).2:=by
        rw[List.getElem?_map,List.getElem?_range hin]at hb
        exact(Option.some.inj hb).symm
     subst hb'
     refine⟨a,(f i).1,rfl,?_,h1,h2,h3⟩
     have h0:=h2 0 _ (List.getElem?_eq_getElem (by omega))
     have:=World.block_lt_of_cell? w _ h0
     rw[block_of_add]at this
     exact this
end
end Go.Proofs.YtcalkfgibflbnaaGreat
namespace Go.Proofs.YtcalkfgibflbnaaGreat
open Go.RowKit
def Reads (w:World) (B size:Nat) (A:Option Addr) (n:Nat) (xs:List Value):Prop:=
 xs.length=n*size∧(0<n→∃ad,A=some ad∧ad.block<B∧∀j u,xs[j]?=some u→w.cell? (ad.add j)=some u)
section
variable {w w':World} {B B' size n:Nat} {A:Option Addr} {xs:List Value}
theorem Reads.at_ {k:Nat} (h:Reads w B 1 A n xs) (hk:k<n):∃ad u,A=some ad∧ad.block<B∧xs[k]?=some u∧w.cell? (ad.add k)=some u:=by
 obtain⟨ad,e,hb,hc⟩:=h.2 (by omega)
 have hl:k<xs.length:=by have:=h.1;omega
 exact⟨ad,xs[k],e,hb,List.getElem?_eq_getElem hl,hc k _ (List.getElem?_eq_getElem hl)⟩
theorem Reads.keep (h:Reads w B size A n xs) (hk:∀p:Addr,p.block<B→w'.cell? p=w.cell? p):Reads w' B size A n xs:=
 ⟨h.1,fun hn=>by
  obtain⟨ad,e,hb,hc⟩:=h.2 hn
  exact⟨ad,e,hb,fun j u hu=>(hk _ (by rw[block_of_add];exact hb)).trans (hc j u hu)⟩⟩
theorem Reads.more (h:Reads w B size A n xs) (hB:B≤B'):Reads w B' size A n xs:=
 ⟨h.1,fun hn=>by
  obtain⟨ad,e,hb,hc⟩:=h.2 hn
  exact⟨ad,e,by omega,hc⟩⟩
theorem Reads.below (h:Reads w B size A n xs) (hb:Below B w w'):Reads w' B size A n xs:=h.keep fun _ hp=>hb.cell hp
theorem Reads.drew (h:Reads w B size A n xs):Reads w.drew B size A n xs:=h
theorem Reads.drewN (h:Reads w B size A n xs) (k:Nat):Reads (w.drewN k) B size A n xs:=h
theorem Reads.alloc (h:Reads w B size A n xs) (hB:B≤w.heap.size) (o:Obj):Reads (w.alloc o) B size A n xs:=h.keep fun p hp=>World.cell?_alloc_lt w o p (by omega)
theorem Reads.cut (h:Reads w B size A n xs) {k cap:Nat} (hk:k≤n) (hc:n≤cap):
 Reads w B size (if cap=k then A else A.map (·.add (k*size))) (n-k) (xs.drop (k*size)):=by
 refine⟨by rw[List.length_drop,h.1,Nat.sub_mul],fun hn=>?_⟩
 obtain⟨ad,rfl,hb,hcell⟩:=h.2 (by omega)
 rw[if_neg (by omega)]
 refine⟨ad.add (k*size),rfl,by rw[block_of_add];exact hb,fun j u hu=>?_⟩
 rw[add_of_add]
 exact hcell _ u (by rw[←hu,List.getElem?_drop])
theorem Reads.of_own {base:Nat} {e:TypeId} {c:Nat} (h:w.ownsRow base e size (.slice A n c) n xs):Reads w w.heap.size size A n xs:=by
 refine⟨h.1,fun hn=>?_⟩
 obtain⟨g,cap,hv,_,hlt⟩:=h.form hn
 have hA:A=some ⟨g,0,none⟩:=by injection hv
 subst hA
 exact⟨_,rfl,hlt,h.cells (g:=g) rfl⟩
end
section
variable {P:Program} (w:World)
theorem run_append_of_nil (base:Nat) (t ty e:TypeId) (i:TypeInfo) (size:Nat) (ht:P.underlying t=some (.slice e)) (hi:P.info? e=some i)
 (v:Value) (n:Nat) (xs:List Value) (hown:w.ownsRow base e size v n xs) (c:Nat):(Builtin.append_ #[t,t] ty #[v,.slice none 0 c]).run P w=.ok v w:=by
 rcases hown.2 with ⟨rfl,rfl⟩|⟨g,cap,cur,rfl,_,_,hnc,_⟩
 · simp[Builtin.append_,run_underlying ht,sizeOf,typeInfo,hi,Builtin.lenOf,Builtin.firstCells]
 · simp[Builtin.append_,run_underlying ht,sizeOf,typeInfo,hi,Builtin.lenOf,Builtin.firstCells,hnc,storeCells]
theorem run_append_any (base:Nat) (t ty e:TypeId) (i:TypeInfo) (z:Value) (size bytes:Nat) (ht:P.underlying t=some (.slice e)) (hi:P.info? e=some i) (hz:i.zero=some z)
 (hsize:i.size=size) (hby:i.bytes=bytes) (hzs:z.cells.size=size) (hsz:0<size)
 (v:Value) (n:Nat) (xs:List Value) (hown:w.ownsRow base e size v n xs)
 (B:Nat) (A:Option Addr) (m c:Nat) (news:List Value) (hr:Reads w B size A m news) (h1:∀u∈news,u.oneCell'=true)
 (h63:n+m≤maxLen) (hbytes:(n+m)*bytes≤140737488355328) (hbase:base≤w.heap.size):
 ∃v' w',(Builtin.append_ #[t,t] ty #[v,.slice A m c]).run P w=.ok v' w'∧w'.ownsRow base e size v' (n+m) (xs++news)∧w.grownBy w' v.ownBlock∧
  (v'.ownBlock=v.ownBlock∨v'.ownBlock=some w.heap.size):=by
 rcases A with _|ad
 · have hm:m=0:=by
    rcases Nat.eq_zero_or_pos m with h0|h0
    · exact h0
    · obtain⟨ad,h,_⟩:=hr.2 h0
      cases h
   subst hm
   have hn:news=[]:=List.eq_nil_of_length_eq_zero (by simpa using hr.1)
   subst hn
   exact⟨v,w,run_append_of_nil w base t ty e i size ht hi v n xs hown c,by simpa using hown,World.grownBy.refl w _,.inl rfl⟩
 · have hcells:∀j u,news[j]?=some u→w.cell? (ad.add j)=some u:=by
    intro j u hu
    rcases Nat.eq_zero_or_pos m with h0|h0
    · subst h0
      have hn:news=[]:=List.eq_nil_of_length_eq_zero (by simpa using hr.1)
      subst hn
      simp at hu
    · obtain⟨ad',h,_,hc⟩:=hr.2 h0
      injection h with h
      subst h
      exact hc j u hu
   obtain⟨v',w',hrun,h2,h3,_,h5⟩:=run_append_own_at (P:=P) w base t ty e i z size bytes ht hi hz hsize hby hzs hsz v n xs hown ad m c news hr.1 hcells h1 h63 hbytes hbase
   exact⟨v',w',hrun,h2,h3,h5⟩
theorem wp_append_any {o:Oper} {a:Act} {K:Act→World→Prop} {Q:Exit→Act→World→Prop} (s x:Operand) (t:TypeId)
 (ho:o.op=.call {callee:=.builtin .append,args:=#[s,x],argTypes:=#[t,t]})
 (base:Nat) (e:TypeId) (i:TypeInfo) (z:Value) (size bytes:Nat) (ht:P.underlying t=some (.slice e)) (hi:P.info? e=some i) (hz:i.zero=some z)
 (hsize:i.size=size) (hby:i.bytes=bytes) (hzs:z.cells.size=size) (hsz:0<size)
 (v:Value) (n:Nat) (xs:List Value) (hs:a.eval s=v) (hown:w.ownsRow base e size v n xs)
 (B:Nat) (A:Option Addr) (m c:Nat) (news:List Value) (hx:a.eval x=.slice A m c) (hr:Reads w B size A m news) (h1:∀u∈news,u.oneCell'=true)
 (h63:n+m≤maxLen) (hbytes:(n+m)*bytes≤140737488355328) (hbase:base≤w.heap.size)
 (h:∀v' w',w'.ownsRow base e size v' (n+m) (xs++news)→w.grownBy w' v.ownBlock→(v'.ownBlock=v.ownBlock∨v'.ownBlock=some w.heap.size)→K (a.put o.dst v') w'):o.wp P a w K Q:=by
 obtain⟨v',w',hrun,h2,h3,h4⟩:=run_append_any (P:=P) w base t o.type e i z size bytes ht hi hz hsize hby hzs hsz v n xs hown B A m c news hr h1 h63 hbytes hbase
 unfold Oper.wp execOp
 simp only[ho,resolve,invoke,builtin,Sem.run_bind,Sem.run_pure,Result.andThen_ok,List.map_toArray,List.map_cons,List.map_nil,hs,hx,hrun]
 exact h v' w' h2 h3 h4
theorem wpList_append_any {ops:Array Oper} {rest:List Oper} {o:Oper} {a:Act} {Q:Exit→Act→World→Prop} (hgd:o.guard=none) (s x:Operand) (t:TypeId)
 (ho:o.op=.call {callee:=.builtin .append,args:=#[s,x],argTypes:=#[t,t]})
 (base:Nat) (e:TypeId) (i:TypeInfo) (z:Value) (size bytes:Nat) (ht:P.underlying t=some (.slice e)) (hi:P.info? e=some i) (hz:i.zero=some z)
 (hsize:i.size=size) (hby:i.bytes=bytes) (hzs:z.cells.size=size) (hsz:0<size)
 (v:Value) (n:Nat) (xs:List Value) (hs:a.eval s=v) (hown:w.ownsRow base e size v n xs)
 (B:Nat) (A:Option Addr) (m c:Nat) (news:List Value) (hx:a.eval x=.slice A m c) (hr:Reads w B size A m news) (h1:∀u∈news,u.oneCell'=true)
 (h63:n+m≤maxLen) (hbytes:(n+m)*bytes≤140737488355328) (hbase:base≤w.heap.size)
 (h:∀v' w',w'.ownsRow base e size v' (n+m) (xs++news)→w.grownBy w' v.ownBlock→(v'.ownBlock=v.ownBlock∨v'.ownBlock=some w.heap.size)→wpList P ops Q rest (a.put o.dst v') w'):wpList P ops Q (o::rest) a w:=
 wpList_plain hgd fun _ hK=>wp_append_any w s x t ho base e i z size bytes ht hi hz hsize hby hzs hsz v n xs hs hown B A m c news hx hr h1 h63 hbytes hbase fun v' w' h2 h3 h4=>hK _ _ (h v' w' h2 h3 h4)
theorem step_append_any {ops:Array Oper} {o:Oper} {a:Act} {K:Act→World→Prop} {Q:Exit→Act→World→Prop} {E:Prop} (hgd:o.guard=none) (s x:Operand) (t:TypeId)
 (ho:o.op=.call {callee:=.builtin .append,args:=#[s,x],argTypes:=#[t,t]})
 (base:Nat) (e:TypeId) (i:TypeInfo) (z:Value) (size bytes:Nat) (ht:P.underlying t=some (.slice e)) (hi:P.info? e=some i) (hz:i.zero=some z)
 (hsize:i.size=size) (hby:i.bytes=bytes) (hzs:z.cells.size=size) (hsz:0<size)
 (v:Value) (n:Nat) (xs:List Value) (hs:a.eval s=v) (hown:w.ownsRow base e size v n xs)
 (B:Nat) (A:Option Addr) (m c:Nat) (news:List Value) (hx:a.eval x=.slice A m c) (hr:Reads w B size A m news) (h1:∀u∈news,u.oneCell'=true)
 (h63:n+m≤maxLen) (hbytes:(n+m)*bytes≤140737488355328) (hbase:base≤w.heap.size)
 (h:∀v' w',w'.ownsRow base e size v' (n+m) (xs++news)→w.grownBy w' v.ownBlock→(v'.ownBlock=v.ownBlock∨v'.ownBlock=some w.heap.size)→K (a.put o.dst v') w'):
 if Region.wanted o (yielded ops a.tmps)=true then Oper.wp P o a w K Q else E:=by
 have hw:Region.wanted o (yielded ops a.tmps)=true:=by simp[Region.wanted,hgd]
 rw[if_pos hw]
 exact wp_append_any w s x t ho base e i z size bytes ht hi hz hsize hby hzs hsz v n xs hs hown B A m c news hx hr h1 h63 hbytes hbase h
end
theorem flat_get {α:Type} (f:α→List Value) (k:Nat) (_hk:0<k) (hf:∀a,(f a).length=k):∀(l:List α) (i r:Nat),r<k→(l.flatMap f)[i*k+r]?=(l[i]?).bind fun a=>(f a)[r]?:=by
 intro l
 induction l with
 |nil=>intro i r _;simp
 |cons a l ih=>
  intro i r hr
  rw[List.flatMap_cons]
  cases i with
  |zero=>
   rw[Nat.zero_mul,Nat.zero_add,List.getElem?_append_left (by rw[hf];exact hr)]
   rfl
  |succ i=>
   have e:(i+1)*k+r=k+(i*k+r):=by rw[Nat.succ_mul];omega
   rw[e,List.getElem?_append_right (by rw[hf];omega),hf,Nat.add_sub_cancel_left,ih i r hr]
   rfl
theorem flat_len {α:Type} (f:α→List Value) (k:Nat) (hf:∀a,(f a).length=k):∀l:List α,(l.flatMap f).length=l.length*k:=by
 intro l
 induction l with
 |nil=>simp
 |cons a l ih=>rw[List.flatMap_cons,List.length_append,hf,ih,List.length_cons,Nat.succ_mul];omega
section
variable {α:Type} {cells:α→List Value} {ok:α→Prop} {size:Nat} {w:World} {B n:Nat} {A:Option Addr} {l:List α}
theorem Sl.reads (hk:0<size) (hf:∀a,(cells a).length=size) (h:Sl (Flat cells ok) size w B A n l):Reads w B size A n (l.flatMap cells):=by
 refine⟨by rw[flat_len _ _ hf,h.1],fun hn=>?_⟩
 obtain⟨ad,_,_,rfl,_,hb,_⟩:=h.at_ (k:=0) hn
 refine⟨ad,rfl,hb,fun j u hj=>?_⟩
 have e:j=j/size*size+j%size:=(Nat.div_add_mod' j size).symm
 rw[e,flat_get cells size hk hf l _ _ (Nat.mod_lt _ hk)]at hj
 cases hl:l[j/size]? with
 |none=>rw[hl]at hj;cases hj
 |some a=>
  rw[hl]at hj
  obtain⟨ad',cs,e2,_,_,hc,rfl,_⟩:=h.2 _ a hl
  obtain rfl:ad=ad':=Option.some.inj e2
  rw[e]
  exact hc _ u hj
theorem Sl.all_ok (h:Sl (Flat cells ok) size w B A n l):∀a∈l,ok a:=fun a ha=>by
 obtain⟨i,hi⟩:=List.getElem?_of_mem ha
 obtain⟨_,_,_,_,_,_,_,hk⟩:=h.2 i a hi
 exact hk
theorem Reads.sl (hk:0<size) (hf:∀a,(cells a).length=size) (hok:∀a∈l,ok a) (hn:l.length=n) (h:Reads w B size A n (l.flatMap cells)):Sl (Flat cells ok) size w B A n l:=by
 refine⟨hn,fun i a hi=>?_⟩
 have hlt:=(List.getElem?_eq_some_iff.1 hi).1
 obtain⟨ad,e,hb,hc⟩:=h.2 (by omega)
 refine⟨ad,cells a,e,hb,hf a,fun j u hj=>hc _ u ?_,rfl,hok a (List.mem_of_getElem? hi)⟩
 have hj':=(List.getElem?_eq_some_iff.1 hj).1
 rw[flat_get cells size hk hf l i j (by rw[←hf a];exact hj'),hi]
 exact hj
end
theorem own_form {w:World} {base:Nat} {e:TypeId} {size n:Nat} {v:Value} {xs:List Value} (h:w.ownsRow base e size v n xs):∃A c,v=.slice A n c∧n≤c∧c≤maxLen:=by
 rcases h.2 with ⟨rfl,rfl⟩|⟨g,cap,cur,rfl,_,_,h1,h2,_⟩
 · exact⟨none,0,rfl,Nat.le_refl _,by unfold maxLen;omega⟩
 · exact⟨_,cap,rfl,h1,h2⟩
theorem reach_max {n:Nat} (h:n≤140737488351232):n≤maxLen:=by unfold maxLen;omega
structure Vl where
 k:Int
 n:Nat
 t:ByteArray
structure Sp where
 w:Int
 l:Int
 n:Int
 deriving DecidableEq
structure Tx where
 c:Int
 l:Int
 s:Int
 deriving DecidableEq
structure Wt where
 key:ByteArray
 v:Vl
structure Vn where
 s:Sp
 v:Vl
structure Hs where
 key:ByteArray
 vs:List Vn
structure Pn where
 t:Tx
 s:Sp
 r:List ByteArray
 w:List Wt
structure Stt where
 r:Rg
 f:Sp
 c:Sp
 h:List Hs
 p:List Pn
def Vl.cells (v:Vl):List Value:=[.int .i64 v.k,.float .f64 v.n,.string v.t]
abbrev Vl.val (v:Vl):Value:=.agg #[.int .i64 v.k,.float .f64 v.n,.string v.t]
def Vl.ok (v:Vl):Prop:=i64ok v.k∧v.n<18446744073709551616∧v.t.size≤140737488351232
abbrev Sp.val (s:Sp):Value:=.agg #[.int .i64 s.w,.int .i64 s.l,.int .i64 s.n]
def Sp.ok (s:Sp):Prop:=i64ok s.w∧i64ok s.l∧i64ok s.n
def Tx.ok (s:Tx):Prop:=i64ok s.c∧i64ok s.l∧i64ok s.s
abbrev Tx.val (s:Tx):Value:=.agg #[.int .i64 s.c,.int .i64 s.l,.int .i64 s.s]
def Wt.cells (a:Wt):List Value:=[.string a.key,.int .i64 a.v.k,.float .f64 a.v.n,.string a.v.t]
abbrev Wt.val (a:Wt):Value:=.agg #[.string a.key,.int .i64 a.v.k,.float .f64 a.v.n,.string a.v.t]
def Wt.ok (a:Wt):Prop:=a.key.size≤140737488351232∧a.v.ok
def Vn.cells (a:Vn):List Value:=[.int .i64 a.s.w,.int .i64 a.s.l,.int .i64 a.s.n,.int .i64 a.v.k,.float .f64 a.v.n,.string a.v.t]
def Vn.ok (a:Vn):Prop:=a.s.ok∧a.v.ok
def keyCells (k:ByteArray):List Value:=[.string k]
abbrev KyRel:Rel ByteArray:=Flat keyCells fun k=>k.size≤140737488351232
abbrev WtRel:Rel Wt:=Flat Wt.cells Wt.ok
abbrev VnRel:Rel Vn:=Flat Vn.cells Vn.ok
def HdRel {α:Type} (R:Rel α) (size:Nat) (w:World) (B:Nat) (v:Value) (l:List α):Prop:=∃A n c,v=.slice A n c∧n≤c∧c≤maxLen∧Sl R size w B A n l
def HsRel:Rel Hs:=fun w B cs h=>∃v,cs=[.string h.key,v]∧h.key.size≤140737488351232∧HdRel VnRel 6 w B v h.vs
def PnRel:Rel Pn:=fun w B cs p=>∃r q,cs=[.int .i64 p.t.c,.int .i64 p.t.l,.int .i64 p.t.s,.int .i64 p.s.w,.int .i64 p.s.l,.int .i64 p.s.n,r,q]∧p.t.ok∧p.s.ok∧HdRel KyRel 1 w B r p.r∧HdRel WtRel 4 w B q p.w
def SttRel (w:World) (B:Nat) (cs:List Value) (s:Stt):Prop:=∃h p,cs=[.int .i64 s.r.id,.int .i64 s.r.ep,.float .f64 s.r.lo,.float .f64 s.r.hi,.int .i64 s.f.w,.int .i64 s.f.l,.int .i64 s.f.n,.int .i64 s.c.w,.int .i64 s.c.l,.int .i64 s.c.n,h,p]∧
 s.r.ok∧s.f.ok∧s.c.ok∧HdRel HsRel 2 w B h s.h∧HdRel PnRel 8 w B p s.p
section
variable {α:Type} {R:Rel α} {size:Nat} {w w':World} {B B':Nat} {v:Value} {l:List α}
theorem HdRel.keep (hR:R.Kept) (h:HdRel R size w B v l) (hk:∀p:Addr,p.block<B→w'.cell? p=w.cell? p):HdRel R size w' B v l:=by
 obtain⟨A,n,c,e,h1,h2,h3⟩:=h
 exact⟨A,n,c,e,h1,h2,h3.keep hR hk⟩
theorem HdRel.more (hR:R.Kept) (h:HdRel R size w B v l) (hB:B≤B'):HdRel R size w B' v l:=by
 obtain⟨A,n,c,e,h1,h2,h3⟩:=h
 exact⟨A,n,c,e,h1,h2,h3.more hR hB⟩
theorem HdRel.below (hR:R.Kept) (h:HdRel R size w B v l) (hb:Below B w w'):HdRel R size w' B v l:=h.keep hR fun _ hp=>hb.cell hp
theorem HdRel.nil:HdRel R size w B (.slice none 0 0) []:=⟨none,0,0,rfl,Nat.le_refl _,by unfold maxLen;omega,Sl.nil⟩
end
theorem KyRel.kept:(KyRel).Kept:=Flat.kept _ _
theorem WtRel.kept:(WtRel).Kept:=Flat.kept _ _
theorem VnRel.kept:(VnRel).Kept:=Flat.kept _ _
theorem HsRel.kept:(HsRel).Kept:=
 ⟨fun _ _ _ _ _ ⟨v,e,hk,h⟩ hw=>⟨v,e,hk,h.keep VnRel.kept hw⟩,fun _ _ _ _ _ ⟨v,e,hk,h⟩ hB=>⟨v,e,hk,h.more VnRel.kept hB⟩⟩
theorem PnRel.kept:(PnRel).Kept:=
 ⟨fun _ _ _ _ _ ⟨r,q,e,h1,h2,h3,h4⟩ hw=>⟨r,q,e,h1,h2,h3.keep KyRel.kept hw,h4.keep WtRel.kept hw⟩,
  fun _ _ _ _ _ ⟨r,q,e,h1,h2,h3,h4⟩ hB=>⟨r,q,e,h1,h2,h3.more KyRel.kept hB,h4.more WtRel.kept hB⟩⟩
section
variable {w w':World} {B B':Nat} {cs:List Value} {s:Stt}
end
section
variable {w:World} {B n:Nat} {A:Option Addr}
theorem Sl.ky {l:List ByteArray} (h:Sl KyRel 1 w B A n l) {k:Nat} (hk:k<n):∃ad a,A=some ad∧l[k]?=some a∧(ad.add k).block<B∧a.size≤140737488351232∧w.cell? (ad.add k)=some (.string a):=by
 obtain⟨ad,cs,a,e,hl,hb,_,hc,rfl,hok⟩:=h.at_ hk
 have c0:=hc 0 _ rfl
 rw[Nat.mul_one,Nat.add_zero]at c0
 exact⟨ad,a,e,hl,by rw[block_of_add];exact hb,hok,c0⟩
theorem Sl.wt {l:List Wt} (h:Sl WtRel 4 w B A n l) {k:Nat} (hk:k<n):∃ad a,A=some ad∧l[k]?=some a∧(ad.add (k*4)).block<B∧a.ok∧w.cell? (ad.add (k*4))=some (.string a.key)∧
 w.cell? ⟨(ad.add (k*4)).block,(ad.add (k*4)).off+1,none⟩=some (.int .i64 a.v.k)∧w.cell? ⟨(ad.add (k*4)).block,(ad.add (k*4)).off+2,none⟩=some (.float .f64 a.v.n)∧
 w.cell? ⟨(ad.add (k*4)).block,(ad.add (k*4)).off+3,none⟩=some (.string a.v.t):=by
 obtain⟨ad,cs,a,e,hl,hb,_,hc,rfl,hok⟩:=h.at_ hk
 have e0:∀j,ad.add (k*4+j)=(ad.add (k*4)).add j:=fun j=>(add_of_add _ _ _).symm
 have c0:=hc 0 _ rfl
 have c1:=hc 1 _ rfl
 have c2:=hc 2 _ rfl
 have c3:=hc 3 _ rfl
 rw[e0]at c1 c2 c3
 exact⟨ad,a,e,hl,by rw[block_of_add];exact hb,hok,c0,c1,c2,c3⟩
theorem Sl.vn {l:List Vn} (h:Sl VnRel 6 w B A n l) {k:Nat} (hk:k<n):∃ad a,A=some ad∧l[k]?=some a∧(ad.add (k*6)).block<B∧a.ok∧w.cell? (ad.add (k*6))=some (.int .i64 a.s.w)∧
 w.cell? ⟨(ad.add (k*6)).block,(ad.add (k*6)).off+1,none⟩=some (.int .i64 a.s.l)∧w.cell? ⟨(ad.add (k*6)).block,(ad.add (k*6)).off+2,none⟩=some (.int .i64 a.s.n)∧
 w.cell? ⟨(ad.add (k*6)).block,(ad.add (k*6)).off+3,none⟩=some (.int .i64 a.v.k)∧w.cell? ⟨(ad.add (k*6)).block,(ad.add (k*6)).off+4,none⟩=some (.float .f64 a.v.n)∧
 w.cell? ⟨(ad.add (k*6)).block,(ad.add (k*6)).off+5,none⟩=some (.string a.v.t):=by
 obtain⟨ad,cs,a,e,hl,hb,_,hc,rfl,hok⟩:=h.at_ hk
 have e0:∀j,ad.add (k*6+j)=(ad.add (k*6)).add j:=fun j=>(add_of_add _ _ _).symm
 have c0:=hc 0 _ rfl
 have c1:=hc 1 _ rfl
 have c2:=hc 2 _ rfl
 have c3:=hc 3 _ rfl
 have c4:=hc 4 _ rfl
 have c5:=hc 5 _ rfl
 rw[e0]at c1 c2 c3 c4 c5
 exact⟨ad,a,e,hl,by rw[block_of_add];exact hb,hok,c0,c1,c2,c3,c4,c5⟩
theorem Sl.hs {l:List Hs} (h:Sl HsRel 2 w B A n l) {k:Nat} (hk:k<n):∃ad a A' n' c',A=some ad∧l[k]?=some a∧(ad.add (k*2)).block<B∧a.key.size≤140737488351232∧w.cell? (ad.add (k*2))=some (.string a.key)∧
 w.cell? ⟨(ad.add (k*2)).block,(ad.add (k*2)).off+1,none⟩=some (.slice A' n' c')∧n'≤c'∧c'≤maxLen∧Sl VnRel 6 w B A' n' a.vs:=by
 obtain⟨ad,cs,a,e,hl,hb,_,hc,⟨v,rfl,hok,A',n',c',rfl,h1,h2,h3⟩⟩:=h.at_ hk
 have e0:∀j,ad.add (k*2+j)=(ad.add (k*2)).add j:=fun j=>(add_of_add _ _ _).symm
 have c0:=hc 0 _ rfl
 have c1:=hc 1 _ rfl
 rw[e0]at c1
 exact⟨ad,a,A',n',c',e,hl,by rw[block_of_add];exact hb,hok,c0,c1,h1,h2,h3⟩
theorem Sl.pn {l:List Pn} (h:Sl PnRel 8 w B A n l) {k:Nat} (hk:k<n):∃ad a A1 n1 c1 A2 n2 c2,A=some ad∧l[k]?=some a∧(ad.add (k*8)).block<B∧a.t.ok∧a.s.ok∧w.cell? (ad.add (k*8))=some (.int .i64 a.t.c)∧
 w.cell? ⟨(ad.add (k*8)).block,(ad.add (k*8)).off+1,none⟩=some (.int .i64 a.t.l)∧w.cell? ⟨(ad.add (k*8)).block,(ad.add (k*8)).off+2,none⟩=some (.int .i64 a.t.s)∧
 w.cell? ⟨(ad.add (k*8)).block,(ad.add (k*8)).off+3,none⟩=some (.int .i64 a.s.w)∧w.cell? ⟨(ad.add (k*8)).block,(ad.add (k*8)).off+4,none⟩=some (.int .i64 a.s.l)∧
 w.cell? ⟨(ad.add (k*8)).block,(ad.add (k*8)).off+5,none⟩=some (.int .i64 a.s.n)∧w.cell? ⟨(ad.add (k*8)).block,(ad.add (k*8)).off+6,none⟩=some (.slice A1 n1 c1)∧
 w.cell? ⟨(ad.add (k*8)).block,(ad.add (k*8)).off+7,none⟩=some (.slice A2 n2 c2)∧n1≤c1∧c1≤maxLen∧Sl KyRel 1 w B A1 n1 a.r∧n2≤c2∧c2≤maxLen∧Sl WtRel 4 w B A2 n2 a.w:=by
 obtain⟨ad,cs,a,e,hl,hb,_,hc,⟨r,q,rfl,h1,h2,⟨A1,n1,c1,rfl,h3,h4,h5⟩,⟨A2,n2,c2,rfl,h6,h7,h8⟩⟩⟩:=h.at_ hk
 have e0:∀j,ad.add (k*8+j)=(ad.add (k*8)).add j:=fun j=>(add_of_add _ _ _).symm
 have d0:=hc 0 _ rfl
 have d1:=hc 1 _ rfl
 have d2:=hc 2 _ rfl
 have d3:=hc 3 _ rfl
 have d4:=hc 4 _ rfl
 have d5:=hc 5 _ rfl
 have d6:=hc 6 _ rfl
 have d7:=hc 7 _ rfl
 rw[e0]at d1 d2 d3 d4 d5 d6 d7
 exact⟨ad,a,A1,n1,c1,A2,n2,c2,e,hl,by rw[block_of_add];exact hb,h1,h2,d0,d1,d2,d3,d4,d5,d6,d7,h3,h4,h5,h6,h7,h8⟩
end
theorem wt_len (a:Wt):a.cells.length=4:=rfl
theorem vn_len (a:Vn):a.cells.length=6:=rfl
theorem ky_len (a:ByteArray):(keyCells a).length=1:=rfl
theorem one_of {α:Type} {f:α→List Value} (h:∀a,∀u∈f a,u.oneCell'=true) (l:List α):∀u∈l.flatMap f,u.oneCell'=true:=by
 intro u hu
 obtain⟨a,_,ha⟩:=List.mem_flatMap.1 hu
 exact h a u ha
theorem wt_one (a:Wt):∀u∈a.cells,u.oneCell'=true:=by
 intro u hu
 simp only[Wt.cells,List.mem_cons,List.not_mem_nil,or_false]at hu
 rcases hu with rfl|rfl|rfl|rfl<;>rfl
theorem vn_one (a:Vn):∀u∈a.cells,u.oneCell'=true:=by
 intro u hu
 simp only[Vn.cells,List.mem_cons,List.not_mem_nil,or_false]at hu
 rcases hu with rfl|rfl|rfl|rfl|rfl|rfl<;>rfl
theorem ky_one (a:ByteArray):∀u∈keyCells a,u.oneCell'=true:=by
 intro u hu
 simp only[keyCells,List.mem_cons,List.not_mem_nil,or_false]at hu
 subst hu;rfl
end Go.Proofs.YtcalkfgibflbnaaGreat
