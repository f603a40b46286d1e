/- Words: what a tactic pays by itself, said in two letters. -/
import Derived.KernelRfl
import Derived.WalkKit
import Derived.Below
import Derived.Handy
import Derived.Lib.Hide
import Derived.Deep.Slices
import Derived.Deep.Draws
import Derived.Laws.Cover2
import Derived.Test.YtcalkfgibflbnaaGreatRows
import Derived.ProofKit
import Derived.Maps.AppendAt
import Derived.Deep.AppendLies
import Derived.RegionTactic
import Derived.OwnWalk
import Derived.SizedLaws
import Derived.WalkLawsBesides
import Derived.Laws.FloatArith
import Derived.Laws.FloatBits
import Derived.Laws.BitsAllLaws
import Derived.Test.YtcalkfgibflbnaaGreatProg
import Derived.WalkSpells
import Derived.Deep.QuietTactic
import Derived.BigQuiet
import Derived.Laws.StructEq
import Derived.Deep.RegionHeld3
import Derived.Laws.OwnMore
namespace Go.Proofs.YtcalkfgibflbnaaGreat
theorem ah {p:Prop} (h:p:=by kernel_rfl):p:=h
theorem byOmega {p:Prop} (h:p:=by omega):p:=h
theorem aA {p:Prop} (h:p:=by simp):p:=h
theorem ay {p:Prop} (h:p:=by (simp;omega)):p:=h
theorem aI {p:Prop} (h:p:=by rfl):p:=h
theorem aK {α:Type _} {a b:List α}:(a++b).length=a.length+b.length:=List.length_append
theorem iD {p:Prop} (h:p:=by (simp only[List.length_append];omega)):p:=h
theorem getZero {α:Type _} {a:α} {l:List α}:(a::l)[0]?=some a:=List.getElem?_cons_zero
end Go.Proofs.YtcalkfgibflbnaaGreat
namespace Go.Proofs.YtcalkfgibflbnaaGreat
open Go.RowKit
theorem aJ {p:Prop} (h:p:=by go_grown):p:=h
theorem dX {p:Prop} (h:p:=by (unfold maxLen;omega)):p:=h
theorem au {p:Prop} (h:p):RowKit.Hid p:=Lib.hid h
theorem aC {n:Nat} {w:World}:Below n w w:=Below.refl _ _
theorem bF {α:Type _} {l:List α} {i:Nat} (h:l.length<=i):l.drop i=[]:=List.drop_of_length_le h
theorem iW (a:Addr) (n:Nat):(a.add n).block=a.block:=by unfold Addr.add;split<;>rfl
theorem oh (a:Addr) (i j:Nat):(a.add i).add j=a.add (i+j):=by
 unfold Addr.add;by_cases hi:i=0<;>by_cases hj:j=0<;>simp[hi,hj,Nat.add_assoc]
abbrev Rel (α:Type):=World->Nat->List Value->α->Prop
def Rel.Kept {α:Type} (R:Rel α):Prop:=(∀w w' B cs a,R w B cs a->(∀p:Addr,p.block<B->w'.cell? p=w.cell? p)->R w' B cs a)/\(∀w B B' cs a,R w B cs a->B<=B'->R w B' cs a)
def Sl {α:Type} (R:Rel α) (size:Nat) (w:World) (B:Nat) (A:Option Addr) (n:Nat) (l:List α):Prop:=
 l.length=n/\∀i a,l[i]?=some a->∃ad cs,A=some ad/\ad.block<B/\cs.length=size/\(∀j u,cs[j]?=some u->w.cell? (ad.add (i*size+j))=some u)/\R w B cs a
section
variable {α:Type} {R:Rel α} {size:Nat} {w w':World} {B B' n:Nat} {A:Option Addr} {l:List α}
theorem Sl.nil:Sl R size w B A 0 []:=⟨rfl,fun i a h=>by simp at h⟩
theorem Sl.keep (hR:R.Kept) (h:Sl R size w B A n l) (hk:∀p:Addr,p.block<B->w'.cell? p=w.cell? p):Sl R size w' B A n l:=
 ⟨h.1,fun i a hi=>by
  obtain⟨ad,cs,e,hb,hl,hc,hr⟩:=h.2 i a hi;exact⟨ad,cs,e,hb,hl,fun j u hu=>(hk _ (by rw[iW];exact hb)).trans (hc j u hu),hR.1 _ _ _ _ _ hr hk⟩⟩
theorem Sl.more (hR:R.Kept) (h:Sl R size w B A n l) (hB:B<=B'):Sl R size w B' A n l:=
 ⟨h.1,fun i a hi=>by
  obtain⟨ad,cs,e,hb,hl,hc,hr⟩:=h.2 i a hi;exact⟨ad,cs,e,byOmega,hl,hc,hR.2 _ _ _ _ _ hr hB⟩⟩
theorem Sl.below (hR:R.Kept) (h:Sl R size w B A n l) (hb:Below B w w'):Sl R size w' B A n l:=h.keep hR fun _ hp=>hb.cell hp
theorem Sl.at_ (h:Sl R size w B A n l) {k:Nat} (hk:k<n):∃ad cs a,A=some ad/\l[k]?=some a/\ad.block<B/\cs.length=size/\(∀j u,cs[j]?=some u->w.cell? (ad.add (k*size+j))=some u)/\R w B cs a:=by
 have hl:k<l.length:=by rw[h.1];exact hk
 obtain⟨ad,cs,e,hb,h2,hc,hr⟩:=h.2 k l[k] (List.getElem?_eq_getElem hl);exact⟨ad,cs,l[k],e,List.getElem?_eq_getElem hl,hb,h2,hc,hr⟩
end
def aj (w:World) (g:Nat) (t:TypeId) (cs:Array Value):Prop:=w.heap[g]?=some (.cells cs t (0,0))
section
variable {w w':World} {g:Nat} {t:TypeId} {cs:Array Value}
theorem aj.lt (h:aj w g t cs):g<w.heap.size:=by
 rcases Nat.lt_or_ge g w.heap.size with hlt|hge
 · exact hlt
 · unfold aj at h;rw[Array.getElem?_eq_none hge]at h;cases h
theorem aj.cell (h:aj w g t cs) (i:Nat):w.cell? ⟨g,i,none⟩=cs[i]?:=cell_of_row w g i cs t (0,0) h
theorem aj.frozen (h:aj w g t cs) (i:Nat):w.frozen? ⟨g,i,none⟩=false:=by
 unfold aj at h;simp[World.frozen?,h]
theorem aj.new (w:World) (t:TypeId) (cs:Array Value):aj (w.alloc (.cells cs t)) w.heap.size t cs:=heap_alloc_new w _
theorem aj.new' {w:World} {g:Nat} (t:TypeId) (cs:Array Value) (h:g=w.heap.size):aj (w.alloc (.cells cs t)) g t cs:=by subst h;exact aj.new w t cs
theorem aj.alloc (h:aj w g t cs) (o:Obj):aj (w.alloc o) g t cs:=(Below.heap_alloc w o g h.lt).trans h
theorem aj.fB (h:aj w g t cs) (i:Nat) (u:Value):aj (w.setCell ⟨g,i,none⟩ u) g t (cs.setIfInBounds i u):=by
 unfold aj at h ⊢;simp[World.setCell,Array.getElem?_modify,h]
theorem aj.far (h:aj w g t cs) {p:Addr} (hp:g≠p.block) (u:Value):aj (w.setCell p u) g t cs:=(Below.heap_setCell w p u g hp).trans h
theorem aj.below {B:Nat} (h:aj w g t cs) (hb:Below B w w') (hg:g<B):aj w' g t cs:=(hb.block g hg).trans h
theorem aj.grown {row:Option Nat} (h:aj w g t cs) (hb:w.grownBy w' row) (hg:some g≠row):aj w' g t cs:=(hb.block g h.lt hg).trans h
theorem aj.four {a b c d:Value} (h:aj w g t #[a,b,c,d]):g<w.heap.size/\w.cell? ⟨g,0,none⟩=some a/\w.cell? ⟨g,1,none⟩=some b/\w.cell? ⟨g,2,none⟩=some c/\w.cell? ⟨g,3,none⟩=some d/\
 w.frozen? ⟨g,0,none⟩=false/\w.frozen? ⟨g,1,none⟩=false/\w.frozen? ⟨g,2,none⟩=false/\w.frozen? ⟨g,3,none⟩=false:=
 ⟨h.lt,h.cell 0,h.cell 1,h.cell 2,h.cell 3,h.frozen 0,h.frozen 1,h.frozen 2,h.frozen 3⟩
end
section
variable {P:Program} {fn:Func} {R:Ending->World->Prop} {tmps:Array Value} {w:World}
theorem JZ {g:Nat} {t ty:TypeId} {cs:Array Value} {d:TypeDesc} (hb:aj w g t cs) (hu:P.underlying ty=some d) (hd:(match d with| .struct _| .array _ _=>true|_=>false)=true) (hi:(P.info? ty).map (·.size)=some cs.size):
 (loadVar ty ⟨g,0,none⟩).run P w=.ok (.agg cs) w:=run_loadVar_row w g t ty cs (0,0) d hb hu hd hi
theorem gJ {p:Tmp} {g:Nat} {t ty:TypeId} {cs:Array Value} {d:TypeDesc} (h:fn.results=#[.cell p ty]) (hp:tmps.getD p undef=.pointer (some ⟨g,0,none⟩)) (hb:aj w g t cs)
 (hu:P.underlying ty=some d) (hd:(match d with| .struct _| .array _ _=>true|_=>false)=true) (hi:(P.info? ty).map (·.size)=some cs.size) (hR:R (.returned (.agg cs)) w):bodyPost P fn R .ret ⟨tmps,[]⟩ w:=
 bodyPost_ret (results_cell_row h tmps w g t cs (0,0) d hp hb hu hd hi) rfl hR
theorem jR {p u:Tmp} {g:Nat} {t ty:TypeId} {cs:Array Value} {d:TypeDesc} (h:fn.results=#[.cell p ty,.tmp u]) (hp:tmps.getD p undef=.pointer (some ⟨g,0,none⟩)) (hb:aj w g t cs)
 (hu:P.underlying ty=some d) (hd:(match d with| .struct _| .array _ _=>true|_=>false)=true) (hi:(P.info? ty).map (·.size)=some cs.size) (hR:R (.returned (.tuple #[.agg cs,tmps.getD u undef])) w):bodyPost P fn R .ret ⟨tmps,[]⟩ w:=by
 refine bodyPost_ret ?_ rfl hR;rw[results_cell_tmp h,hp];show ((loadVar ty ⟨g,0,none⟩).run P w).andThen _=_;rw[JZ hb hu hd hi];rfl
end
def Flat {α:Type} (cells:α->List Value) (ok:α->Prop):Rel α:=fun _ _ cs a=>cs=cells a/\ok a
theorem Flat.kept {α:Type} (cells:α->List Value) (ok:α->Prop):(Flat cells ok).Kept:=⟨fun _ _ _ _ _ h _=>h,fun _ _ _ _ _ h _=>h⟩
structure Rg where
 id:Int
 ep:Int
 lo:Nat
 hi:Nat
 deriving DecidableEq
def Rg.cells (r:Rg):List Value:=[.int .i64 r.id,.int .i64 r.ep,.float .f64 r.lo,.float .f64 r.hi]
abbrev Rg.val (r:Rg):Value:=.agg #[.int .i64 r.id,.int .i64 r.ep,.float .f64 r.lo,.float .f64 r.hi]
def bG (n:Int):Prop:= -9223372036854775808<=n/\n<=9223372036854775807
def Rg.ok (r:Rg):Prop:=bG r.id/\bG r.ep/\r.lo<18446744073709551616/\r.hi<18446744073709551616
abbrev gX:Rel Rg:=Flat Rg.cells Rg.ok
theorem gX.kept:(gX).Kept:=Flat.kept _ _
section
variable {w:World} {B n:Nat} {A:Option Addr} {l:List Rg}
theorem Sl.rg (h:Sl gX 4 w B A n l) {k:Nat} (hk:k<n):∃ad r,A=some ad/\l[k]?=some r/\(ad.add (k*4)).block<B/\r.ok/\
 w.cell? (ad.add (k*4))=some (.int .i64 r.id)/\w.cell? ⟨(ad.add (k*4)).block,(ad.add (k*4)).off+1,none⟩=some (.int .i64 r.ep)/\
 w.cell? ⟨(ad.add (k*4)).block,(ad.add (k*4)).off+2,none⟩=some (.float .f64 r.lo)/\w.cell? ⟨(ad.add (k*4)).block,(ad.add (k*4)).off+3,none⟩=some (.float .f64 r.hi):=by
 obtain⟨ad,cs,r,e,hl,hb,_,hc,rfl,hok⟩:=h.at_ hk;have e0:∀j,ad.add (k*4+j)=(ad.add (k*4)).add j:=fun j=>(oh _ _ _).symm
 have c0:=hc 0 _ rfl;have c1:=hc 1 _ rfl;have c2:=hc 2 _ rfl;have c3:=hc 3 _ rfl;rw[e0]at c1 c2 c3;exact⟨ad,r,e,hl,by rw[iW];exact hb,hok,c0,c1,c2,c3⟩
end
end Go.Proofs.YtcalkfgibflbnaaGreat
namespace Go.Proofs.YtcalkfgibflbnaaGreat
open Go.ChangeShapes Go.WideShapes Go.ChangeAt Go.RowKit
theorem Tryz.own:ownKnob Tryz.prog.godebug=none:=ah
theorem Tryz.laidOut:laidOutB Tryz.prog=true:=ah
section
variable {H:Type} {enc:TypeId×Value->H} {P:Program}
theorem Ph (hl:laidOutB P=true) {W W':World} (hb:Below W.heap.size W W'):
 ∀(ts:List TypeId) (vs:List Value) (ds:List (DataW H)) (ps:List MemPlace),(∀t∈ts,P.readableRec t=true/\t<P.types.size)->
  DataW.TrodAll enc P W 0 (fun _=>true) true ts vs ds ps->(∀x∈ps,x.block<W.heap.size)->
  DataW.TrodAll enc P W' 0 (fun b=>decide (b<W.heap.size)) true ts vs ds ps
 |[],[],[],_,_,h,_=>h
 |t::ts,v::vs,d::ds,ps,hr,h,hlt=>by
  obtain⟨p,q,h1,h2,rfl⟩:=h;exact⟨p,q,Below.trod hl (hr t aA).1 (hr t aA).2 h1 hb (fun x hx=>hlt x (by simp[hx])),
   Ph hl hb ts vs ds q (fun t ht=>hr t (by simp[ht])) h2 (fun x hx=>hlt x (by simp[hx])),rfl⟩
 |[],_::_,_,_,_,h,_=>h.elim
 |[],[],_::_,_,_,h,_=>h.elim
 |_::_,[],_,_,_,h,_=>h.elim
 |_::_,_::_,[],_,_,h,_=>h.elim
theorem Xx (hl:laidOutB P=true) {f:Func} {s:ChangeSpec} {apart fresh handsOn:Bool} {W W':World} {args:Array Value} {ds gs:List (DataW H)} {before:List MemPlace} {tb:TypeId}
 (hvars:s.vars=[]) (hres:f.resultTypes=#[tb]) (htb:P.underlying tb=some .bool)
 (hread:∀t∈f.params.toList,P.readableRec t=true/\t<P.types.size)
 (hfn:s.fn H (ds++[])={results:=[.lit (.bool true)],args:=ds})
 (hW:DataW.Whole enc P f.params.toList s.vars apart W args.toList ds gs before) (hb:Below W.heap.size W W'):
 s.post enc P f apart fresh handsOn false W args (.bool true) W':=by
 have hW':=hW;have hlt:∀p∈before,p.block<W.heap.size:=fun p hp=>hW.lt p hp
 obtain⟨p,q,hA,hV,rfl,hfz,hnd⟩:=hW;rw[hvars]at hV;obtain⟨rfl,rfl⟩:=trodVars_none hV;have e1:(s.fn H (ds++([]:List (DataW H)))).results=[.lit (.bool true)]:=by rw[hfn]
 have e2:(s.fn H (ds++([]:List (DataW H)))).args=ds:=by rw[hfn]
 have e3:(s.fn H (ds++([]:List (DataW H)))).vars=[]:=by rw[hfn]
 refine⟨ds,[],p++[],[],p,[],hW',?_,?_,?_,World.keptBut_mono (fun x hx=>⟨hx,?_⟩) (hb.frame (· ∈p++[])),fun h=>by cases h⟩
 · rw[e1,hres];exact trodAll_mk1 (shut_bool htb true)
 · rw[e2];exact Ph hl hb _ _ _ _ hread hA (fun x hx=>hlt x (by simp[hx]))
 · rw[e3,hvars];rfl
 · simpa using hx
end
section
variable {H:Type} {enc:TypeId×Value->H} {P:Program} {w:World}
end
end Go.Proofs.YtcalkfgibflbnaaGreat
namespace Go.Proofs.YtcalkfgibflbnaaGreat
open Go.RowKit
def Reads (w:World) (B size:Nat) (A:Option Addr) (n:Nat) (xs:List Value):Prop:=
 xs.length=n*size/\(0<n->∃ad,A=some ad/\ad.block<B/\∀j u,xs[j]?=some u->w.cell? (ad.add j)=some u)
section
variable {w w':World} {B B' size n:Nat} {A:Option Addr} {xs:List Value}
theorem Reads.at_ {k:Nat} (h:Reads w B 1 A n xs) (hk:k<n):∃ad u,A=some ad/\ad.block<B/\xs[k]?=some u/\w.cell? (ad.add k)=some u:=by
 obtain⟨ad,e,hb,hc⟩:=h.2 byOmega;have hl:k<xs.length:=by have:=h.1;omega
 exact⟨ad,xs[k],e,hb,List.getElem?_eq_getElem hl,hc k _ (List.getElem?_eq_getElem hl)⟩
theorem Reads.keep (h:Reads w B size A n xs) (hk:∀p:Addr,p.block<B->w'.cell? p=w.cell? p):Reads w' B size A n xs:=
 ⟨h.1,fun hn=>by
  obtain⟨ad,e,hb,hc⟩:=h.2 hn;exact⟨ad,e,hb,fun j u hu=>(hk _ (by rw[iW];exact hb)).trans (hc j u hu)⟩⟩
theorem Reads.more (h:Reads w B size A n xs) (hB:B<=B'):Reads w B' size A n xs:=
 ⟨h.1,fun hn=>by
  obtain⟨ad,e,hb,hc⟩:=h.2 hn;exact⟨ad,e,byOmega,hc⟩⟩
theorem Reads.below (h:Reads w B size A n xs) (hb:Below B w w'):Reads w' B size A n xs:=h.keep fun _ hp=>hb.cell hp
theorem Reads.drew (h:Reads w B size A n xs):Reads w.drew B size A n xs:=h
theorem Reads.drewN (h:Reads w B size A n xs) (k:Nat):Reads (w.drewN k) B size A n xs:=h
theorem Reads.alloc (h:Reads w B size A n xs) (hB:B<=w.heap.size) (o:Obj):Reads (w.alloc o) B size A n xs:=h.keep fun p hp=>World.cell?_alloc_lt w o p byOmega
theorem Reads.cut (h:Reads w B size A n xs) {k cap:Nat} (hk:k<=n) (hc:n<=cap):
 Reads w B size (if cap=k then A else A.map (·.add (k*size))) (n-k) (xs.drop (k*size)):=by
 refine⟨by rw[List.length_drop,h.1,Nat.sub_mul],fun hn=>?_⟩;obtain⟨ad,rfl,hb,hcell⟩:=h.2 byOmega;rw[if_neg byOmega];refine⟨ad.add (k*size),rfl,by rw[iW];exact hb,fun j u hu=>?_⟩;rw[oh];exact hcell _ u (by rw[<-hu,List.getElem?_drop])
theorem Reads.kK {base:Nat} {e:TypeId} {c:Nat} (h:w.ownsRow base e size (.slice A n c) n xs):Reads w w.heap.size size A n xs:=by
 refine⟨h.1,fun hn=>?_⟩;obtain⟨g,cap,hv,_,hlt⟩:=h.form hn;have hA:A=some ⟨g,0,none⟩:=by injection hv
 subst hA;exact⟨_,rfl,hlt,h.cells (g:=g) rfl⟩
end
section
variable {P:Program} (w:World)
theorem Xy (base:Nat) (t ty e:TypeId) (i:TypeInfo) (size:Nat) (ht:P.underlying t=some (.slice e)) (hi:P.info? e=some i)
 (v:Value) (n:Nat) (xs:List Value) (hown:w.ownsRow base e size v n xs) (c:Nat):(Builtin.append_ #[t,t] ty #[v,.slice none 0 c]).run P w=.ok v w:=by
 rcases hown.2 with ⟨rfl,rfl⟩|⟨g,cap,cur,rfl,_,_,hnc,_⟩
 · simp[Builtin.append_,run_underlying ht,sizeOf,typeInfo,hi,Builtin.lenOf,Builtin.firstCells]
 · simp[Builtin.append_,run_underlying ht,sizeOf,typeInfo,hi,Builtin.lenOf,Builtin.firstCells,hnc,storeCells]
theorem Xz (base:Nat) (t ty e:TypeId) (i:TypeInfo) (z:Value) (size bytes:Nat) (ht:P.underlying t=some (.slice e)) (hi:P.info? e=some i) (hz:i.zero=some z)
 (hsize:i.size=size) (hby:i.bytes=bytes) (hzs:z.cells.size=size) (hsz:0<size)
 (v:Value) (n:Nat) (xs:List Value) (hown:w.ownsRow base e size v n xs)
 (B:Nat) (A:Option Addr) (m c:Nat) (news:List Value) (hr:Reads w B size A m news) (h1:∀u∈news,u.oneCell'=true)
 (h63:n+m<=maxLen) (hbytes:(n+m)*bytes<=140737488355328) (hbase:base<=w.heap.size):
 ∃v' w',(Builtin.append_ #[t,t] ty #[v,.slice A m c]).run P w=.ok v' w'/\w'.ownsRow base e size v' (n+m) (xs++news)/\w.grownBy w' v.ownBlock/\
  (v'.ownBlock=v.ownBlock∨v'.ownBlock=some w.heap.size):=by
 rcases A with _|ad
 · have hm:m=0:=by
    rcases Nat.eq_zero_or_pos m with h0|h0
    · exact h0
    · obtain⟨ad,h,_⟩:=hr.2 h0;cases h
   subst hm;have hn:news=[]:=List.eq_nil_of_length_eq_zero (by simpa using hr.1);subst hn;exact⟨v,w,Xy w base t ty e i size ht hi v n xs hown c,by simpa using hown,World.grownBy.refl w _,.inl rfl⟩
 · have hcells:∀j u,news[j]?=some u->w.cell? (ad.add j)=some u:=by
    intro j u hu;rcases Nat.eq_zero_or_pos m with h0|h0
    · subst h0;have hn:news=[]:=List.eq_nil_of_length_eq_zero (by simpa using hr.1);subst hn;simp at hu
    · obtain⟨ad',h,_,hc⟩:=hr.2 h0;injection h with h
      subst h;exact hc j u hu
   obtain⟨v',w',hrun,h2,h3,_,h5⟩:=run_append_own_at (P:=P) w base t ty e i z size bytes ht hi hz hsize hby hzs hsz v n xs hown ad m c news hr.1 hcells h1 h63 hbytes hbase;exact⟨v',w',hrun,h2,h3,h5⟩
theorem J3 {o:Oper} {a:Act} {K:Act->World->Prop} {Q:Exit->Act->World->Prop} (s x:Operand) (t:TypeId)
 (ho:o.op=.call {callee:=.builtin .append,args:=#[s,x],argTypes:=#[t,t]})
 (base:Nat) (e:TypeId) (i:TypeInfo) (z:Value) (size bytes:Nat) (ht:P.underlying t=some (.slice e)) (hi:P.info? e=some i) (hz:i.zero=some z)
 (hsize:i.size=size) (hby:i.bytes=bytes) (hzs:z.cells.size=size) (hsz:0<size)
 (v:Value) (n:Nat) (xs:List Value) (hs:a.eval s=v) (hown:w.ownsRow base e size v n xs)
 (B:Nat) (A:Option Addr) (m c:Nat) (news:List Value) (hx:a.eval x=.slice A m c) (hr:Reads w B size A m news) (h1:∀u∈news,u.oneCell'=true)
 (h63:n+m<=maxLen) (hbytes:(n+m)*bytes<=140737488355328) (hbase:base<=w.heap.size)
 (h:∀v' w',w'.ownsRow base e size v' (n+m) (xs++news)->w.grownBy w' v.ownBlock->(v'.ownBlock=v.ownBlock∨v'.ownBlock=some w.heap.size)->K (a.put o.dst v') w'):o.wp P a w K Q:=by
 obtain⟨v',w',hrun,h2,h3,h4⟩:=Xz (P:=P) w base t o.type e i z size bytes ht hi hz hsize hby hzs hsz v n xs hown B A m c news hr h1 h63 hbytes hbase;unfold Oper.wp execOp;simp only[ho,resolve,invoke,builtin,Sem.run_bind,Sem.run_pure,Result.andThen_ok,List.map_toArray,List.map_cons,List.map_nil,hs,hx,hrun];exact h v' w' h2 h3 h4
theorem iI {ops:Array Oper} {rest:List Oper} {o:Oper} {a:Act} {Q:Exit->Act->World->Prop} (hgd:o.guard=none) (s x:Operand) (t:TypeId)
 (ho:o.op=.call {callee:=.builtin .append,args:=#[s,x],argTypes:=#[t,t]})
 (base:Nat) (e:TypeId) (i:TypeInfo) (z:Value) (size bytes:Nat) (ht:P.underlying t=some (.slice e)) (hi:P.info? e=some i) (hz:i.zero=some z)
 (hsize:i.size=size) (hby:i.bytes=bytes) (hzs:z.cells.size=size) (hsz:0<size)
 (v:Value) (n:Nat) (xs:List Value) (hs:a.eval s=v) (hown:w.ownsRow base e size v n xs)
 (B:Nat) (A:Option Addr) (m c:Nat) (news:List Value) (hx:a.eval x=.slice A m c) (hr:Reads w B size A m news) (h1:∀u∈news,u.oneCell'=true)
 (h63:n+m<=maxLen) (hbytes:(n+m)*bytes<=140737488355328) (hbase:base<=w.heap.size)
 (h:∀v' w',w'.ownsRow base e size v' (n+m) (xs++news)->w.grownBy w' v.ownBlock->(v'.ownBlock=v.ownBlock∨v'.ownBlock=some w.heap.size)->wpList P ops Q rest (a.put o.dst v') w'):wpList P ops Q (o::rest) a w:=
 wpList_plain hgd fun _ hK=>J3 w s x t ho base e i z size bytes ht hi hz hsize hby hzs hsz v n xs hs hown B A m c news hx hr h1 h63 hbytes hbase fun v' w' h2 h3 h4=>hK _ _ (h v' w' h2 h3 h4)
theorem wG {ops:Array Oper} {o:Oper} {a:Act} {K:Act->World->Prop} {Q:Exit->Act->World->Prop} {E:Prop} (hgd:o.guard=none) (s x:Operand) (t:TypeId)
 (ho:o.op=.call {callee:=.builtin .append,args:=#[s,x],argTypes:=#[t,t]})
 (base:Nat) (e:TypeId) (i:TypeInfo) (z:Value) (size bytes:Nat) (ht:P.underlying t=some (.slice e)) (hi:P.info? e=some i) (hz:i.zero=some z)
 (hsize:i.size=size) (hby:i.bytes=bytes) (hzs:z.cells.size=size) (hsz:0<size)
 (v:Value) (n:Nat) (xs:List Value) (hs:a.eval s=v) (hown:w.ownsRow base e size v n xs)
 (B:Nat) (A:Option Addr) (m c:Nat) (news:List Value) (hx:a.eval x=.slice A m c) (hr:Reads w B size A m news) (h1:∀u∈news,u.oneCell'=true)
 (h63:n+m<=maxLen) (hbytes:(n+m)*bytes<=140737488355328) (hbase:base<=w.heap.size)
 (h:∀v' w',w'.ownsRow base e size v' (n+m) (xs++news)->w.grownBy w' v.ownBlock->(v'.ownBlock=v.ownBlock∨v'.ownBlock=some w.heap.size)->K (a.put o.dst v') w'):
 if Region.wanted o (yielded ops a.tmps)=true then Oper.wp P o a w K Q else E:=by
 have hw:Region.wanted o (yielded ops a.tmps)=true:=by simp[Region.wanted,hgd]
 rw[if_pos hw];exact J3 w s x t ho base e i z size bytes ht hi hz hsize hby hzs hsz v n xs hs hown B A m c news hx hr h1 h63 hbytes hbase h
end
theorem flat_get {α:Type} (f:α->List Value) (k:Nat) (_hk:0<k) (hf:∀a,(f a).length=k):∀(l:List α) (i r:Nat),r<k->(l.flatMap f)[i*k+r]?=(l[i]?).bind fun a=>(f a)[r]?:=by
 intro l
 induction l with
 |nil=>intro i r _;simp
 |cons a l ih=>
  intro i r hr;rw[List.flatMap_cons];cases i with
  |zero=>
   rw[Nat.zero_mul,Nat.zero_add,List.getElem?_append_left (by rw[hf];exact hr)];rfl
  |succ i=>
   have e:(i+1)*k+r=k+(i*k+r):=(by rw[Nat.succ_mul];omega);rw[e,List.getElem?_append_right (by rw[hf];omega),hf,Nat.add_sub_cancel_left,ih i r hr];rfl
theorem XA {α:Type} (f:α->List Value) (k:Nat) (hf:∀a,(f a).length=k):∀l:List α,(l.flatMap f).length=l.length*k:=by
 intro l
 induction l with
 |nil=>simp
 |cons a l ih=>rw[List.flatMap_cons,aK,hf,ih,List.length_cons,Nat.succ_mul];omega
section
variable {α:Type} {cells:α->List Value} {ok:α->Prop} {size:Nat} {w:World} {B n:Nat} {A:Option Addr} {l:List α}
theorem Sl.reads (hk:0<size) (hf:∀a,(cells a).length=size) (h:Sl (Flat cells ok) size w B A n l):Reads w B size A n (l.flatMap cells):=by
 refine⟨by rw[XA _ _ hf,h.1],fun hn=>?_⟩;obtain⟨ad,_,_,rfl,_,hb,_⟩:=h.at_ (k:=0) hn;refine⟨ad,rfl,hb,fun j u hj=>?_⟩;have e:j=j/size*size+j%size:=(Nat.div_add_mod' j size).symm;rw[e,flat_get cells size hk hf l _ _ (Nat.mod_lt _ hk)]at hj;cases hl:l[j/size]? with
 |none=>rw[hl]at hj;cases hj
 |some a=>
  rw[hl]at hj;obtain⟨ad',cs,e2,_,_,hc,rfl,_⟩:=h.2 _ a hl;obtain rfl:ad=ad':=Option.some.inj e2;rw[e];exact hc _ u hj
theorem Sl.oO (h:Sl (Flat cells ok) size w B A n l):∀a∈l,ok a:=fun a ha=>by
 obtain⟨i,hi⟩:=List.getElem?_of_mem ha;obtain⟨_,_,_,_,_,_,_,hk⟩:=h.2 i a hi;exact hk
theorem Reads.sl (hk:0<size) (hf:∀a,(cells a).length=size) (hok:∀a∈l,ok a) (hn:l.length=n) (h:Reads w B size A n (l.flatMap cells)):Sl (Flat cells ok) size w B A n l:=by
 refine⟨hn,fun i a hi=>?_⟩;have hlt:=(List.getElem?_eq_some_iff.1 hi).1;obtain⟨ad,e,hb,hc⟩:=h.2 byOmega;refine⟨ad,cells a,e,hb,hf a,fun j u hj=>hc _ u ?_,rfl,hok a (List.mem_of_getElem? hi)⟩;have hj':=(List.getElem?_eq_some_iff.1 hj).1;rw[flat_get cells size hk hf l i j (by rw[<-hf a];exact hj'),hi];exact hj
end
theorem fP {w:World} {base:Nat} {e:TypeId} {size n:Nat} {v:Value} {xs:List Value} (h:w.ownsRow base e size v n xs):∃A c,v=.slice A n c/\n<=c/\c<=maxLen:=by
 rcases h.2 with ⟨rfl,rfl⟩|⟨g,cap,cur,rfl,_,_,h1,h2,_⟩
 · exact⟨none,0,rfl,Nat.le_refl _,by unfold maxLen;omega⟩
 · exact⟨_,cap,rfl,h1,h2⟩
theorem zM {n:Nat} (h:n<=140737488351232):n<=maxLen:=by unfold maxLen;omega
structure Vl where
 k:Int
 n:Nat
 t:ByteArray
structure Sp where
 w:Int
 l:Int
 n:Int
 deriving DecidableEq
structure Tx where
 c:Int
 l:Int
 s:Int
 deriving DecidableEq
structure Wt where
 key:ByteArray
 v:Vl
structure Vn where
 s:Sp
 v:Vl
structure Hs where
 key:ByteArray
 vs:List Vn
structure Pn where
 t:Tx
 s:Sp
 r:List ByteArray
 w:List Wt
structure dP where
 r:Rg
 f:Sp
 c:Sp
 h:List Hs
 p:List Pn
def Vl.cells (v:Vl):List Value:=[.int .i64 v.k,.float .f64 v.n,.string v.t]
abbrev Vl.val (v:Vl):Value:=.agg #[.int .i64 v.k,.float .f64 v.n,.string v.t]
def Vl.ok (v:Vl):Prop:=bG v.k/\v.n<18446744073709551616/\v.t.size<=140737488351232
abbrev Sp.val (s:Sp):Value:=.agg #[.int .i64 s.w,.int .i64 s.l,.int .i64 s.n]
def Sp.ok (s:Sp):Prop:=bG s.w/\bG s.l/\bG s.n
def Tx.ok (s:Tx):Prop:=bG s.c/\bG s.l/\bG s.s
abbrev Tx.val (s:Tx):Value:=.agg #[.int .i64 s.c,.int .i64 s.l,.int .i64 s.s]
def Wt.cells (a:Wt):List Value:=[.string a.key,.int .i64 a.v.k,.float .f64 a.v.n,.string a.v.t]
abbrev Wt.val (a:Wt):Value:=.agg #[.string a.key,.int .i64 a.v.k,.float .f64 a.v.n,.string a.v.t]
def Wt.ok (a:Wt):Prop:=a.key.size<=140737488351232/\a.v.ok
def Vn.cells (a:Vn):List Value:=[.int .i64 a.s.w,.int .i64 a.s.l,.int .i64 a.s.n,.int .i64 a.v.k,.float .f64 a.v.n,.string a.v.t]
def Vn.ok (a:Vn):Prop:=a.s.ok/\a.v.ok
def gQ (k:ByteArray):List Value:=[.string k]
abbrev aO:Rel ByteArray:=Flat gQ fun k=>k.size<=140737488351232
abbrev aF:Rel Wt:=Flat Wt.cells Wt.ok
abbrev fC:Rel Vn:=Flat Vn.cells Vn.ok
def dH {α:Type} (R:Rel α) (size:Nat) (w:World) (B:Nat) (v:Value) (l:List α):Prop:=∃A n c,v=.slice A n c/\n<=c/\c<=maxLen/\Sl R size w B A n l
def aQ:Rel Hs:=fun w B cs h=>∃v,cs=[.string h.key,v]/\h.key.size<=140737488351232/\dH fC 6 w B v h.vs
def aP:Rel Pn:=fun w B cs p=>∃r q,cs=[.int .i64 p.t.c,.int .i64 p.t.l,.int .i64 p.t.s,.int .i64 p.s.w,.int .i64 p.s.l,.int .i64 p.s.n,r,q]/\p.t.ok/\p.s.ok/\dH aO 1 w B r p.r/\dH aF 4 w B q p.w
def zO (w:World) (B:Nat) (cs:List Value) (s:dP):Prop:=∃h p,cs=[.int .i64 s.r.id,.int .i64 s.r.ep,.float .f64 s.r.lo,.float .f64 s.r.hi,.int .i64 s.f.w,.int .i64 s.f.l,.int .i64 s.f.n,.int .i64 s.c.w,.int .i64 s.c.l,.int .i64 s.c.n,h,p]/\
 s.r.ok/\s.f.ok/\s.c.ok/\dH aQ 2 w B h s.h/\dH aP 8 w B p s.p
section
variable {α:Type} {R:Rel α} {size:Nat} {w w':World} {B B':Nat} {v:Value} {l:List α}
theorem dH.keep (hR:R.Kept) (h:dH R size w B v l) (hk:∀p:Addr,p.block<B->w'.cell? p=w.cell? p):dH R size w' B v l:=by
 obtain⟨A,n,c,e,h1,h2,h3⟩:=h;exact⟨A,n,c,e,h1,h2,h3.keep hR hk⟩
theorem dH.more (hR:R.Kept) (h:dH R size w B v l) (hB:B<=B'):dH R size w B' v l:=by
 obtain⟨A,n,c,e,h1,h2,h3⟩:=h;exact⟨A,n,c,e,h1,h2,h3.more hR hB⟩
theorem dH.below (hR:R.Kept) (h:dH R size w B v l) (hb:Below B w w'):dH R size w' B v l:=h.keep hR fun _ hp=>hb.cell hp
theorem dH.nil:dH R size w B (.slice none 0 0) []:=⟨none,0,0,rfl,Nat.le_refl _,by unfold maxLen;omega,Sl.nil⟩
end
theorem aO.kept:(aO).Kept:=Flat.kept _ _
theorem aF.kept:(aF).Kept:=Flat.kept _ _
theorem fC.kept:(fC).Kept:=Flat.kept _ _
theorem aQ.kept:(aQ).Kept:=
 ⟨fun _ _ _ _ _ ⟨v,e,hk,h⟩ hw=>⟨v,e,hk,h.keep fC.kept hw⟩,fun _ _ _ _ _ ⟨v,e,hk,h⟩ hB=>⟨v,e,hk,h.more fC.kept hB⟩⟩
theorem aP.kept:(aP).Kept:=
 ⟨fun _ _ _ _ _ ⟨r,q,e,h1,h2,h3,h4⟩ hw=>⟨r,q,e,h1,h2,h3.keep aO.kept hw,h4.keep aF.kept hw⟩,
  fun _ _ _ _ _ ⟨r,q,e,h1,h2,h3,h4⟩ hB=>⟨r,q,e,h1,h2,h3.more aO.kept hB,h4.more aF.kept hB⟩⟩
section
variable {w w':World} {B B':Nat} {cs:List Value} {s:dP}
end
section
variable {w:World} {B n:Nat} {A:Option Addr}
theorem Sl.ky {l:List ByteArray} (h:Sl aO 1 w B A n l) {k:Nat} (hk:k<n):∃ad a,A=some ad/\l[k]?=some a/\(ad.add k).block<B/\a.size<=140737488351232/\w.cell? (ad.add k)=some (.string a):=by
 obtain⟨ad,cs,a,e,hl,hb,_,hc,rfl,hok⟩:=h.at_ hk;have c0:=hc 0 _ rfl;rw[Nat.mul_one,Nat.add_zero]at c0;exact⟨ad,a,e,hl,by rw[iW];exact hb,hok,c0⟩
theorem Sl.wt {l:List Wt} (h:Sl aF 4 w B A n l) {k:Nat} (hk:k<n):∃ad a,A=some ad/\l[k]?=some a/\(ad.add (k*4)).block<B/\a.ok/\w.cell? (ad.add (k*4))=some (.string a.key)/\
 w.cell? ⟨(ad.add (k*4)).block,(ad.add (k*4)).off+1,none⟩=some (.int .i64 a.v.k)/\w.cell? ⟨(ad.add (k*4)).block,(ad.add (k*4)).off+2,none⟩=some (.float .f64 a.v.n)/\
 w.cell? ⟨(ad.add (k*4)).block,(ad.add (k*4)).off+3,none⟩=some (.string a.v.t):=by
 obtain⟨ad,cs,a,e,hl,hb,_,hc,rfl,hok⟩:=h.at_ hk;have e0:∀j,ad.add (k*4+j)=(ad.add (k*4)).add j:=fun j=>(oh _ _ _).symm
 have c0:=hc 0 _ rfl;have c1:=hc 1 _ rfl;have c2:=hc 2 _ rfl;have c3:=hc 3 _ rfl;rw[e0]at c1 c2 c3;exact⟨ad,a,e,hl,by rw[iW];exact hb,hok,c0,c1,c2,c3⟩
theorem Sl.vn {l:List Vn} (h:Sl fC 6 w B A n l) {k:Nat} (hk:k<n):∃ad a,A=some ad/\l[k]?=some a/\(ad.add (k*6)).block<B/\a.ok/\w.cell? (ad.add (k*6))=some (.int .i64 a.s.w)/\
 w.cell? ⟨(ad.add (k*6)).block,(ad.add (k*6)).off+1,none⟩=some (.int .i64 a.s.l)/\w.cell? ⟨(ad.add (k*6)).block,(ad.add (k*6)).off+2,none⟩=some (.int .i64 a.s.n)/\
 w.cell? ⟨(ad.add (k*6)).block,(ad.add (k*6)).off+3,none⟩=some (.int .i64 a.v.k)/\w.cell? ⟨(ad.add (k*6)).block,(ad.add (k*6)).off+4,none⟩=some (.float .f64 a.v.n)/\
 w.cell? ⟨(ad.add (k*6)).block,(ad.add (k*6)).off+5,none⟩=some (.string a.v.t):=by
 obtain⟨ad,cs,a,e,hl,hb,_,hc,rfl,hok⟩:=h.at_ hk;have e0:∀j,ad.add (k*6+j)=(ad.add (k*6)).add j:=fun j=>(oh _ _ _).symm
 have c0:=hc 0 _ rfl;have c1:=hc 1 _ rfl;have c2:=hc 2 _ rfl;have c3:=hc 3 _ rfl;have c4:=hc 4 _ rfl;have c5:=hc 5 _ rfl;rw[e0]at c1 c2 c3 c4 c5;exact⟨ad,a,e,hl,by rw[iW];exact hb,hok,c0,c1,c2,c3,c4,c5⟩
theorem Sl.hs {l:List Hs} (h:Sl aQ 2 w B A n l) {k:Nat} (hk:k<n):∃ad a A' n' c',A=some ad/\l[k]?=some a/\(ad.add (k*2)).block<B/\a.key.size<=140737488351232/\w.cell? (ad.add (k*2))=some (.string a.key)/\
 w.cell? ⟨(ad.add (k*2)).block,(ad.add (k*2)).off+1,none⟩=some (.slice A' n' c')/\n'<=c'/\c'<=maxLen/\Sl fC 6 w B A' n' a.vs:=by
 obtain⟨ad,cs,a,e,hl,hb,_,hc,⟨v,rfl,hok,A',n',c',rfl,h1,h2,h3⟩⟩:=h.at_ hk;have e0:∀j,ad.add (k*2+j)=(ad.add (k*2)).add j:=fun j=>(oh _ _ _).symm
 have c0:=hc 0 _ rfl;have c1:=hc 1 _ rfl;rw[e0]at c1;exact⟨ad,a,A',n',c',e,hl,by rw[iW];exact hb,hok,c0,c1,h1,h2,h3⟩
theorem Sl.pn {l:List Pn} (h:Sl aP 8 w B A n l) {k:Nat} (hk:k<n):∃ad a A1 n1 c1 A2 n2 c2,A=some ad/\l[k]?=some a/\(ad.add (k*8)).block<B/\a.t.ok/\a.s.ok/\w.cell? (ad.add (k*8))=some (.int .i64 a.t.c)/\
 w.cell? ⟨(ad.add (k*8)).block,(ad.add (k*8)).off+1,none⟩=some (.int .i64 a.t.l)/\w.cell? ⟨(ad.add (k*8)).block,(ad.add (k*8)).off+2,none⟩=some (.int .i64 a.t.s)/\
 w.cell? ⟨(ad.add (k*8)).block,(ad.add (k*8)).off+3,none⟩=some (.int .i64 a.s.w)/\w.cell? ⟨(ad.add (k*8)).block,(ad.add (k*8)).off+4,none⟩=some (.int .i64 a.s.l)/\
 w.cell? ⟨(ad.add (k*8)).block,(ad.add (k*8)).off+5,none⟩=some (.int .i64 a.s.n)/\w.cell? ⟨(ad.add (k*8)).block,(ad.add (k*8)).off+6,none⟩=some (.slice A1 n1 c1)/\
 w.cell? ⟨(ad.add (k*8)).block,(ad.add (k*8)).off+7,none⟩=some (.slice A2 n2 c2)/\n1<=c1/\c1<=maxLen/\Sl aO 1 w B A1 n1 a.r/\n2<=c2/\c2<=maxLen/\Sl aF 4 w B A2 n2 a.w:=by
 obtain⟨ad,cs,a,e,hl,hb,_,hc,⟨r,q,rfl,h1,h2,⟨A1,n1,c1,rfl,h3,h4,h5⟩,⟨A2,n2,c2,rfl,h6,h7,h8⟩⟩⟩:=h.at_ hk;have e0:∀j,ad.add (k*8+j)=(ad.add (k*8)).add j:=fun j=>(oh _ _ _).symm
 have d0:=hc 0 _ rfl;have d1:=hc 1 _ rfl;have d2:=hc 2 _ rfl;have d3:=hc 3 _ rfl;have d4:=hc 4 _ rfl;have d5:=hc 5 _ rfl;have d6:=hc 6 _ rfl;have d7:=hc 7 _ rfl;rw[e0]at d1 d2 d3 d4 d5 d6 d7;exact⟨ad,a,A1,n1,c1,A2,n2,c2,e,hl,by rw[iW];exact hb,h1,h2,d0,d1,d2,d3,d4,d5,d6,d7,h3,h4,h5,h6,h7,h8⟩
end
theorem Hr (a:Wt):a.cells.length=4:=rfl
theorem J4 (a:Vn):a.cells.length=6:=rfl
theorem AU (a:ByteArray):(gQ a).length=1:=rfl
theorem J5 {α:Type} {f:α->List Value} (h:∀a,∀u∈f a,u.oneCell'=true) (l:List α):∀u∈l.flatMap f,u.oneCell'=true:=by
 intro u hu;obtain⟨a,_,ha⟩:=List.mem_flatMap.1 hu;exact h a u ha
theorem Pj (a:Wt):∀u∈a.cells,u.oneCell'=true:=by
 intro u hu;simp only[Wt.cells,List.mem_cons,List.not_mem_nil,or_false]at hu;rcases hu with rfl|rfl|rfl|rfl<;>rfl
theorem Pm (a:Vn):∀u∈a.cells,u.oneCell'=true:=by
 intro u hu;simp only[Vn.cells,List.mem_cons,List.not_mem_nil,or_false]at hu;rcases hu with rfl|rfl|rfl|rfl|rfl|rfl<;>rfl
theorem EP (a:ByteArray):∀u∈gQ a,u.oneCell'=true:=by
 intro u hu;simp only[gQ,List.mem_cons,List.not_mem_nil,or_false]at hu;subst hu;rfl
end Go.Proofs.YtcalkfgibflbnaaGreat
namespace Go.Proofs.YtcalkfgibflbnaaGreat
open Go.ChangeShapes Go.WideShapes Go.RowKit
def vK {H:Type} (P:Program) (t:TypeId) (d:DataW H):Prop:=∀n∈d.weights P t,n<=reachBytes
section
variable {H:Type} {enc:TypeId×Value->H} {P:Program} {w:World}
theorem weightsAll_mem {e:TypeId}:∀{l:List (DataW H)} {d:DataW H},d∈l->∀n∈d.weights P e,n∈DataW.weightsAll P e l
 |d'::r,d,hd,n,hn=>by
  simp only[DataW.weightsAll,List.mem_append];rcases List.mem_cons.1 hd with rfl|h
  · exact Or.inl hn
  · exact Or.inr (weightsAll_mem h n hn)
theorem vK.top {ts:List TypeId} {ds:List (DataW H)} (h:(DataW.weightsEach P ts ds).all (· <=reachBytes)=true) {j:Nat} {t:TypeId} {d:DataW H} (ht:ts[j]?=some t) (hd:ds[j]?=some d):vK P t d:=
 fun n hn=>by simpa using List.all_eq_true.1 h _ (DataW.weights_mem_each ht hd n hn)
theorem vK.field {t:TypeId} {fs:Array Field} {parts:List (DataW H)} (hu:P.underlying t=some (.struct fs)) (h:vK P t (.agg parts)) {i:Nat} {f:Field} {d:DataW H} (hf:fs[i]?=some f) (hd:parts[i]?=some d):vK P f.type d:=by
 intro n hn;refine h n ?_;simp only[DataW.weights,hu];refine DataW.weights_mem_each (j:=i) (t:=f.type) ?_ hd n hn;rw[List.getElem?_map,Array.getElem?_toList,hf];rfl
theorem vK.elem {t e:TypeId} {elems spare:List (DataW H)} (hu:P.underlying t=some (.slice e)) (h:vK P t (.slice elems spare)) {d:DataW H} (hd:d∈elems):vK P e d:=by
 intro n hn;refine h n ?_;simp only[DataW.weights,hu,List.mem_cons,List.mem_append];exact .inr (.inl (weightsAll_mem hd n hn))
def Opn (enc:TypeId×Value->H) (P:Program) (w:World) (t:TypeId) (cs:List Value):Prop:=∃fuel x,DataW.trod enc P w 0 (fun _=>true) true fuel t cs=some x/\vK P t x.1
def fieldAt (P:Program) (t:TypeId) (i:Nat):Option (TypeId×Nat):=match P.underlying t with|some (.struct fs)=>(fs[i]?).map fun f=>(f.type,f.offset)|_=>none
theorem Opn.cZ {t:TypeId} {cs:List Value} (h:Opn enc P w t cs) (i:Nat) {ty off:Nat} (k:Nat) (hi:fieldAt P t i=some (ty,off)) (hk:P.cellsOf ty=k):Opn enc P w ty ((cs.drop off).take k):=by
 unfold fieldAt at hi;cases hu:P.underlying t with
 |none=>rw[hu]at hi;cases hi
 |some u=>
  rw[hu]at hi;cases u<;>try (cases hi;done)
  rename_i fs;obtain⟨fuel,x,hx,hs⟩:=h;obtain⟨xs,n,_,hx1,_,hxl,hf⟩:=DataW.trod_struct hu hx;cases hfi:fs[i]? with
  |none=>simp only[hfi]at hi;cases hi
  |some f=>
   simp only[hfi,Option.map_some,Option.some.injEq,Prod.mk.injEq]at hi;obtain⟨rfl,rfl⟩:=hi;have hlt:=(Array.getElem?_eq_some_iff.1 hfi).1;have h1:=hf i f hfi;rw[hk]at h1;have h2:xs[i]?=some xs[i]:=List.getElem?_eq_getElem byOmega;rw[h2]at h1;refine⟨n,xs[i],h1,?_⟩;rw[hx1]at hs;exact hs.field hu hfi (by rw[List.getElem?_map,h2];rfl)
theorem Opn.len {t:TypeId} {cs:List Value} {fs:Array Field} (hu:P.underlying t=some (.struct fs)) (h:Opn enc P w t cs):cs.length=P.cellsOf t:=by
 obtain⟨fuel,x,hx,_⟩:=h;obtain⟨xs,n,_,_,hl,_⟩:=DataW.trod_struct hu hx;exact hl
theorem Opn.int {t:TypeId} {v:Value} (ht:P.underlying t=some (.int .i64)) (h:Opn enc P w t [v]):∃z,v=.int .i64 z/\bG z:=by
 obtain⟨fuel,x,hx,_⟩:=h;obtain⟨z,e,_,hw⟩:=DataW.trod_int ht hx;injection e with e
 exact⟨z,e,by simpa [Lit.wf,bG,IntKind.min,IntKind.max,IntKind.signed,IntKind.bits] using hw⟩
theorem Opn.bool {t:TypeId} {v:Value} (ht:P.underlying t=some .bool) (h:Opn enc P w t [v]):∃z,v=.bool z:=by
 obtain⟨fuel,x,hx,_⟩:=h;obtain⟨z,e,_⟩:=DataW.trod_bool ht hx;injection e with e
 exact⟨z,e⟩
theorem Opn.float {t:TypeId} {v:Value} (ht:P.underlying t=some (.float .f64)) (h:Opn enc P w t [v]):∃b,v=.float .f64 b/\b<18446744073709551616:=by
 obtain⟨fuel,x,hx,_⟩:=h;cases fuel with
 |zero=>simp[DataW.trod]at hx
 |succ n=>
  unfold DataW.trod at hx;rw[ht]at hx;split at hx<;>simp_all
  rename_i heq;obtain⟨⟨_,hw⟩,_⟩:=hx;rw[<-heq]at hw;simpa [Lit.wf] using hw
theorem Opn.str {t:TypeId} {v:Value} (ht:P.underlying t=some .string) (h:Opn enc P w t [v]):∃s,v=.string s/\s.size<=140737488351232:=by
 obtain⟨fuel,x,hx,hs⟩:=h;cases fuel with
 |zero=>simp[DataW.trod]at hx
 |succ n=>
  unfold DataW.trod at hx;rw[ht]at hx;split at hx<;>simp_all
  obtain⟨_,rfl⟩:=hx;have:=hs _ (by simp only[DataW.weights,List.mem_cons,List.not_mem_nil,or_false];rfl);show _<=reachBytes;simpa using this
theorem Opn.slice {α:Type} (R:Rel α) (size:Nat) (hsz:0<size) {t e:TypeId} {v:Value} (ht:P.underlying t=some (.slice e)) (hc:P.cellsOf e=size)
 (hel:∀cs:List Value,cs.length=size->Opn enc P w e cs->∃a,R w w.heap.size cs a) (h:Opn enc P w t [v]):∃l,dH R size w w.heap.size v l:=by
 obtain⟨fuel,x,hf,hs⟩:=h;rcases Go.Deep.open_slice ht hf with ⟨hcs,_⟩|⟨a,n,c,m,k,D,Pl,hcs,_,hl,hm,hmm,hx,hi⟩
 · injection hcs with hcs
   subst hcs;exact⟨[],dH.nil⟩
 · injection hcs with hcs
   subst hcs;have hmm':m=c:=(by rw[hmm];rfl);have hall:∀i,i<n->∃(x:List Value×α),x.1.length=size/\(∀j u,x.1[j]?=some u->w.cell? (a.add (i*size+j))=some u)/\R w w.heap.size x.1 x.2:=by
    intro i hin;obtain⟨cs',hcell,ht'⟩:=hi i byOmega;rw[hc]at hcell;obtain⟨_,hlen,hat⟩:=World.cells?_some hcell;obtain⟨x,hx⟩:=hel cs' hlen ⟨k,_,ht',by
        rw[hx]at hs;exact hs.elem ht (List.mem_map.2 ⟨i,List.mem_range.2 hin,rfl⟩)⟩
    refine⟨(cs',x),hlen,fun j u hu=>?_,hx⟩;have hj:j<size:=by
        rw[<-hlen];exact(List.getElem?_eq_some_iff.1 hu).1
    rw[<-oh,hat j hj];exact hu
   by_cases hn:n=0
   · subst hn;exact⟨[],_,_,_,rfl,hl,hm,Sl.nil⟩
   · obtain⟨x0,_⟩:=hall 0 byOmega;have:Inhabited (List Value×α):=⟨x0⟩;obtain⟨f,hf⟩:=Go.Deep.choose_lt hall;refine⟨(List.range n).map fun i=>(f i).2,_,_,_,rfl,hl,hm,aA,fun i b hb=>?_⟩;have hin:i<n:=by
        have:=(List.getElem?_eq_some_iff.1 hb).1;simpa using this
     obtain⟨h1,h2,h3⟩:=hf i hin;have hb':b=(f i).2:=by
        rw[List.getElem?_map,List.getElem?_range hin]at hb;exact(Option.some.inj hb).symm
     subst hb';refine⟨a,(f i).1,rfl,?_,h1,h2,h3⟩;have h0:=h2 0 _ (List.getElem?_eq_getElem byOmega);have:=World.block_lt_of_cell? w _ h0;rw[iW]at this;exact this
theorem Opn.of {t:TypeId} {v:Value} {d:DataW H} {ps:List MemPlace} (h:DataW.Trod enc P w 0 (fun _=>true) true t v d ps) (hs:vK P t d):Opn enc P w t v.cells.toList:=by
 obtain⟨fuel,hf⟩:=h;exact⟨fuel,_,hf,hs⟩
end
section
variable {H:Type} {enc:TypeId×Value->H} {w:World}
theorem Ht {cs:List Value} (h:Opn enc Tryz.prog w 59 cs):∃v:Vl,cs=v.cells/\v.ok:=by
 have hl:=h.len Tryz.underlying59;rw[show Tryz.prog.cellsOf 59=3 from ah]at hl
 match cs,hl with
 |[c0,c1,c2],_=>
  obtain⟨x0,rfl,h0⟩:=(h.cZ 0 1 (ty:=3) (off:=0) ah ah).int Tryz.underlying3;obtain⟨x1,rfl,h1⟩:=(h.cZ 1 1 (ty:=33) (off:=1) ah ah).float Tryz.underlying33;obtain⟨x2,rfl,h2⟩:=(h.cZ 2 1 (ty:=9) (off:=2) ah ah).str Tryz.underlying9;exact⟨⟨x0,x1,x2⟩,rfl,h0,h1,h2⟩
theorem XB {cs:List Value} (h:Opn enc Tryz.prog w 61 cs):∃v:Wt,cs=v.cells/\v.ok:=by
 have hl:=h.len Tryz.underlying61;rw[show Tryz.prog.cellsOf 61=4 from ah]at hl
 match cs,hl with
 |[c0,c1,c2,c3],_=>
  obtain⟨x0,rfl,h0⟩:=(h.cZ 0 1 (ty:=9) (off:=0) ah ah).str Tryz.underlying9;obtain⟨x1,e1,h1⟩:=Ht (h.cZ 1 3 (ty:=59) (off:=1) ah ah);refine⟨⟨x0,x1⟩,?_,h0,h1⟩;change [c1,c2,c3]=_ at e1;rw[e1];rfl
theorem J6 {v:Value} (h:Opn enc Tryz.prog w 29 [v]):∃l,dH aF 4 w w.heap.size v l:=
 h.slice aF 4 byOmega Tryz.underlying29 ah fun _ _ ho=>XB ho
end
end Go.Proofs.YtcalkfgibflbnaaGreat
namespace Go.Proofs.YtcalkfgibflbnaaGreat.Fl
open Ieee
def mg (r:Nat):Nat:=if r<4503599627370496 then r else 4503599627370496+r%4503599627370496
def st (r:Nat):Nat:=r/4503599627370496-1
def U (r:Nat):Nat:=mg r*2^st r
theorem XD (r:Nat):U (r+1)=U r+2^st r:=by
 unfold U mg st;by_cases h1:r+1<4503599627370496
 · have a:r/4503599627370496-1=0:=byOmega;have b:(r+1)/4503599627370496-1=0:=byOmega;rw[if_pos h1,if_pos byOmega,a,b];omega
 · rw[if_neg h1];by_cases h2:r<4503599627370496
   · have e:r=4503599627370495:=byOmega;subst e;rfl
   · rw[if_neg h2];by_cases h3:r%4503599627370496=4503599627370495
     · have a:(r+1)%4503599627370496=0:=byOmega;have b:(r+1)/4503599627370496-1=r/4503599627370496-1+1:=byOmega;rw[a,b,h3,Nat.pow_succ];generalize 2^(r/4503599627370496-1)=p;omega
     · have a:(r+1)%4503599627370496=r%4503599627370496+1:=byOmega;have b:(r+1)/4503599627370496-1=r/4503599627370496-1:=byOmega;rw[a,b,<-Nat.add_assoc,Nat.add_mul,Nat.one_mul]
theorem Dq {r s:Nat} (h:r<s):U r<U s:=by
 induction s with
 |zero=>omega
 |succ s ih=>
  have p:0<2^st s:=Nat.two_pow_pos _;rw[XD];by_cases e:r=s
  · subst e;omega
  · have:=ih byOmega;omega
theorem XE {r s:Nat} (h:r<=s):U r<=U s:=by
 rcases Nat.lt_or_ge r s with a|a
 · exact Nat.le_of_lt (Dq a)
 · rw[Nat.le_antisymm h a];exact Nat.le_refl _
theorem XF {r s:Nat}:U r<U s↔r<s:=⟨fun h=>by
 rcases Nat.lt_or_ge r s with a|a
 · exact a
 · have:=XE a;omega,Dq⟩
theorem XG {r s:Nat} (h:U r=U s):r=s:=by
 rcases Nat.lt_trichotomy r s with a|a|a
 · have:=Dq a;omega
 · exact a
 · have:=Dq a;omega
def sg (s:Bool) (n:Nat):Int:=if s then -(n:Int) else n
def K (x:Nat):Option Int:=
 if x%9223372036854775808<=9218868437227405312 then some (sg (x/9223372036854775808%2==1) (U (x%9223372036854775808))) else none
theorem J7 (x:Nat):double.read x=
 if x%9223372036854775808<9218868437227405312 then
  .number (x/9223372036854775808%2==1) (mg (x%9223372036854775808)) (-1074+(st (x%9223372036854775808):Int))
 else if x%9223372036854775808=9218868437227405312 then .infinity (x/9223372036854775808%2==1)
 else .nan (x/9223372036854775808%2==1) (x%9223372036854775808-9218868437227405312):=by
 have hs:double.signWeight=9223372036854775808:=by decide
 have hb:double.binade=4503599627370496:=by decide
 have hi:double.infRung=9218868437227405312:=by decide
 have hl:double.leastPlace= -1074:=by decide
 unfold Format.read;simp only[hs,hb,hi,hl];generalize x%9223372036854775808=r;generalize (x/9223372036854775808%2==1)=s;by_cases h1:r<4503599627370496
 · have a:st r=0:=(by unfold st;omega);rw[if_pos h1,if_pos byOmega,a];unfold mg;rw[if_pos h1];rfl
 · rw[if_neg h1];by_cases h2:r<9218868437227405312
   · rw[if_pos h2,if_pos h2];unfold mg st;rw[if_neg h1]
   · rw[if_neg h2,if_neg h2]
theorem XH (s:Bool) (m k:Nat):signed s m k=sg s (m*2^k):=by
 unfold signed sg;rw[Nat.shiftLeft_eq]
theorem Hu (s:Bool) (n k:Nat):sg s (n*k)=sg s n*(k:Int):=by
 unfold sg;split<;>simp[Int.neg_mul]
theorem Po (a b:Int) (k:Nat) (hk:0<k):compare (a*(k:Int)) (b*(k:Int))=compare a b:=by
 have hk':(0:Int)<k:=byOmega;rcases Int.lt_trichotomy a b with h|h|h
 · rw[Int.compare_eq_lt.2 h,Int.compare_eq_lt.2 (Int.mul_lt_mul_of_pos_right h hk')]
 · subst h;simp
 · rw[Int.compare_eq_gt.2 h,Int.compare_eq_gt.2 (Int.mul_lt_mul_of_pos_right h hk')]
theorem XI (s t:Bool) (m n i j:Nat):Datum.order (.number s m (-1074+(i:Int))) (.number t n (-1074+(j:Int)))=some (compare (sg s (m*2^i)) (sg t (n*2^j))):=by
 simp only[Datum.order,XH]
 congr 1
 rcases Nat.le_total i j with h|h
 · have e:min (-1074+(i:Int)) (-1074+(j:Int))= -1074+(i:Int):=byOmega;rw[e];have a:(-1074+(i:Int)-(-1074+(i:Int))).toNat=0:=byOmega;have b:(-1074+(j:Int)-(-1074+(i:Int))).toNat=j-i:=byOmega;rw[a,b,<-Po _ _ (2^i) (Nat.two_pow_pos _),<-Hu,<-Hu,Nat.mul_assoc,Nat.mul_assoc,<-Nat.pow_add,<-Nat.pow_add];rw[Nat.zero_add,Nat.sub_add_cancel h]
 · have e:min (-1074+(i:Int)) (-1074+(j:Int))= -1074+(j:Int):=byOmega;rw[e];have a:(-1074+(i:Int)-(-1074+(j:Int))).toNat=i-j:=byOmega;have b:(-1074+(j:Int)-(-1074+(j:Int))).toNat=0:=byOmega;rw[a,b,<-Po _ _ (2^j) (Nat.two_pow_pos _),<-Hu,<-Hu,Nat.mul_assoc,Nat.mul_assoc,<-Nat.pow_add,<-Nat.pow_add];rw[Nat.zero_add,Nat.sub_add_cancel h]
theorem Pq {r:Nat} (h:r<9218868437227405312):U r<U 9218868437227405312:=Dq h
theorem XJ:0<U 9218868437227405312:=Dq (r:=0) byOmega
theorem Hw (x y:Nat):FloatKind.f64.format.order x y=(match K x,K y with|some a,some b=>some (compare a b)|_,_=>none):=by
 show Datum.order (double.read x) (double.read y)=_;rw[J7,J7];unfold K;generalize x%9223372036854775808=r;generalize (x/9223372036854775808%2==1)=s;generalize y%9223372036854775808=q;generalize (y/9223372036854775808%2==1)=t;have hp:=XJ;rcases Nat.lt_trichotomy r 9218868437227405312 with h1|h1|h1
 · have f1:=Pq h1;have g1:r<=9218868437227405312:=Nat.le_of_lt h1;rw[if_pos h1,if_pos g1];rcases Nat.lt_trichotomy q 9218868437227405312 with h2|h2|h2
   · have g2:q<=9218868437227405312:=Nat.le_of_lt h2;rw[if_pos h2,if_pos g2,XI];rfl
   · subst h2;have g2:¬9218868437227405312<9218868437227405312:=byOmega;have g3:9218868437227405312<=9218868437227405312:=byOmega;rw[if_neg g2,if_pos g3,if_pos rfl];simp only[Datum.order]
     congr 1
     cases t
     · exact(Int.compare_eq_lt.2 (by unfold sg;cases s<;>simp<;>omega)).symm
     · exact(Int.compare_eq_gt.2 (by unfold sg;cases s<;>simp<;>omega)).symm
   · have g2:¬q<9218868437227405312:=byOmega;have g3:¬q=9218868437227405312:=byOmega;have g4:¬q<=9218868437227405312:=byOmega;rw[if_neg g2,if_neg g3,if_neg g4];rfl
 · subst h1;have g1:¬9218868437227405312<9218868437227405312:=byOmega;have g0:9218868437227405312<=9218868437227405312:=byOmega;rw[if_neg g1,if_pos g0,if_pos rfl];rcases Nat.lt_trichotomy q 9218868437227405312 with h2|h2|h2
   · have f2:=Pq h2;have g2:q<=9218868437227405312:=Nat.le_of_lt h2;rw[if_pos h2,if_pos g2];simp only[Datum.order]
     congr 1
     cases s
     · exact(Int.compare_eq_gt.2 (by unfold sg;cases t<;>simp<;>omega)).symm
     · exact(Int.compare_eq_lt.2 (by unfold sg;cases t<;>simp<;>omega)).symm
   · subst h2;rw[if_neg g1,if_pos g0,if_pos rfl];simp only[Datum.order]
     congr 1
     cases s<;>cases t
     · simp[sg]
     · exact(Int.compare_eq_gt.2 (by unfold sg;simp;omega)).symm
     · exact(Int.compare_eq_lt.2 (by unfold sg;simp;omega)).symm
     · simp[sg]
   · have g2:¬q<9218868437227405312:=byOmega;have g3:¬q=9218868437227405312:=byOmega;have g4:¬q<=9218868437227405312:=byOmega;rw[if_neg g2,if_neg g3,if_neg g4];rfl
 · have g2:¬r<9218868437227405312:=byOmega;have g3:¬r=9218868437227405312:=byOmega;have g4:¬r<=9218868437227405312:=byOmega;rw[if_neg g2,if_neg g3,if_neg g4];rfl
def one:Nat:=4607182418800017408
theorem Hy {x:Nat} (h:x<=9218868437227405312):K x=some (U x:Int):=by
 unfold K;have a:x%9223372036854775808=x:=Nat.mod_eq_of_lt byOmega;have b:x/9223372036854775808=0:=byOmega;rw[a,b,if_pos h];rfl
theorem XK (a b:Int):(compare a b==Ordering.lt)=decide (a<b):=by
 rcases Int.lt_trichotomy a b with h|h|h
 · simp[Int.compare_eq_lt.2 h,h]
 · subst h;simp
 · rw[Int.compare_eq_gt.2 h,decide_eq_false byOmega];rfl
theorem XL (a b:Int):(compare a b==Ordering.gt)=decide (b<a):=by
 rcases Int.lt_trichotomy a b with h|h|h
 · rw[Int.compare_eq_lt.2 h,decide_eq_false byOmega];rfl
 · subst h;simp
 · simp[Int.compare_eq_gt.2 h,h]
theorem cmp_eq (a b:Int):(compare a b==Ordering.eq)=decide (a=b):=by
 rcases Int.lt_trichotomy a b with h|h|h
 · rw[Int.compare_eq_lt.2 h,decide_eq_false byOmega];rfl
 · subst h;simp
 · rw[Int.compare_eq_gt.2 h,decide_eq_false byOmega];rfl
def wH (a:Nat):Bool:=FloatKind.f64.format.order a a !=some Ordering.eq
def bU (a:Nat):Nat:=if wH a then 9221120237041090560 else a
def lF (x:Nat):Bool:=decide (x<=4607182418800017408)
def eI (c:Int):Int:=bits BinOp.and IntKind.u64 (c/4503599627370496) 2047
def fI (c:Int):Int:=bits BinOp.and IntKind.u64 c 4503599627370495
def sI (c:Int):Int:=bits BinOp.and IntKind.u64 c 9223372036854775808
theorem Pv (c:Nat) (h:c<18446744073709551616):eI c=((c/4503599627370496%2048:Nat):Int):=by
 unfold eI;rw[show ((c:Int)/4503599627370496)=((c/4503599627370496:Nat):Int) from byOmega,show (2047:Int)=((2047:Nat):Int) from rfl,u64_and_nat _ _ byOmega byOmega];rw[show (2047:Nat)=2^11-1 from rfl,Nat.and_two_pow_sub_one_eq_mod]
theorem Px (c:Nat) (h:c<18446744073709551616):fI c=((c%4503599627370496:Nat):Int):=by
 unfold fI;rw[show (4503599627370495:Int)=((4503599627370495:Nat):Int) from rfl,u64_and_nat _ _ h byOmega];rw[show (4503599627370495:Nat)=2^52-1 from rfl,Nat.and_two_pow_sub_one_eq_mod]
theorem XO (c:Nat) (h:c<18446744073709551616):sI c=((c/9223372036854775808%2*9223372036854775808:Nat):Int):=by
 unfold sI;rw[show (9223372036854775808:Int)=((9223372036854775808:Nat):Int) from rfl,u64_and_nat _ _ h byOmega];rw[show (9223372036854775808:Nat)=2^63 from rfl,nat_bit]
def kI (c:Int):Int:=if eI c=2047 then 8 else if 0<eI c then 7 else if 0<fI c then 6 else 5
def pR (c:Int):Int:=if eI c=2047/\fI c≠0 then 0 else if sI c≠0 then 9-kI c else kI c
theorem XP (a:Nat):wH a=(K a).isNone:=by
 unfold wH;rw[Hw];cases K a<;>simp
theorem Py {a:Nat}:wH a=decide (9218868437227405312<a%9223372036854775808):=by
 rw[XP];unfold K;by_cases h:a%9223372036854775808<=9218868437227405312
 · rw[if_pos h,decide_eq_false byOmega];rfl
 · rw[if_neg h,decide_eq_true byOmega];rfl
theorem Pz {a:Nat} (h:a<18446744073709551616):bU a<18446744073709551616:=by
 unfold bU;split<;>omega
theorem PD (a:Nat) (h:a<18446744073709551616):pR (bU a:Nat)=
 if 9218868437227405312<a%9223372036854775808 then 0
 else if a<9223372036854775808 then (if a=9218868437227405312 then 8 else if 4503599627370496<=a then 7 else if 0<a then 6 else 5)
 else (if a=18442240474082181120 then 1 else if 9227875636482146304<=a then 2 else if 9223372036854775808<a then 3 else 4):=by
 unfold bU;rw[Py];by_cases h1:9218868437227405312<a%9223372036854775808
 · rw[if_pos (decide_eq_true h1),if_pos h1];unfold pR;rw[Pv _ byOmega,Px _ byOmega];rfl
 · rw[if_neg (by simpa using h1),if_neg h1];unfold pR kI;rw[Pv _ h,Px _ h,XO _ h];generalize he:a/4503599627370496%2048=e;generalize hf:a%4503599627370496=f;generalize hs:a/9223372036854775808%2*9223372036854775808=g
   repeat' split
   all_goals omega
def jS (a b:Nat):Bool:=FloatKind.f64.format.order a b==some Ordering.lt
def ku (a b:Nat):Bool:=FloatKind.f64.format.order a b==some Ordering.gt
def yH (a b:Nat):Bool:=FloatKind.f64.format.order a b==some Ordering.eq
theorem J8 (a b:Nat):jS a b=(match K a,K b with|some x,some y=>decide (x<y)|_,_=>false):=by
 unfold jS;rw[Hw];cases K a<;>cases K b<;>simp[<-XK]
theorem PE (a b:Nat):ku a b=(match K a,K b with|some x,some y=>decide (y<x)|_,_=>false):=by
 unfold ku;rw[Hw];cases K a<;>cases K b<;>simp[<-XL]
theorem PG (a b:Nat):yH a b=(match K a,K b with|some x,some y=>decide (x=y)|_,_=>false):=by
 unfold yH;rw[Hw];cases K a<;>cases K b<;>simp[<-cmp_eq]
theorem XQ (a b:Nat):ku a b=jS b a:=by
 rw[PE,J8];cases K a<;>cases K b<;>rfl
theorem J9 {a b:Nat} (ha:a<=9218868437227405312) (hb:b<=9218868437227405312):jS a b=decide (a<b):=by
 rw[J8,Hy ha,Hy hb];simp only[Int.ofNat_lt,XF]
theorem XR {a b:Nat} (ha:a<=9218868437227405312) (hb:b<=9218868437227405312):yH a b=decide (a=b):=by
 rw[PG,Hy ha,Hy hb];by_cases h:a=b
 · subst h;simp
 · simp only[Int.ofNat_inj];rw[decide_eq_false h,decide_eq_false (fun e=>h (XG e))]
theorem PI {a:Nat} (h:a<9223372036854775808):(jS a 4607182418800017408||yH a 4607182418800017408)=lF a:=by
 by_cases h1:a<=9218868437227405312
 · rw[J9 h1 byOmega,XR h1 byOmega];unfold lF;by_cases h2:a<4607182418800017408
   · rw[decide_eq_true h2,decide_eq_true (show a<=4607182418800017408 by omega)];rfl
   · rw[decide_eq_false h2];by_cases h3:a=4607182418800017408
     · subst h3;rfl
     · rw[decide_eq_false h3,decide_eq_false (show ¬a<=4607182418800017408 by omega)];rfl
 · have hk:K a=none:=(by unfold K;rw[if_neg byOmega]);rw[J8,PG,hk];unfold lF;rw[decide_eq_false byOmega];rfl
theorem XU (a:Nat) (h:a<18446744073709551616):(decide (5<=pR (bU a:Nat))&&(jS a 4607182418800017408||yH a 4607182418800017408))=lF a:=by
 rw[PD a h];by_cases h0:a<9223372036854775808
 · rw[PI h0];have e:a%9223372036854775808=a:=Nat.mod_eq_of_lt h0;rw[e,if_pos h0];unfold lF;by_cases h1:9218868437227405312<a
   · rw[if_pos h1,decide_eq_false (show ¬a<=4607182418800017408 by omega)];rfl
   · rw[if_neg h1];have:decide ((5:Int)<=if a=9218868437227405312 then 8 else if 4503599627370496<=a then 7 else if 0<a then 6 else 5)=true:=by
      apply decide_eq_true;split;omega;split;omega;split<;>omega
     rw[this];rfl
 · rw[if_neg h0];have:∀p:Prop,[Decidable p]->decide ((5:Int)<=if p then 0 else if a=18442240474082181120 then 1 else if 9227875636482146304<=a then 2 else if 9223372036854775808<a then 3 else 4)=false:=by
    intro p _;apply decide_eq_false;split;omega;split;omega;split;omega;split<;>omega
   rw[this];unfold lF;rw[decide_eq_false (show ¬a<=4607182418800017408 by omega)];rfl
theorem PK (a:Nat) (h:a<18446744073709551616):(((a:Int)==0)||(ku a 0&&(jS a 4607182418800017408||yH a 4607182418800017408)))=lF a:=by
 by_cases h0:a<9223372036854775808
 · rw[PI h0];by_cases hz:a=0
   · subst hz;rfl
   · have e:((a:Int)==0)=false:=(by simpa using hz);rw[e,Bool.false_or];by_cases h1:a<=9218868437227405312
     · have g:ku a 0=true:=(by rw[XQ,J9 byOmega h1];exact decide_eq_true byOmega);rw[g];rfl
     · unfold lF;rw[decide_eq_false (show ¬a<=4607182418800017408 by omega),Bool.and_false]
 · have e:((a:Int)==0)=false:=by have:a≠0:=byOmega
                                 simpa using this
   have g:ku a 0=false:=by
    rw[PE,show K 0=some 0 from rfl];by_cases h2:a%9223372036854775808<=9218868437227405312
    · have t:(a/9223372036854775808%2==1)=true:=ay;have k:K a=some (sg true (U (a%9223372036854775808))):=(by unfold K;rw[if_pos h2,t]);rw[k];exact decide_eq_false (by unfold sg;simp)
    · have k:K a=none:=(by unfold K;rw[if_neg h2]);rw[k]
   rw[e,g];unfold lF;rw[decide_eq_false (show ¬a<=4607182418800017408 by omega)];rfl
theorem XV (a:Nat) (h:a<18446744073709551616):((pR (bU a:Nat))==4)=decide (a=9223372036854775808):=by
 rw[PD a h];by_cases h0:a=9223372036854775808
 · subst h0;rfl
 · rw[decide_eq_false h0];simp only[beq_eq_false_iff_ne];split;omega;split
   · split;omega;split;omega;split<;>omega
   · split;omega;split;omega;split<;>omega
end Go.Proofs.YtcalkfgibflbnaaGreat.Fl
namespace Go.Proofs.YtcalkfgibflbnaaGreat
set_option maxHeartbeats 400000
open Go.RowKit Fl
@[go_sem] theorem ajd (a:Nat) (w:World):(callFunc 58 #[.float .f64 a]).run Tryz.prog w=.ok (.value (.int .u64 a)) w:=by
  rw[run_callFunc_extern Tryz.func58 ah ah ah (e:=Extern.MathFloatBits.float64bits) ah];rfl
@[go_sem] theorem aje (a:Int) (w:World):(callFunc 208 #[.int .u64 a]).run Tryz.prog w=.ok (.value (.float .f64 a.toNat)) w:=by
  rw[run_callFunc_extern Tryz.func208 ah ah ah (e:=Extern.MathFloatBits.float64frombits) ah];rfl
theorem nH {k:IntKind} {a b:Int} (h:a=b):Ending.returned (.int k a)=.returned (.int k b):=by rw[h]
theorem aZ {a b:Bool} (h:a=b):Ending.returned (.bool a)=.returned (.bool b):=by rw[h]
theorem AV (a b:Nat) (w:World):
 Calls Tryz.prog 124 #[.float .f64 a,.float .f64 b] w fun e w'=>e=.returned (.bool ((a:Int)==b))/\w=w':=by
 go_enter Tryz.func124,Tryz.ntmps124;go_wp2;go_ret;exact⟨rfl,rfl⟩
theorem canon (a:Nat) (w:World):
 Calls Tryz.prog 222 #[.float .f64 a] w fun e w'=>e=.returned (.float .f64 (bU a))/\w=w':=by
 by_cases h:wH a=true
 · have e:bU a=9221120237041090560:=(by simp[bU,h]);have h':(FloatKind.f64.format.order a a !=some Ordering.eq)=true:=h;rw[e];clear e h;go_enter Tryz.func222,Tryz.ntmps222;go_wp2;go_ret;exact⟨rfl,rfl⟩
 · have e:bU a=a:=(by simp[bU,h]);have h':(FloatKind.f64.format.order a a !=some Ordering.eq)=false:=(by simpa [wH] using h);rw[e];clear e h;go_enter Tryz.func222,Tryz.ntmps222;go_wp2;go_ret;exact⟨rfl,rfl⟩
theorem nbits (a:Nat) (w:World):
 Calls Tryz.prog 196 #[.float .f64 a] w fun e w'=>e=.returned (.int .u64 (bU a))/\w=w':=by
 go_enter Tryz.func196,Tryz.ntmps196;go_wp2_with ((with_reducible refine(canon _ _).mono ?_);rintro e w' ⟨rfl,rfl⟩);go_ret;exact⟨rfl,rfl⟩
section
open Fl
theorem c0 {c:Int} (h1:eI c=2047) (h2:(fI c !=0)=true):pR c=0:=by
 unfold pR;rw[if_pos ⟨h1,by simpa using h2⟩]
theorem c8 {c:Int} (h1:eI c=2047) (h2:(fI c !=0)=false):pR c=if sI c≠0 then 1 else 8:=by
 unfold pR kI;rw[if_neg (by rintro⟨_,h⟩;simp[h]at h2),if_pos h1];rfl
theorem c7 {c:Int} (h1:¬eI c=2047) (h2:0<eI c):pR c=if sI c≠0 then 2 else 7:=by
 unfold pR kI;rw[if_neg (by rintro⟨h,_⟩;exact h1 h),if_neg h1,if_pos h2];rfl
theorem c6 {c:Int} (h1:¬eI c=2047) (h2:eI c<=0) (h3:0<fI c):pR c=if sI c≠0 then 3 else 6:=by
 unfold pR kI;rw[if_neg (by rintro⟨h,_⟩;exact h1 h),if_neg h1,if_neg (show ¬0<eI c by omega),if_pos h3];rfl
theorem c5 {c:Int} (h1:¬eI c=2047) (h2:eI c<=0) (h3:fI c<=0):pR c=if sI c≠0 then 4 else 5:=by
 unfold pR kI;rw[if_neg (by rintro⟨h,_⟩;exact h1 h),if_neg h1,if_neg (show ¬0<eI c by omega),if_neg (show ¬0<fI c by omega)];rfl
theorem sy {c p q:Int} (h:(sI c !=0)=true):(if sI c≠0 then p else q)=p:=by rw[if_pos (by simpa using h)]
theorem sn {c p q:Int} (h:(sI c !=0)=false):(if sI c≠0 then p else q)=q:=by rw[if_neg (by simpa using h)]
end
theorem Hz (a:Nat) (w:World):
 Calls Tryz.prog 202 #[.float .f64 a] w fun e w'=>e=.returned (.int .i64 (pR (bU a)))/\w=w':=by
 generalize hc:bU a=c;have H:=Lib.hid hc;clear hc;go_enter Tryz.func202,Tryz.ntmps202;go_wp2_with ((with_reducible refine(nbits _ _).mono ?_);rw[H.out];rintro e w' ⟨rfl,rfl⟩);all_goals go_ret
 all_goals refine⟨nH ?_,rfl⟩
 · exact(c0 ‹_› ‹_›).symm
 · exact((c8 ‹_› ‹_›).trans (sy ‹_›)).symm
 · exact((c8 ‹_› ‹_›).trans (sn ‹_›)).symm
 · exact((c7 ‹_› ‹_›).trans (sy ‹_›)).symm
 · exact((c7 ‹_› ‹_›).trans (sn ‹_›)).symm
 · exact((c6 ‹_› ‹_› ‹_›).trans (sy ‹_›)).symm
 · exact((c6 ‹_› ‹_› ‹_›).trans (sn ‹_›)).symm
 · exact((c5 ‹_› ‹_› ‹_›).trans (sy ‹_›)).symm
 · exact((c5 ‹_› ‹_› ‹_›).trans (sn ‹_›)).symm
theorem Ko (a:Nat) (w:World) (ha:a<18446744073709551616):
 Calls Tryz.prog 160 #[.float .f64 a] w fun e w'=>e=.returned (.bool (lF a))/\w=w':=by
 have hp:=XU a ha;generalize hk:pR (bU a)=k at hp;have H:=Lib.hid hk;clear hk;have H2:=Lib.hid hp;clear hp;by_cases h5:5<=k
 · go_enter Tryz.func160,Tryz.ntmps160;go_wp2_with ((with_reducible refine(Hz _ _).mono ?_);rw[H.out];rintro e w' ⟨rfl,rfl⟩);go_ret;refine⟨aZ ?_,rfl⟩;rw[<-H2.out,decide_eq_true h5];rfl
 · have h5':k<5:=byOmega;go_enter Tryz.func160,Tryz.ntmps160;go_wp2_with ((with_reducible refine(Hz _ _).mono ?_);rw[H.out];rintro e w' ⟨rfl,rfl⟩);go_ret;refine⟨aZ ?_,rfl⟩;rw[<-H2.out,decide_eq_false (show ¬5<=k by omega)];rfl
theorem PL (a:Nat) (w:World) (ha:a<18446744073709551616):
 Calls Tryz.prog 171 #[.float .f64 a] w fun e w'=>e=.returned (.bool (lF a))/\w=w':=by
 have H2:=Lib.hid (PK a ha);by_cases h1:a=0
 · subst h1;go_enter Tryz.func171,Tryz.ntmps171;go_wp2_with ((with_reducible refine(AV _ _ _).mono ?_);rintro e w' ⟨rfl,rfl⟩);go_ret;exact⟨rfl,rfl⟩
 · have hz:Hid (((a:Int)==0)=false):=by have:¬(a:Int)=0:=byOmega
                                        exact beq_eq_false_iff_ne.2 this
   rcases Bool.eq_false_or_eq_true (FloatKind.f64.format.order a 0==some Ordering.gt) with h2|h2
   all_goals
    go_enter Tryz.func171,Tryz.ntmps171;go_wp2_with ((with_reducible refine(AV _ _ _).mono ?_);rintro e w' ⟨rfl,rfl⟩);go_ret;refine⟨aZ ?_,rfl⟩;rw[<-H2.out];rw[hz.out];unfold ku;rw[h2];rfl
end Go.Proofs.YtcalkfgibflbnaaGreat
namespace Go.Proofs.YtcalkfgibflbnaaGreat.Fl
open Ieee
def okD:Datum->Bool| .nan .. =>false|_=>true
def Dt (x:Nat):Prop:=x%9223372036854775808<=9218868437227405312
theorem XW {x:Nat} (h:Dt x):okD (double.read x)=true:=by
 rw[J7];unfold Dt at h;split
 · rfl
 · split
   · rfl
   · omega
theorem PN (s:Bool) (r:Nat) (h:r<=9218868437227405312):Dt (double.word s r):=by
 have hs:double.signWeight=9223372036854775808:=by decide
 unfold Dt Format.word;rw[hs];split<;>omega
theorem XY (s:Bool) (m:Nat) (p:Int):Dt (double.nearest s m p):=by
 have hi:double.infRung=9218868437227405312:=by decide
 unfold Format.nearest;dsimp only;rw[hi];split
 · exact PN _ _ byOmega
 · exact PN _ _ (Nat.min_le_right ..)
def mV (a:Nat):Nat:=if lF a then a else 0
def uH (a:Nat):Int:=if lF a||decide (a=9223372036854775808) then 0 else 1
end Go.Proofs.YtcalkfgibflbnaaGreat.Fl
namespace Go.Proofs.YtcalkfgibflbnaaGreat
set_option maxHeartbeats 400000
open Go.RowKit Fl
theorem take_snoc (s:ByteArray) (k:Nat) (h:k<s.size):s.data.toList.take (k+1)=s.data.toList.take k++[s[k]]:=by
 rw[List.take_succ_eq_append_getElem (by simpa using h)];rfl
def hstep (h:Int) (c:UInt8):Int:=IntKind.u64.wrap (bits BinOp.xor IntKind.u64 h (IntKind.u64.wrap (c.toNat:Int))*1099511628211)
def hfold (l:List UInt8):Int:=l.foldl hstep 14695981039346656037
def mix (h k:Int):Int:=IntKind.u64.wrap (bits BinOp.xor IntKind.u64 h (h/8589934592)*k)
def hfin (h:Int):Int:=bits BinOp.xor IntKind.u64 (mix (mix h 18397679294719823053) 14181476777654086739) (mix (mix h 18397679294719823053) 14181476777654086739/8589934592)
def yI (s:ByteArray):Int:=hfin (hfold s.data.toList)
theorem PO (l:List UInt8) (c:UInt8):hfold (l++[c])=hstep (hfold l) c:=by unfold hfold;rw[List.foldl_append];rfl
theorem PS (s:ByteArray) (k:Nat) (h:k<s.size):hfold (s.data.toList.take (k+1))=hstep (hfold (s.data.toList.take k)) s[k]:=by rw[take_snoc s k h,PO]
theorem PU (s:ByteArray) (k:Nat) (h:¬k<s.size):hfold (s.data.toList.take k)=hfold s.data.toList:=by rw[List.take_of_length_le ay]
theorem Kq (n:Int):0<=IntKind.u64.wrap n/\IntKind.u64.wrap n<18446744073709551616:=by rw[IntKind.wrap_u64];omega
theorem XZ (h:Int) (c:UInt8):0<=hstep h c/\hstep h c<18446744073709551616:=Kq _
theorem PV (h c:Int):0<=mix h c/\mix h c<18446744073709551616:=Kq _
theorem PW (l:List UInt8):0<=hfold l/\hfold l<18446744073709551616:=by
 rcases List.eq_nil_or_concat l with rfl|⟨l',c,rfl⟩
 · decide
 · rw[List.concat_eq_append,PO];exact XZ _ _
theorem X6 (op:BinOp) (a b:Int):0<=bits op IntKind.u64 a b/\bits op IntKind.u64 a b<18446744073709551616:=Kq _
theorem Kr (s:ByteArray):0<=yI s/\yI s<18446744073709551616:=by
 unfold yI hfin;generalize mix (mix (hfold s.data.toList) 18397679294719823053) 14181476777654086739=a;exact X6 _ _ _
theorem hash (s:ByteArray) (w:World) (hs:s.size<=maxLen):
 Calls Tryz.prog 167 #[.string s] w fun e w'=>e=.returned (.int .u64 (yI s))/\w=w':=by
 unfold maxLen at hs;have i0:∀w,(Instr.index 269 (.agg #[.int .u64 18397679294719823053,.int .u64 14181476777654086739]) (.int .i64 0)).run Tryz.prog w=.ok (.int .u64 18397679294719823053) w:=fun _=>by kernel_rfl
 have i1:∀w,(Instr.index 269 (.agg #[.int .u64 18397679294719823053,.int .u64 14181476777654086739]) (.int .i64 1)).run Tryz.prog w=.ok (.int .u64 14181476777654086739) w:=fun _=>by kernel_rfl
 have hb:=Kr s;go_enter Tryz.func167,Tryz.ntmps167;go_wp2
 go_loop [3,9] (fun h i=>∃k:Nat,k<=s.size/\i=.int .i64 k/\h=.int .u64 (hfold (s.data.toList.take k))) (fun _ i=>s.size-(intOf i).toNat)
 case atStart=>exact⟨0,Nat.zero_le _,rfl,rfl⟩
 case round=>
  obtain⟨k,hk,rfl,rfl⟩:=hrel;by_cases hlt:k<s.size
  · have HT:=Lib.hid (PS s k hlt);go_wp2
    go_round
    case rel=>exact⟨k+1,byOmega,by go_num,by rw[HT.out];rfl⟩
    case measure=>simp[intOf];omega
  · have HA:=Lib.hid (PU s k hlt);have hb2:=PW (s.data.toList.take k);generalize hn:hfold (s.data.toList.take k)=n at HA hb2;clear hn;have m1:=PV n 18397679294719823053;have m2:=PV (mix n 18397679294719823053) 14181476777654086739;go_wp2
    go_loop [3,22] (fun h i=>(i=.int .i64 0/\h=.int .u64 n)∨(i=.int .i64 1/\h=.int .u64 (mix n 18397679294719823053))∨(i=.int .i64 2/\h=.int .u64 (mix (mix n 18397679294719823053) 14181476777654086739))) (fun _ i=>2-(intOf i).toNat)
    case atStart=>exact .inl ⟨rfl,rfl⟩
    case round=>
        rcases hrel with ⟨rfl,rfl⟩|⟨rfl,rfl⟩|⟨rfl,rfl⟩
        · go_wp2
          go_round
          case rel=>exact .inr (.inl ⟨rfl,rfl⟩)
          case measure=>simp[intOf]
        · go_wp2
          go_round
          case rel=>exact .inr (.inr ⟨rfl,rfl⟩)
          case measure=>simp[intOf]
        · go_wp2;go_ret;refine⟨nH ?_,rfl⟩;show bits BinOp.xor IntKind.u64 (mix (mix n 18397679294719823053) 14181476777654086739) (mix (mix n 18397679294719823053) 14181476777654086739/8589934592)=hfin (hfold s.data.toList);rw[<-HA.out];rfl
theorem X7 (s:ByteArray) (w:World) (hs:s.size<=maxLen):
 Calls Tryz.prog 216 #[.string s] w fun e w'=>e=.returned (.int .u64 (yI s))/\w=w':=by
 unfold maxLen at hs;go_enter Tryz.func216,Tryz.ntmps216;go_wp2
 go_loop [3,4] (fun h i=>∃k:Nat,k<=s.size/\i=.int .i64 k/\h=.int .u64 (hfold (s.data.toList.take k))) (fun _ i=>s.size-(intOf i).toNat)
 case atStart=>exact⟨0,Nat.zero_le _,rfl,rfl⟩
 case round=>
  obtain⟨k,hk,rfl,rfl⟩:=hrel;by_cases hlt:k<s.size
  · have HT:=Lib.hid (PS s k hlt);go_wp2
    go_round
    case rel=>exact⟨k+1,byOmega,by go_num,by rw[HT.out];rfl⟩
    case measure=>simp[intOf];omega
  · have HA:=Lib.hid (PU s k hlt);have hb2:=PW (s.data.toList.take k);generalize hn:hfold (s.data.toList.take k)=n at HA hb2;clear hn;go_wp2;go_ret;refine⟨nH ?_,rfl⟩;unfold yI;rw[<-HA.out];rfl
def Kt (h:Int):Nat:=(floatBits .quo .f64 (floatOfInt .f64 (h/2048)) 4845873199050653696).getD 0
def ER (s:ByteArray):Nat:=Kt (yI s)
theorem PX (h:Int) (_h0:0<=h) (_h1:h<18446744073709551616):floatBits .quo .f64 (floatOfInt .f64 (h/2048)) 4845873199050653696=some (Kt h):=by
 have e:floatBits .quo .f64 (floatOfInt .f64 (h/2048)) 4845873199050653696=((Ieee.double.read (floatOfInt .f64 (h/2048))).quotient 54 (Ieee.double.read 4845873199050653696)).map Ieee.double.write:=rfl;have two:Ieee.double.read 4845873199050653696=.number false 4503599627370496 1:=by decide
 have hn:Dt (floatOfInt .f64 (h/2048)):=XY _ _ _;have ho:=XW hn;unfold Kt;rw[e,two];cases hd:Ieee.double.read (floatOfInt .f64 (h/2048)) with
 |number s m p=>rfl
 |infinity s=>rfl
 |nan=>rw[hd]at ho;cases ho
theorem X8 (s:ByteArray) (w:World) (hs:s.size<=maxLen):
 Calls Tryz.prog 113 #[.string s] w fun e w'=>e=.returned (.float .f64 (ER s))/\w=w':=by
 obtain⟨h0,h1⟩:=Kr s;have r1:=fun w=>run_float_arith (P:=Tryz.prog) w .quo 33 .f64 _ _ _ (PX (yI s) h0 h1)
 go_enter Tryz.func113,Tryz.ntmps113;go_wp2_with ((with_reducible refine(hash _ _ hs).mono ?_);rintro e w' ⟨rfl,rfl⟩);go_ret;exact⟨rfl,rfl⟩
theorem X9 (s:ByteArray) (w:World) (hs:s.size<=maxLen):
 Calls Tryz.prog 182 #[.string s] w fun e w'=>e=.returned (.float .f64 (ER s))/\w=w':=by
 obtain⟨h0,h1⟩:=Kr s;have r1:=fun w=>run_float_arith (P:=Tryz.prog) w .quo 33 .f64 _ _ _ (PX (yI s) h0 h1)
 go_enter Tryz.func182,Tryz.ntmps182;go_wp2_with ((with_reducible refine(X7 _ _ hs).mono ?_);rintro e w' ⟨rfl,rfl⟩);go_ret;exact⟨rfl,rfl⟩
end Go.Proofs.YtcalkfgibflbnaaGreat
/- The walks of In, May, Find, Split, Range, Ranges, Check. -/
namespace Go.Proofs.YtcalkfgibflbnaaGreat
set_option maxHeartbeats 1000000
open Go.RowKit Fl
theorem dJ (P:Program) (w:World) (a:Addr) (m:Mode) (k:FloatKind) (b:Nat):(store a (.float k b) m).run P w=stored P w a (.float k b) m:=run_store P w a _ m rfl
attribute [local go_sem] dJ
def ES (r:Rg) (x:Nat):Bool:=(ku x r.lo||yH x r.lo)&&jS x r.hi
theorem Ya (r:Rg) (x:Nat) (w:World):
 Calls Tryz.prog 112 #[r.val,.float .f64 x] w fun e w'=>e=.returned (.bool (ES r x))/\w.alloc (.cells #[.int .i64 r.id,.int .i64 r.ep,.float .f64 r.lo,.float .f64 r.hi] 35)=w':=by
 unfold Rg.val;go_enter Tryz.func112,Tryz.ntmps112;go_wp2;all_goals go_ret
 all_goals refine⟨?_,rfl⟩
 · exact aZ rfl
 · refine aZ ?_;unfold ES ku yH;rename_i h;have e:(FloatKind.f64.format.order x r.lo==some Ordering.gt||FloatKind.f64.format.order x r.lo==some Ordering.eq)=false:=(by simpa using h);rw[e];rfl
theorem Yb (r:Rg) (x:Nat) (w:World):
 Calls Tryz.prog 181 #[r.val,.float .f64 x] w fun e w'=>e=.returned (.bool (ES r x))/\w.alloc (.cells #[.int .i64 r.id,.int .i64 r.ep,.float .f64 r.lo,.float .f64 r.hi] 35)=w':=by
 go_enter Tryz.func181,Tryz.ntmps181;go_wp2;all_goals go_ret
 all_goals refine⟨?_,rfl⟩
 · exact aZ rfl
 · refine aZ ?_;unfold ES ku yH;rename_i h;have e:(FloatKind.f64.format.order x r.lo==some Ordering.gt||FloatKind.f64.format.order x r.lo==some Ordering.eq)=false:=(by simpa using h);rw[e];rfl
def lT (r:Rg):Bool:=decide (1<=r.id)&&decide (r.id<=12)&&decide (0<=r.ep)&&lF r.lo&&lF r.hi&&jS r.lo r.hi
theorem PY {r:Rg} (h:lT r=true):r.lo<r.hi/\r.hi<=4607182418800017408/\1<=r.id/\r.id<=12/\0<=r.ep:=by
 unfold lT at h;simp only[Bool.and_eq_true,decide_eq_true_eq]at h;obtain⟨⟨⟨⟨⟨h1,h2⟩,h3⟩,h4⟩,h5⟩,h6⟩:=h;have a4:r.lo<=4607182418800017408:=by unfold lF at h4;simpa using h4
 have a5:r.hi<=4607182418800017408:=by unfold lF at h5;simpa using h5
 rw[J9 byOmega byOmega]at h6;exact⟨of_decide_eq_true h6,a5,h1,h2,h3⟩
theorem Ku (r:Rg) (w:World) (hok:r.ok):
 Calls Tryz.prog 109 #[r.val] w fun e w'=>e=.returned (.bool (lT r))/\w.alloc (.cells #[.int .i64 r.id,.int .i64 r.ep,.float .f64 r.lo,.float .f64 r.hi] 35)=w':=by
 have hl:=hok.2.2.1;have hh:=hok.2.2.2;have HL:=au hl;have HH:=au hh;clear hl hh;go_enter Tryz.func109,Tryz.ntmps109;go_wp2_with (first
  |((with_reducible refine(Ko r.lo _ HL.out).mono ?_);rintro e w1 ⟨rfl,rfl⟩)
  |((with_reducible refine(Ko r.hi _ HH.out).mono ?_);rintro e w1 ⟨rfl,rfl⟩))
 all_goals go_ret
 all_goals refine⟨aZ ?_,rfl⟩
 all_goals simp_all [lT,jS]
 all_goals omega
theorem Kv (r:Rg) (w:World) (hok:r.ok):
 Calls Tryz.prog 118 #[r.val] w fun e w'=>e=.returned (.bool (lT r))/\w.alloc (.cells #[.int .i64 r.id,.int .i64 r.ep,.float .f64 r.lo,.float .f64 r.hi] 35)=w':=by
 have hl:=hok.2.2.1;have hh:=hok.2.2.2;have HL:=au hl;have HH:=au hh;clear hl hh;go_enter Tryz.func118,Tryz.ntmps118;go_wp2_with (first
  |((with_reducible refine(PL r.lo _ HL.out).mono ?_);rintro e w1 ⟨rfl,rfl⟩)
  |((with_reducible refine(PL r.hi _ HH.out).mono ?_);rintro e w1 ⟨rfl,rfl⟩))
 all_goals go_ret
 all_goals refine⟨aZ ?_,rfl⟩
 all_goals simp_all [lT,jS]
 all_goals omega
end Go.Proofs.YtcalkfgibflbnaaGreat
namespace Go.Proofs.YtcalkfgibflbnaaGreat
set_option maxHeartbeats 4000000
open Go.RowKit Fl
attribute [local go_sem] dJ
def Rg.same (a b:Rg):Bool:=(a.id==b.id)&&(a.ep==b.ep)&&((a.lo:Int)==b.lo)&&((a.hi:Int)==b.hi)
theorem Rg.kL (a:Rg):a.same a=true:=by simp[Rg.same]
theorem Rg.same_eq {a b:Rg} (h:a.same b=true):a=b:=by
 unfold Rg.same at h;simp only[Bool.and_eq_true,beq_iff_eq]at h;obtain⟨⟨⟨h1,h2⟩,h3⟩,h4⟩:=h;cases a;cases b;simp only at h1 h2 h3 h4;simp only[Rg.mk.injEq];exact⟨h1,h2,byOmega,byOmega⟩
theorem range_any (a b:Rg) (w:World):
 Calls Tryz.prog 77 #[a.val,b.val] w fun e w'=>e=.returned (.bool (a.same b))/\Below w.heap.size w w':=by
 go_enter Tryz.func77,Tryz.ntmps77;go_wp2_with ((with_reducible refine(AV _ _ _).mono ?_);rintro e w1 ⟨rfl,rfl⟩);all_goals go_ret
 all_goals refine⟨aZ ?_,((aC).alloc (Nat.le_refl _) _).alloc aA _⟩
 all_goals simp_all [Rg.same]
def Vl.same (a b:Vl):Bool:=(a.k==b.k)&&(a.t.toList==b.t.toList)&&((a.n:Int)==b.n)
theorem zQ {a b:ByteArray} (h:a.toList=b.toList):a=b:=by
 rw[ByteArray.toList_eq,ByteArray.toList_eq]at h;exact Go.WideShapes.bytes_inj h
theorem Vl.kL (a:Vl):a.same a=true:=by simp[Vl.same]
theorem Vl.same_eq {a b:Vl} (h:a.same b=true):a=b:=by
 unfold Vl.same at h;simp only[Bool.and_eq_true,beq_iff_eq]at h;cases a;cases b;simp only[Vl.mk.injEq];exact⟨h.1.1,by have:=h.2;simp only at this;omega,zQ h.1.2⟩
theorem ET (a b:Vl) (w:World):
 Calls Tryz.prog 76 #[a.val,b.val] w fun e w'=>e=.returned (.bool (a.same b))/\Below w.heap.size w w':=by
 go_enter Tryz.func76,Tryz.ntmps76;go_wp2_with ((with_reducible refine(AV _ _ _).mono ?_);rintro e w1 ⟨rfl,rfl⟩);all_goals go_ret
 all_goals refine⟨aZ ?_,((aC).alloc (Nat.le_refl _) _).alloc aA _⟩
 all_goals simp_all [Vl.same]
def Wt.same (a b:Wt):Bool:=(a.key.toList==b.key.toList)&&a.v.same b.v
theorem Wt.kL (a:Wt):a.same a=true:=by simp[Wt.same,Vl.kL]
theorem Wt.same_eq {a b:Wt} (h:a.same b=true):a=b:=by
 unfold Wt.same at h;simp only[Bool.and_eq_true,beq_iff_eq]at h;cases a;cases b;simp only[Wt.mk.injEq];exact⟨zQ h.1,Vl.same_eq h.2⟩
def aT {α:Type} (f:α->α->Bool):List α->List α->Bool
 |[],[]=>true
 |a::l,b::m=>f a b&&aT f l m
 |_,_=>false
theorem tX {α:Type} {f:α->α->Bool} (h:∀a,f a a=true):∀l:List α,aT f l l=true:=by
 intro l
 induction l with
 |nil=>rfl
 |cons a l ih=>show (f a a&&aT f l l)=true;rw[h,ih];rfl
theorem rW {α:Type} {f:α->α->Bool} (h:∀a b,f a b=true->a=b):∀l m:List α,aT f l m=true->l=m:=by
 intro l
 induction l with
 |nil=>intro m;cases m with|nil=>intro _;rfl|cons _ _=>intro h;cases h
 |cons a l ih=>
  intro m;cases m with
  |nil=>intro h;cases h
  |cons b m=>
   intro hs;have hs':(f a b&&aT f l m)=true:=hs;rw[Bool.and_eq_true]at hs';rw[h a b hs'.1,ih m hs'.2]
theorem yJ {α:Type} {f:α->α->Bool}:∀l m:List α,l.length≠m.length->aT f l m=false:=by
 intro l
 induction l with
 |nil=>intro m h;cases m with|nil=>exact absurd rfl h|cons _ _=>rfl
 |cons a l ih=>
  intro m h;cases m with
  |nil=>rfl
  |cons b m=>show (f a b&&aT f l m)=false;rw[ih m (fun e=>h (by simp[e]))];simp
theorem xE {α:Type} {f:α->α->Bool} {l m:List α} {k:Nat} {a b:α} (ha:l[k]?=some a) (hb:m[k]?=some b):aT f (l.drop k) (m.drop k)=(f a b&&aT f (l.drop (k+1)) (m.drop (k+1))):=by
 have h1:=(List.getElem?_eq_some_iff.1 ha);have h2:=(List.getElem?_eq_some_iff.1 hb);rw[List.drop_eq_getElem_cons h1.1,List.drop_eq_getElem_cons h2.1,h1.2,h2.2];rfl
def xF {α:Type} (f:α->α->Bool) (l m:List α) (w:World) (i:Value) (wr:World):Prop:=
 ∃k:Nat,k<=l.length/\i=.int .i64 (k:Int)/\aT f (l.drop k) (m.drop k)=aT f l m/\Below w.heap.size w wr
theorem H7 (A A':Option Addr) (n n' c c':Nat) (l m:List ByteArray) (w:World) (h:Sl aO 1 w w.heap.size A n l) (h':Sl aO 1 w w.heap.size A' n' m) (hn:n<=maxLen) (hn':n'<=maxLen):
 Calls Tryz.prog 34 #[.slice A n c,.slice A' n' c'] w fun e w'=>e=.returned (.bool (aT (fun a b=>a.toList==b.toList) l m))/\Below w.heap.size w w':=by
 unfold maxLen at hn hn';have hl:=h.1;have hl':=h'.1;by_cases hne:n=n'
 · subst hne;have hb0:((n:Int) !=(n:Int))=false:=aA;have hle:l.length<=n:=byOmega;have hge:n<=l.length:=byOmega;have hle':n<=m.length:=byOmega;have hle2:m.length<=n:=byOmega;clear hl hl';go_enter Tryz.func34,Tryz.ntmps34;go_wp2
   go_loopw [5] (fun i wr=>xF (fun a b=>a.toList==b.toList) l m w i wr) (fun i _=>n-(intOf i).toNat)
   case atStart=>exact⟨0,byOmega,rfl,rfl,aC⟩
   case round=>
    obtain⟨k,hk,rfl,hs,hb⟩:=hrel;have hzz:=hb.size;by_cases hlt:k<n
    · obtain⟨ad,a,rfl,ha,hbk,hok,c0⟩:=(h.below aO.kept hb).ky hlt;obtain⟨ad',a',rfl,ha',gq,hok',c0'⟩:=(h'.below aO.kept hb).ky hlt;have hd1:decide ((k:Int)<(n:Int))=true:=ay;have hk0:(0:Int)<=(k:Int):=byOmega;have hk1:(k:Int)<(n:Int):=byOmega;rw[xE ha ha']at hs;have HS:=au hs;clear ha ha' hs;cases hq:(a.toList==a'.toList)
      · have HF:RowKit.Hid (aT (fun a b:ByteArray=>a.toList==b.toList) l m=false):=(by have:=HS.out;rw[hq]at this;exact this.symm);go_wp2
        go_quiet (fail)
        go_wp2;go_ret;rw[HF.out];exact⟨rfl,hb.trans ⟨rfl,rfl,rfl,Nat.le_refl _,fun _ _=>rfl⟩⟩
      · have HT:RowKit.Hid (aT (fun a b:ByteArray=>a.toList==b.toList) (l.drop (k+1)) (m.drop (k+1))=aT (fun a b:ByteArray=>a.toList==b.toList) l m):=(by have:=HS.out;rw[hq]at this;exact this);go_wp2
        go_quiet (fail)
        go_wp2;go_roundw
        case rel=>exact⟨k+1,byOmega,by go_num,HT.out,hb.trans ⟨rfl,rfl,rfl,Nat.le_refl _,fun _ _=>rfl⟩⟩
        case measure=>simp[intOf];omega
    · have hd1:decide ((k:Int)<(n:Int))=false:=ay;have hs2:aT (fun a b:ByteArray=>a.toList==b.toList) l m=true:=by
         rw[<-hs,bF byOmega,bF byOmega];rfl
      have HS:=au hs2;clear hs hs2;go_wp2;go_ret;rw[HS.out];exact⟨rfl,hb⟩
 · have hb0:((n:Int) !=(n':Int))=true:=ay;rw[yJ l m byOmega];clear hl hl' hne;go_enter Tryz.func34,Tryz.ntmps34;go_wp2;go_ret;exact⟨rfl,aC⟩
theorem H8 (A A':Option Addr) (n n' c c':Nat) (l m:List Wt) (w:World) (h:Sl aF 4 w w.heap.size A n l) (h':Sl aF 4 w w.heap.size A' n' m) (hn:n<=maxLen) (hn':n'<=maxLen):
 Calls Tryz.prog 36 #[.slice A n c,.slice A' n' c'] w fun e w'=>e=.returned (.bool (aT Wt.same l m))/\Below w.heap.size w w':=by
 unfold maxLen at hn hn';have hl:=h.1;have hl':=h'.1;by_cases hne:n=n'
 · subst hne;have hb0:((n:Int) !=(n:Int))=false:=aA;have hle:l.length<=n:=byOmega;have hge:n<=l.length:=byOmega;have hle':n<=m.length:=byOmega;have hle2:m.length<=n:=byOmega;clear hl hl';go_enter Tryz.func36,Tryz.ntmps36;go_wp2
   go_loopw [5] (fun i wr=>xF Wt.same l m w i wr) (fun i _=>n-(intOf i).toNat)
   case atStart=>exact⟨0,byOmega,rfl,rfl,aC⟩
   case round=>
    obtain⟨k,hk,rfl,hs,hb⟩:=hrel;have hzz:=hb.size;by_cases hlt:k<n
    · obtain⟨ad,a,rfl,ha,hbk,hok,c0,c1,c2,c3⟩:=(h.below aF.kept hb).wt hlt;obtain⟨ad',a',rfl,ha',gq,hok',d0,d1,d2,d3⟩:=(h'.below aF.kept hb).wt hlt;have hd1:decide ((k:Int)<(n:Int))=true:=ay;have hk0:(0:Int)<=(k:Int):=byOmega;have hk1:(k:Int)<(n:Int):=byOmega;have hbw:(ad.add (k*4)).block<wr.heap.size:=byOmega;have yK:(ad'.add (k*4)).block<wr.heap.size:=byOmega;rw[xE ha ha']at hs;have HS:=au hs;clear ha ha' hs hok hok';cases hq:(a.key.toList==a'.key.toList)
      · have HF:RowKit.Hid (aT Wt.same l m=false):=(by have:=HS.out;rw[show Wt.same a a'=false from by unfold Wt.same;rw[hq];rfl]at this;exact this.symm);go_wp2
        go_quiet (fail)
        go_wp2;go_ret;rw[HF.out];exact⟨rfl,hb.trans ⟨rfl,rfl,rfl,Nat.le_refl _,fun _ _=>rfl⟩⟩
      · have hsm:Wt.same a a'=a.v.same a'.v:=(by unfold Wt.same;rw[hq];rfl);have hv:=fun w=>ET a.v a'.v w
        rw[hsm]at HS;clear hsm;generalize a.v.same a'.v=r at*;go_wp2
        go_region_held3 (fun w'=>(w'.cell? (ad.add (k*4))=some (.string a.key)/\w'.cell? ⟨(ad.add (k*4)).block,(ad.add (k*4)).off+1,none⟩=some (.int .i64 a.v.k)/\w'.cell? ⟨(ad.add (k*4)).block,(ad.add (k*4)).off+2,none⟩=some (.float .f64 a.v.n)/\w'.cell? ⟨(ad.add (k*4)).block,(ad.add (k*4)).off+3,none⟩=some (.string a.v.t))/\
         w'.cell? (ad'.add (k*4))=some (.string a'.key)/\w'.cell? ⟨(ad'.add (k*4)).block,(ad'.add (k*4)).off+1,none⟩=some (.int .i64 a'.v.k)/\w'.cell? ⟨(ad'.add (k*4)).block,(ad'.add (k*4)).off+2,none⟩=some (.float .f64 a'.v.n)/\w'.cell? ⟨(ad'.add (k*4)).block,(ad'.add (k*4)).off+3,none⟩=some (.string a'.v.t))
         (first|exact⟨⟨c0,c1,c2,c3⟩,d0,d1,d2,d3⟩|exact⟨⟨(hb1.cell hbw).trans c0,(hb1.cell (p:=⟨_,_,none⟩) hbw).trans c1,(hb1.cell (p:=⟨_,_,none⟩) hbw).trans c2,(hb1.cell (p:=⟨_,_,none⟩) hbw).trans c3⟩,(hb1.cell yK).trans d0,(hb1.cell (p:=⟨_,_,none⟩) yK).trans d1,(hb1.cell (p:=⟨_,_,none⟩) yK).trans d2,(hb1.cell (p:=⟨_,_,none⟩) yK).trans d3⟩)
         (first|((with_reducible refine(hv _).mono ?_);rintro e w1 ⟨rfl,hb1⟩))
        have hb2:Below w.heap.size w w1:=hb.trans (Below.mono (w:=wr) ⟨hb1.os,hb1.tape,hb1.output,hb1.size,hb1.block⟩ hzz);cases r
        · have HF:RowKit.Hid (aT Wt.same l m=false):=(by have:=HS.out;rw[Bool.false_and]at this;exact this.symm);go_wp2;go_ret;rw[HF.out];exact⟨rfl,hb2⟩
        · have HT:RowKit.Hid (aT Wt.same (l.drop (k+1)) (m.drop (k+1))=aT Wt.same l m):=(by have:=HS.out;rw[Bool.true_and]at this;exact this);go_wp2;go_roundw
          case rel=>exact⟨k+1,byOmega,by go_num,HT.out,hb2⟩
          case measure=>simp[intOf];omega
    · have hd1:decide ((k:Int)<(n:Int))=false:=ay;have hs2:aT Wt.same l m=true:=by
         rw[<-hs,bF byOmega,bF byOmega];rfl
      have HS:=au hs2;clear hs hs2;go_wp2;go_ret;rw[HS.out];exact⟨rfl,hb⟩
 · have hb0:((n:Int) !=(n':Int))=true:=ay;rw[yJ l m byOmega];clear hl hl' hne;go_enter Tryz.func36,Tryz.ntmps36;go_wp2;go_ret;exact⟨rfl,aC⟩
set_option maxHeartbeats 1000000
theorem bD {w:World} (q:Nat):Below w.heap.size w (w.drewN q):=⟨rfl,rfl,rfl,Nat.le_refl _,fun _ _=>rfl⟩
def Sp.may (s:Sp):Bool:=decide (0<=s.w)&&decide (s.w<=281474976710656)&&decide (0<=s.l)&&decide (s.l<=65535)&&decide (0<=s.n)&&decide (s.n<=63)
theorem zS (s:Sp) (w:World):
 Calls Tryz.prog 60 #[s.val] w fun e w'=>e=.returned (.bool s.may)/\w.alloc (.cells #[.int .i64 s.w,.int .i64 s.l,.int .i64 s.n] 26)=w':=by
 go_enter Tryz.func60,Tryz.ntmps60;go_wp2;all_goals go_ret
 all_goals refine⟨aZ ?_,rfl⟩
 all_goals simp_all [Sp.may]
 all_goals omega
theorem jF (s:Sp) (w:World):
 Calls Tryz.prog 65 #[s.val] w fun e w'=>e=.returned (.bool s.may)/\Below w.heap.size w w':=by
 go_enter Tryz.func65,Tryz.ntmps65;go_wp2;all_goals go_ret
 all_goals refine⟨aZ ?_,by go_grown⟩
 all_goals simp_all [Sp.may]
 all_goals omega
def Tx.may (s:Tx):Bool:=decide (1<=s.c)&&decide (s.c<=2)&&decide (1<=s.l)&&decide (1<=s.s)
theorem wI (s:Tx) (w:World):
 Calls Tryz.prog 101 #[s.val] w fun e w'=>e=.returned (.bool s.may)/\Below w.heap.size w w':=by
 go_enter Tryz.func101,Tryz.ntmps101;go_wp2;all_goals go_ret
 all_goals refine⟨aZ ?_,by go_grown⟩
 all_goals simp_all [Tx.may]
 all_goals omega
theorem nI (s:Tx) (w:World):
 Calls Tryz.prog 64 #[s.val] w fun e w'=>e=.returned (.bool s.may)/\Below w.heap.size w w':=by
 go_enter Tryz.func64,Tryz.ntmps64;go_wp2;all_goals go_ret
 all_goals refine⟨aZ ?_,by go_grown⟩
 all_goals simp_all [Tx.may]
 all_goals omega
def gY (k:ByteArray):Bool:=decide ((1:Int)<=(k.size:Int))&&decide ((k.size:Int)<=24)
theorem EU (k:ByteArray) (w:World):Calls Tryz.prog 155 #[.string k] w fun e w'=>e=.returned (.bool (gY k))/\w=w':=by
 go_enter Tryz.func155,Tryz.ntmps155;go_wp2;all_goals go_ret
 all_goals refine⟨aZ ?_,rfl⟩
 all_goals simp_all [gY]
 all_goals omega
theorem EW (k:ByteArray) (w:World):Calls Tryz.prog 116 #[.string k] w fun e w'=>e=.returned (.bool (gY k))/\w=w':=by
 go_enter Tryz.func116,Tryz.ntmps116;go_wp2;all_goals go_ret
 all_goals refine⟨aZ ?_,rfl⟩
 all_goals simp_all [gY]
 all_goals omega
def oP (a b:Int):Int:=if a<b then -1 else if b<a then 1 else 0
def Sp.cmp (a b:Sp):Int:=if a.w≠b.w then oP a.w b.w else if a.l≠b.l then oP a.l b.l else oP a.n b.n
theorem Kw (a b:Sp) (w:World):Calls Tryz.prog 114 #[a.val,b.val] w fun e w'=>e=.returned (.int .i64 (a.cmp b))/\Below w.heap.size w w':=by
 go_enter Tryz.func114,Tryz.ntmps114;go_wp2
 go_quiet (fail)
 go_wp2;all_goals first
  |go_ret
  |(go_quiet (fail);go_wp2;all_goals go_ret)
 all_goals refine⟨nH ?_,(by go_grown:Below w.heap.size w ((w.alloc _).alloc _)).trans ((bD _).mono ay)⟩
 all_goals simp_all [Sp.cmp,oP]
 all_goals omega
def pU (t:ByteArray):Bool:=t.toList.isEmpty
theorem nJ {P:Program} {f:FuncId} {args:Array Value} {v:Value} {w:World} {q:Nat} (h:Calls P f args (w.drewN q) fun e w'=>e=.returned v/\w.drewN q=w'):
 Calls P f args (w.drewN q) fun e w'=>e=.returned v/\∃m,w'=w.drewN m:=h.mono fun _ _ ⟨he,hw⟩=>⟨he,q,hw.symm⟩
def Vl.may (v:Vl):Bool:=
 if v.k=0 then ((v.n:Int)==0)&&pU v.t else if v.k=1 then pU v.t&&((v.n:Int)==bU v.n) else if v.k=2 then ((v.n:Int)==0)&&decide ((v.t.size:Int)<=64) else false
theorem Vl.may0 {v:Vl} (h:v.k=0):v.may=(((v.n:Int)==0)&&pU v.t):=by unfold Vl.may;rw[if_pos h]
theorem Vl.may1 {v:Vl} (h:v.k=1):v.may=(pU v.t&&((v.n:Int)==bU v.n)):=by unfold Vl.may;rw[if_neg byOmega,if_pos h]
theorem Vl.H9 {v:Vl} (h:v.k=2):v.may=(((v.n:Int)==0)&&decide ((v.t.size:Int)<=64)):=by unfold Vl.may;rw[if_neg byOmega,if_neg byOmega,if_pos h]
theorem Vl.Ky {v:Vl} (h0:v.k≠0) (h1:v.k≠1) (h2:v.k≠2):v.may=false:=by unfold Vl.may;rw[if_neg h0,if_neg h1,if_neg h2]
theorem Du (v:Vl) (w:World):Calls Tryz.prog 157 #[v.val] w fun e w'=>e=.returned (.bool v.may)/\Below w.heap.size w w':=by
 by_cases h0:v.k=0
 · have hk:(v.k==0)=true:=(by simp[h0]);rw[Vl.may0 h0];clear h0;cases ht:pU v.t<;>cases hn:((v.n:Int)==0)
   all_goals unfold pU at ht
   all_goals go_enter Tryz.func157,Tryz.ntmps157
   all_goals go_wp2
   all_goals go_ret
   all_goals exact⟨rfl,by go_grown⟩
 by_cases h1:v.k=1
 · have hk:(v.k==0)=false:=(by simp[h0]);have hk2:(v.k==1)=true:=(by simp[h1]);rw[Vl.may1 h1];clear h0 h1;cases ht:pU v.t<;>cases hn:((v.n:Int)==bU v.n)
   all_goals unfold pU at ht
   all_goals go_enter Tryz.func157,Tryz.ntmps157
   all_goals go_wp2
   all_goals go_quiet (first|(go_at_call 196;exact nJ (nbits _ _)))
   all_goals go_wp2
   all_goals go_ret
   all_goals exact⟨rfl,(by go_grown:Below w.heap.size w (w.alloc _)).trans ((bD _).mono aA)⟩
 by_cases h2:v.k=2
 · have hk:(v.k==0)=false:=(by simp[h0]);have hk2:(v.k==1)=false:=(by simp[h1]);have hk3:(v.k==2)=true:=(by simp[h2]);rw[Vl.H9 h2];clear h0 h1 h2;cases ht:decide ((v.t.size:Int)<=64)<;>cases hn:((v.n:Int)==0)
   all_goals go_enter Tryz.func157,Tryz.ntmps157
   all_goals go_wp2
   all_goals go_ret
   all_goals exact⟨rfl,by go_grown⟩
 · have hk:(v.k==0)=false:=(by simp[h0]);have hk2:(v.k==1)=false:=(by simp[h1]);have hk3:(v.k==2)=false:=(by simp[h2]);rw[Vl.Ky h0 h1 h2];clear h0 h1 h2;go_enter Tryz.func157,Tryz.ntmps157;go_wp2;go_ret;exact⟨rfl,by go_grown⟩
theorem info_parts {P:Program} {t:TypeId} {z:Value} {s b:Nat} (h:(P.info? t).map (fun i=>(i.zero,i.size,i.bytes))=some (some z,s,b)):∃i,P.info? t=some i/\i.zero=some z/\i.size=s/\i.bytes=b:=by
 cases hi:P.info? t with
 |none=>rw[hi]at h;cases h
 |some i=>
  rw[hi]at h;simp only[Option.map_some,Option.some.injEq,Prod.mk.injEq]at h;exact⟨i,rfl,h.1,h.2.1,h.2.2⟩
theorem Kz:(Tryz.prog.info? 61).map (fun i=>(i.zero,i.size,i.bytes))=some (some (.agg #[.string ⟨#[]⟩,.int .i64 0,.float .f64 0,.string ⟨#[]⟩]),4,48):=ah
theorem nK (w:World) (t:TypeId) (cs:List Value) (k:Nat) (h:cs.length=k):Reads (w.alloc (.cells cs.toArray t)) (w.heap.size+1) k (some ⟨w.heap.size,0,none⟩) 1 cs:=by
 refine⟨by rw[h,Nat.one_mul],fun _=>⟨_,rfl,aA,fun j u hj=>?_⟩⟩;rw[Addr.add_mid,Nat.zero_add,(aj.new w t cs.toArray).cell];simpa using hj
def Ia (v v2:Value):Prop:=∀k,v.ownBlock=some k->v2.ownBlock≠some k
theorem Ia.nil (v:Value):Ia v (.slice none 0 0):=fun k _ e=>by simp[Value.ownBlock]at e
def bV {α:Type} (f:α->List Value) (E size base:Nat) (w:World) (v:Value) (l:List α):Prop:=w.ownsRow base E size v l.length (l.flatMap f)
section
variable {α:Type} {f:α->List Value} {E size base:Nat} {w w' X w1:World} {v v1 v2:Value} {l m:List α}
theorem bV.below (h:bV f E size base w v l) (hb:Below w.heap.size w w'):bV f E size base w' v l:=
 h.kept (row:=none) ⟨hb.os,hb.tape,hb.output,hb.size,fun k hk _=>hb.block k hk⟩ (by cases v.ownBlock<;>simp)
theorem bV.nil (w:World):bV f E size base w (.slice none 0 0) []:=World.ownsRow_nil _ _ _ _
theorem bV.form (h:bV f E size base w v l):∃A c,v=.slice A l.length c/\l.length<=c/\c<=maxLen:=fP h
theorem bV.push (a:α) (hown:w1.ownsRow base E size v1 (l.length+1) (l.flatMap f++f a)):bV f E size base w1 v1 (l++[a]):=by
 unfold bV;rw[aK,List.flatMap_append];simpa using hown
theorem bV.sl {cells:α->List Value} {ok:α->Prop} (hk:0<size) (hf:∀a,(cells a).length=size) (h:bV cells E size base w v l) (hok:∀a∈l,ok a):dH (Flat cells ok) size w w.heap.size v l:=by
 obtain⟨A,c,rfl,h1,h2⟩:=h.form;exact⟨A,_,c,rfl,h1,h2,(Reads.kK h).sl hk hf hok rfl⟩
end
set_option maxHeartbeats 4000000
set_option maxRecDepth 100000
def bl (a b:ByteArray):Bool:=Op.bytesLess a.toList b.toList
def iP:Option ByteArray->List ByteArray->Bool
 |_,[]=>true
 |p,k::l=>gY k&&(match p with|none=>true|some q=>bl q k)&&iP (some k) l
def cu (l:List ByteArray):Bool:=iP none l&&decide ((l.length:Int)<=16)
def ahead {α:Type} (l:List α):Nat->Option α
 |0=>none
 |k+1=>l[k]?
theorem Ib {l:List ByteArray} {k:Nat} {a:ByteArray} (h:l[k]?=some a):
 iP (ahead l k) (l.drop k)=(gY a&&(match ahead l k with|none=>true|some q=>bl q a)&&iP (ahead l (k+1)) (l.drop (k+1))):=by
 have h1:=List.getElem?_eq_some_iff.1 h;rw[List.drop_eq_getElem_cons h1.1,h1.2];show (_&&_&&iP (some a) _)=_;rw[show ahead l (k+1)=some a from h]
def PZ (l:List ByteArray) (w:World) (i:Value) (wr:World):Prop:=∃k:Nat,k<=l.length/\i=.int .i64 (k:Int)/\iP (ahead l k) (l.drop k)=iP none l/\w=wr
theorem KA (A:Option Addr) (n c:Nat) (l:List ByteArray) (w:World) (h:Sl aO 1 w w.heap.size A n l) (hn:n<=maxLen):
 Calls Tryz.prog 168 #[.slice A n c] w fun e w'=>e=.returned (.bool (cu l))/\w=w':=by
 unfold maxLen at hn;have hl:=h.1;have hge:n<=l.length:=byOmega;go_enter Tryz.func168,Tryz.ntmps168;go_wp2
 go_loopw [7] (fun i wr=>PZ l w i wr) (fun i _=>n-(intOf i).toNat)
 case atStart=>exact⟨0,byOmega,rfl,rfl,rfl⟩
 case round=>
  obtain⟨k,hk,rfl,hs,rfl⟩:=hrel;by_cases hlt:k<n
  · obtain⟨ad,a,rfl,ha,hbk,hok,c0⟩:=h.ky hlt;have hka:=fun w=>EU a w
    have hd1:decide ((k:Int)<(n:Int))=true:=ay;have hk0:(0:Int)<=(k:Int):=byOmega;have hk1:(k:Int)<(n:Int):=byOmega;rw[Ib ha]at hs;cases hkb:gY a
    · rw[hkb]at hka hs;have HF:RowKit.Hid (cu l=false):=(by unfold cu;rw[<-hs];rfl);clear hs ha hl;go_wp2_with ((with_reducible refine(hka _).mono ?_);rintro e w1 ⟨rfl,rfl⟩);go_ret;rw[HF.out];exact⟨rfl,rfl⟩
    · rw[hkb]at hka hs;by_cases hz:k=0
      · have hd2:¬(0<k):=byOmega;have hs':iP (ahead l (k+1)) (l.drop (k+1))=iP none l:=(by rw[<-hs,hz];simp[ahead]);have HS:=au hs';clear hs hs' hl ha hz;go_wp2_with ((with_reducible refine(hka _).mono ?_);rintro e w1 ⟨rfl,rfl⟩);go_roundw
        case rel=>exact⟨k+1,byOmega,by go_num,HS.out,rfl⟩
        case measure=>simp[intOf];omega
      · obtain⟨ad',b,e',hb,gq,hok',d0⟩:=h.ky (k:=k-1) byOmega;injection e' with e'
        subst e';have hd2:0<k:=byOmega;have hj0:(0:Int)<=(k:Int)-1:=byOmega;have hj1:(k:Int)-1<(n:Int):=byOmega;have hj2:((k:Int)-1).toNat=k-1:=byOmega;have hah:ahead l k=some b:=by
         cases k with
         |zero=>omega
         |succ j=>exact hb
        rw[hah]at hs;cases hbl:bl b a
        · have HF:=au (show cu l=false by unfold cu;rw[<-hs];simp[hbl]);unfold bl at hbl;clear hs hl ha hb hz hah;go_wp2_with ((with_reducible refine(hka _).mono ?_);rintro e w1 ⟨rfl,rfl⟩);go_ret;rw[HF.out];exact⟨rfl,rfl⟩
        · have hs':iP (ahead l (k+1)) (l.drop (k+1))=iP none l:=(by rw[<-hs];simp[hbl]);have HS:=au hs';unfold bl at hbl;clear hs hs' hl ha hb hz hah;go_wp2_with ((with_reducible refine(hka _).mono ?_);rintro e w1 ⟨rfl,rfl⟩);go_roundw
          case rel=>exact⟨k+1,byOmega,by go_num,HS.out,rfl⟩
          case measure=>simp[intOf];omega
  · have hd1:decide ((k:Int)<(n:Int))=false:=ay;have hr:cu l=decide ((n:Int)<=16):=by
        unfold cu;rw[<-hs,bF byOmega,hl];rfl
    have HS:=au hr;clear hs hr hl;go_wp2;go_ret;rw[HS.out];exact⟨rfl,rfl⟩
def Yc (l:List Wt) (w:World) (v i:Value) (wr:World):Prop:=∃k:Nat,k<=l.length/\i=.int .i64 (k:Int)/\bV gQ 9 1 w.heap.size wr v ((l.take k).map (·.key))/\Below w.heap.size w wr
theorem Dv:(Tryz.prog.info? 9).map (fun i=>(i.zero,i.size,i.bytes))=some (some (.string ⟨#[]⟩),1,16):=ah
theorem Yd (A:Option Addr) (n c:Nat) (l:List Wt) (w:World) (h:Sl aF 4 w w.heap.size A n l) (hn:n<=5000000):
 Calls Tryz.prog 169 #[.slice A n c] w fun e w'=>∃v,e=.returned v/\bV gQ 9 1 w.heap.size w' v (l.map (·.key))/\Below w.heap.size w w':=by
 obtain⟨i0,hi0,hz0,hz1,hz2⟩:=info_parts Dv;have hl:=h.1;have hle:l.length<=n:=byOmega;have hge:n<=l.length:=byOmega;clear hl;go_enter Tryz.func169,Tryz.ntmps169;go_wp2
 go_loopw [3,8] (fun v i wr=>Yc l w v i wr) (fun _ i _=>n-(intOf i).toNat)
 case atStart=>exact⟨0,byOmega,rfl,bV.nil _,aC⟩
 case round=>
  obtain⟨k,hk,rfl,ho,hb⟩:=hrel;have hzz:=hb.size;by_cases hlt:k<n
  · obtain⟨ad,a,rfl,ha,hbk,hok,c0,c1,c2,c3⟩:=(h.below aF.kept hb).wt hlt;have hd1:decide ((k:Int)<(n:Int))=true:=ay;have hsn:(l.take (k+1)).map (·.key)=(l.take k).map (·.key)++[a.key]:=(by rw[List.take_add_one,ha];simp);have hln:((l.take k).map (·.key)).length<=5000000:=ay;have HS:=au hsn;clear hsn ha;obtain⟨A1,q1,rfl,hq1,yL⟩:=ho.form;generalize (l.take k).map (·.key)=ks at*;have hX:Below wr.heap.size wr ((wr.alloc (.cells a.cells.toArray 61)).alloc (.cells (gQ a.key).toArray 9)):=((aC).alloc (Nat.le_refl _) _).alloc aA _;have hown0:=ho.below hX;have dF:=nK (wr.alloc (.cells a.cells.toArray 61)) 9 (gQ a.key) 1 rfl;rw[show (wr.alloc (.cells a.cells.toArray 61)).heap.size=wr.heap.size+1 from aA]at dF;have hsz0:((wr.alloc (.cells a.cells.toArray 61)).alloc (.cells (gQ a.key).toArray 9)).heap.size=wr.heap.size+2:=aA;go_wp2_with (first
        |(at_builtin
          refine iI _ rfl (.tmp 12) (.tmp 15) _ rfl w.heap.size 9 i0 _ 1 16 Tryz.underlying27 hi0 hz0 hz1 hz2 rfl byOmega (.slice A1 ks.length q1) _ (ks.flatMap gQ) aI hown0 _ (some ⟨wr.heap.size+1,0,none⟩) 1 1 (gQ a.key) aI
           dF (EP a.key) dX byOmega ay ?_
          intro v3 w3 hown3 hg3 wJ;obtain⟨A3,q3,rfl,hq3,xG⟩:=fP hown3))
    have hp:=bV.push a.key hown3;have hbw:=(hb.trans (hX.mono hzz)).grown hg3 ay (fun q hq=>(hown0.lt q hq).1);go_roundw
    case rel=>
        refine⟨k+1,byOmega,by go_num,?_⟩;rw[HS.out];exact⟨hp,hbw⟩
    case measure=>simp[intOf];omega
  · have hd1:decide ((k:Int)<(n:Int))=false:=ay;rw[List.take_of_length_le byOmega]at ho;obtain⟨A1,q1,rfl,hq1,yL⟩:=ho.form;go_wp2;go_ret;exact⟨_,rfl,ho,hb⟩
theorem below_setRow {B:Nat} {a w:World} (h:Below B a w) {g:Nat} (hg:B<=g) (cs:Array Value):Below B a (w.setRow g cs):=
 ⟨h.os,h.tape,h.output,by rw[setRow_size];exact h.size,fun k hk=>(setRow_other w g k cs byOmega).trans (h.block k hk)⟩
theorem aj.setRow {w:World} {g:Nat} {t:TypeId} {cs:Array Value} (h:aj w g t cs) (cs':Array Value):aj (w.setRow g cs') g t cs':=by
 unfold aj at h ⊢;simp[World.setRow,Array.getElem?_modify,h]
theorem aj.jT {w:World} {g g':Nat} {t:TypeId} {cs:Array Value} (h:aj w g t cs) (cs':Array Value) (hne:g'≠g):aj (w.setRow g' cs') g t cs:=by
 unfold aj at h ⊢;simp[World.setRow,Array.getElem?_modify,hne,h]
theorem aj.three {w:World} {g:Nat} {t:TypeId} {a b c:Value} (h:aj w g t #[a,b,c]):g<w.heap.size/\w.cell? ⟨g,0,none⟩=some a/\w.cell? ⟨g,1,none⟩=some b/\w.cell? ⟨g,2,none⟩=some c:=
 ⟨h.lt,h.cell 0,h.cell 1,h.cell 2⟩
theorem aj.six {w:World} {g:Nat} {t:TypeId} {a b c d e f:Value} (h:aj w g t #[a,b,c,d,e,f]):g<w.heap.size/\w.cell? ⟨g,0,none⟩=some a/\w.cell? ⟨g,1,none⟩=some b/\w.cell? ⟨g,2,none⟩=some c/\
 w.cell? ⟨g,3,none⟩=some d/\w.cell? ⟨g,4,none⟩=some e/\w.cell? ⟨g,5,none⟩=some f:=
 ⟨h.lt,h.cell 0,h.cell 1,h.cell 2,h.cell 3,h.cell 4,h.cell 5⟩
theorem aj.eight {w:World} {g:Nat} {t:TypeId} {a b c d e f i j:Value} (h:aj w g t #[a,b,c,d,e,f,i,j]):g<w.heap.size/\w.cell? ⟨g,0,none⟩=some a/\w.cell? ⟨g,1,none⟩=some b/\w.cell? ⟨g,2,none⟩=some c/\
 w.cell? ⟨g,3,none⟩=some d/\w.cell? ⟨g,4,none⟩=some e/\w.cell? ⟨g,5,none⟩=some f/\w.cell? ⟨g,6,none⟩=some i/\w.cell? ⟨g,7,none⟩=some j:=
 ⟨h.lt,h.cell 0,h.cell 1,h.cell 2,h.cell 3,h.cell 4,h.cell 5,h.cell 6,h.cell 7⟩
def leB (a b:ByteArray):Bool:=Op.bytesLess a.toList b.toList||a.toList==b.toList
def jG:Sp->List Vn->Bool
 |_,[]=>true
 |p,v::l=>v.s.may&&decide (0<v.s.cmp p)&&v.v.may&&jG v.s l
def nM (p:ByteArray) (h:Hs):Bool:=gY h.key&& !leB h.key p&& !decide (h.vs.length=0)&&jG ⟨0,0,0⟩ h.vs
theorem KC {l:List Vn} {k:Nat} {a:Vn} (p:Sp) (h:l[k]?=some a):jG p (l.drop k)=(a.s.may&&decide (0<a.s.cmp p)&&a.v.may&&jG a.s (l.drop (k+1))):=by
 have h1:=List.getElem?_eq_some_iff.1 h;rw[List.drop_eq_getElem_cons h1.1,h1.2];rfl
abbrev Sp.arr (s:Sp):Array Value:=#[.int .i64 s.w,.int .i64 s.l,.int .i64 s.n]
def Ye (l:List Vn) (w:World) (i:Value) (wr:World):Prop:=
 ∃(k:Nat) (p:Sp),k<=l.length/\i=.int .i64 (k:Int)/\jG p (l.drop k)=jG ⟨0,0,0⟩ l/\aj wr (w.heap.size+1) 26 p.arr/\Below w.heap.size w wr
theorem Yf (A:Option Addr) (n c:Nat) (h:Hs) (p:ByteArray) (w:World) (hh:Sl fC 6 w w.heap.size A n h.vs) (hn:n<=maxLen) (h1:gY h.key=true) (h2:leB h.key p=false) (h3:h.vs.length≠0):
 Calls Tryz.prog 162 #[.agg #[.string h.key,.slice A n c],.string p] w fun e w'=>e=.returned (.bool (jG ⟨0,0,0⟩ h.vs))/\Below w.heap.size w w':=by
 unfold maxLen at hn;have hl:=hh.1;have hge:n<=h.vs.length:=byOmega;have hle:h.vs.length<=n:=byOmega;have hk:=fun w=>EU h.key w
 rw[h1]at hk;have hn0:((n:Int)==0)=false:=ay;have hn1:(n==0)=false:=ay;unfold leB at h2;rw[Bool.or_eq_false_iff]at h2;obtain⟨h21,h22⟩:=h2;clear hl h1 h3;generalize h.vs=l at*;go_enter Tryz.func162,Tryz.ntmps162;go_wp2_with (first
  |((with_reducible refine(hk _).mono ?_);rintro e w1 ⟨rfl,rfl⟩))
 go_loopw [28] (fun i wr=>Ye l w i wr) (fun i _=>n-(intOf i).toNat)
 case atStart=>exact⟨0,⟨0,0,0⟩,byOmega,rfl,rfl,aj.new' _ _ aA,by go_grown⟩
 case round=>
  obtain⟨k,q,hk',rfl,hs,b5,hb⟩:=hrel;have hzz:=hb.size;by_cases hlt:k<n
  · obtain⟨ad,a,rfl,ha,hbk,hok,c0,c1,c2,c3,c4,c5⟩:=(hh.below fC.kept hb).vn hlt;have hd1:decide ((k:Int)<(n:Int))=true:=ay;have hm:=fun w=>zS a.s w
    have hc:=fun w=>Kw a.s q w
    have hv:=fun w=>Du a.v w
    rw[KC q ha]at hs;obtain⟨g5,y0,y1,y2⟩:=b5.three;have g55:w.heap.size+1<wr.heap.size+1:=byOmega;cases hmb:a.s.may
    · rw[hmb]at hm hs;have HF:=au (show jG ⟨0,0,0⟩ l=false by rw[<-hs];rfl);clear hs ha hmb;go_wp2_with ((with_reducible refine(hm _).mono ?_);rintro e w1 ⟨rfl,rfl⟩);go_ret;rw[HF.out];exact⟨rfl,hb.trans (((aC).alloc byOmega _).alloc ay _)⟩
    rw[hmb]at hm hs;generalize a.s.cmp q=cc at*;by_cases hcc:cc<=0
    · have HF:=au (show jG ⟨0,0,0⟩ l=false by rw[<-hs];simp;intro h;omega);clear hs ha hmb;go_wp2_with (first
       |((with_reducible refine(hm _).mono ?_);rintro e w1 ⟨rfl,rfl⟩)
       |((with_reducible refine(hc _).mono ?_);rintro e w2 ⟨rfl,hb2⟩
         have b7:=((aj.new wr 160 a.cells.toArray).alloc _).below hb2 (by simp<;>omega);have AX:=((b5.alloc _).alloc _).below hb2 ay;obtain⟨g7,x0,x1,x2,x3,x4,x5⟩:=b7.six;obtain⟨g5,y0,y1,y2⟩:=AX.three;have hw2:Below w.heap.size w w2:=hb.trans ((((aC).alloc byOmega _).alloc ay _).trans (hb2.mono ay))))
      go_ret;rw[HF.out];exact⟨rfl,hw2⟩
    cases hvb:a.v.may
    · rw[hvb]at hv hs;have HF:=au (show jG ⟨0,0,0⟩ l=false by rw[<-hs];simp);clear hs ha hmb hvb;go_wp2_with (first
       |((with_reducible refine(hm _).mono ?_);rintro e w1 ⟨rfl,rfl⟩)
       |((with_reducible refine(hc _).mono ?_);rintro e w2 ⟨rfl,hb2⟩
         have b7:=((aj.new wr 160 a.cells.toArray).alloc _).below hb2 (by simp<;>omega);have AX:=((b5.alloc _).alloc _).below hb2 ay;obtain⟨g7,x0,x1,x2,x3,x4,x5⟩:=b7.six;obtain⟨g5,y0,y1,y2⟩:=AX.three;have hw2:Below w.heap.size w w2:=hb.trans ((((aC).alloc byOmega _).alloc ay _).trans (hb2.mono ay)))
       |((with_reducible refine(hv _).mono ?_);rintro e w3 ⟨rfl,hb3⟩
         have KD:=b7.below hb3 byOmega;have EX:=AX.below hb3 byOmega;obtain⟨Yg,Yh,x1',x2',x3',Yi,Yj⟩:=KD.six;obtain⟨Yk,y0',y1',Yl⟩:=EX.three;have hw3:Below w.heap.size w w3:=hw2.trans (hb3.mono byOmega)))
      go_ret;rw[HF.out];exact⟨rfl,hw3⟩
    · rw[hvb]at hv hs;have HT:=au (show jG a.s (l.drop (k+1))=jG ⟨0,0,0⟩ l by rw[<-hs];simp;intro h;omega);clear hs ha hmb hvb;go_wp2_with (first
       |((with_reducible refine(hm _).mono ?_);rintro e w1 ⟨rfl,rfl⟩)
       |((with_reducible refine(hc _).mono ?_);rintro e w2 ⟨rfl,hb2⟩
         have b7:=((aj.new wr 160 a.cells.toArray).alloc _).below hb2 (by simp<;>omega);have AX:=((b5.alloc _).alloc _).below hb2 ay;obtain⟨g7,x0,x1,x2,x3,x4,x5⟩:=b7.six;obtain⟨g5,y0,y1,y2⟩:=AX.three;have hw2:Below w.heap.size w w2:=hb.trans ((((aC).alloc byOmega _).alloc ay _).trans (hb2.mono ay)))
       |((with_reducible refine(hv _).mono ?_);rintro e w3 ⟨rfl,hb3⟩
         have KD:=b7.below hb3 byOmega;have EX:=AX.below hb3 byOmega;obtain⟨Yg,Yh,x1',x2',x3',Yi,Yj⟩:=KD.six;obtain⟨Yk,y0',y1',Yl⟩:=EX.three;have hw3:Below w.heap.size w w3:=hw2.trans (hb3.mono byOmega))
       |(refine wpList_store_row rfl 26 _ _ rfl _ _ rfl rfl _ _ EX ah ah ah ?_))
      go_roundw
      case rel=>exact⟨k+1,a.s,byOmega,by go_num,HT.out,EX.setRow _,below_setRow hw3 byOmega _⟩
      case measure=>simp[intOf];omega
  · have hd1:decide ((k:Int)<(n:Int))=false:=ay;rw[bF byOmega]at hs;have HS:=au hs;clear hs;go_wp2;go_ret;rw[<-HS.out];exact⟨rfl,hb⟩
theorem Ym (A:Option Addr) (n c:Nat) (h:Hs) (p:ByteArray) (w:World) (hh:Sl fC 6 w w.heap.size A n h.vs) (hn:n<=maxLen):
 Calls Tryz.prog 162 #[.agg #[.string h.key,.slice A n c],.string p] w fun e w'=>e=.returned (.bool (nM p h))/\Below w.heap.size w w':=by
 have hk:=fun w=>EU h.key w
 have hl:=hh.1;cases h1:gY h.key
 · rw[h1]at hk;have HF:=au (show nM p h=false by unfold nM;rw[h1];rfl);clear h1;go_enter Tryz.func162,Tryz.ntmps162;go_wp2_with ((with_reducible refine(hk _).mono ?_);rintro e w1 ⟨rfl,rfl⟩);go_ret;rw[HF.out];exact⟨rfl,by go_grown⟩
 cases h2:leB h.key p
 · by_cases h3:h.vs.length=0
   · have hn0:n=0:=byOmega;have HF:=au (show nM p h=false by unfold nM;rw[h3];simp);subst hn0;rw[h1]at hk;unfold leB at h2;rw[Bool.or_eq_false_iff]at h2;obtain⟨h21,h22⟩:=h2;clear h1 h3 hh hl;go_enter Tryz.func162,Tryz.ntmps162;go_wp2_with ((with_reducible refine(hk _).mono ?_);rintro e w1 ⟨rfl,rfl⟩);go_ret;rw[HF.out];exact⟨rfl,by go_grown⟩
   · have e:nM p h=jG ⟨0,0,0⟩ h.vs:=(by unfold nM;rw[h1,h2];simp[h3]);rw[e];exact Yf A n c h p w hh hn h1 h2 h3
 · rw[h1]at hk;have HF:=au (show nM p h=false by unfold nM;rw[h2];simp);unfold leB at h2;clear h1;go_enter Tryz.func162,Tryz.ntmps162;go_wp2_with ((with_reducible refine(hk _).mono ?_);rintro e w1 ⟨rfl,rfl⟩);all_goals go_ret
   all_goals rw[HF.out]
   all_goals exact⟨rfl,by go_grown⟩
abbrev Pn.val (p:Pn) (r q:Value):Value:=.agg #[.int .i64 p.t.c,.int .i64 p.t.l,.int .i64 p.t.s,.int .i64 p.s.w,.int .i64 p.s.l,.int .i64 p.s.n,r,q]
def Sp.zero (s:Sp):Bool:=(s.w==0)&&(s.l==0)&&(s.n==0)
def lG:List Wt->Bool
 |[]=>true
 |a::l=>a.v.may&&lG l
def dw (p:Pn):Int:=if !p.t.may then 4 else if !p.s.may||p.s.zero then 17 else if !cu p.r|| !cu (p.w.map (·.key)) then 4 else if lG p.w then 0 else 4
theorem Yn {l:List Wt} {k:Nat} {a:Wt} (h:l[k]?=some a):lG (l.drop k)=(a.v.may&&lG (l.drop (k+1))):=by
 have h1:=List.getElem?_eq_some_iff.1 h;rw[List.drop_eq_getElem_cons h1.1,h1.2];rfl
def Yo (l:List Wt) (w:World) (i:Value) (wr:World):Prop:=∃k:Nat,k<=l.length/\i=.int .i64 (k:Int)/\lG (l.drop k)=lG l/\Below w.heap.size w wr
theorem fQ (s:Sp) (w:World):(Op.equalIn 10000 26 (.agg #[.int .i64 s.w,.int .i64 s.l,.int .i64 s.n]) (.agg #[.int .i64 0,.int .i64 0,.int .i64 0])).run Tryz.prog w=.ok s.zero w:=by
 unfold Sp.zero;cases h1:(s.w==0)<;>cases h2:(s.l==0)<;>cases h3:(s.n==0)
 all_goals simp[go_sem,h1,h2,h3]
theorem KE (p:Pn) (A1 A2:Option Addr) (n1 n2 c1 c2:Nat) (w:World) (hr:Sl aO 1 w w.heap.size A1 n1 p.r) (hw:Sl aF 4 w w.heap.size A2 n2 p.w) (hn1:n1<=maxLen) (hn2:n2<=5000000):
 Calls Tryz.prog 115 #[p.val (.slice A1 n1 c1) (.slice A2 n2 c2)] w fun e w'=>e=.returned (.int .i64 (dw p))/\Below w.heap.size w w':=by
 have ht':=fun w=>wI p.t w
 have hs':=fun w=>zS p.s w
 have zT:=fun w=>fQ p.s w
 have hB:=aj.new w 162 #[.int .i64 p.t.c,.int .i64 p.t.l,.int .i64 p.t.s,.int .i64 p.s.w,.int .i64 p.s.l,.int .i64 p.s.n,.slice A1 n1 c1,.slice A2 n2 c2];cases ht:p.t.may
 · have HF:=au (show dw p=4 by unfold dw;rw[ht];rfl);rw[ht]at ht';clear ht;go_enter Tryz.func115,Tryz.ntmps115;go_wp2_with ((with_reducible refine(ht' _).mono ?_);rintro e w1 ⟨rfl,hb1⟩);go_ret;rw[HF.out];exact⟨rfl,((aC).alloc (Nat.le_refl _) _).trans (hb1.mono aA)⟩
 rw[ht]at ht';cases hs:p.s.may
 · have HF:=au (show dw p=17 by unfold dw;rw[ht,hs];rfl);rw[hs]at hs';clear ht hs;go_enter Tryz.func115,Tryz.ntmps115;go_wp2_with (first
    |((with_reducible refine(ht' _).mono ?_);rintro e w1 ⟨rfl,hb1⟩
      have hB1:=hB.below hb1 aA;obtain⟨g1,x0,x1,x2,x3,x4,x5,x6,x7⟩:=hB1.eight)
    |((with_reducible refine(hs' _).mono ?_);rintro e w2 ⟨rfl,rfl⟩))
   go_ret;rw[HF.out];exact⟨rfl,(((aC).alloc (Nat.le_refl _) _).trans (hb1.mono aA)).alloc byOmega _⟩
 rw[hs]at hs';cases hz:p.s.zero
 · have hE:dw p=if !cu p.r|| !cu (p.w.map (·.key)) then 4 else if lG p.w then 0 else 4:=by unfold dw;rw[ht,hs,hz];rfl
   rw[hz]at zT;clear ht hs hz;cases hr1:cu p.r
   · have HF:=au (show dw p=4 by rw[hE,hr1];rfl);clear hE;go_enter Tryz.func115,Tryz.ntmps115;go_wp2_with (first
        |((with_reducible refine(ht' _).mono ?_);rintro e w1 ⟨rfl,hb1⟩
          have hB1:=hB.below hb1 aA;obtain⟨g1,x0,x1,x2,x3,x4,x5,x6,x7⟩:=hB1.eight;have hw1:Below w.heap.size w w1:=((aC).alloc (Nat.le_refl _) _).trans (hb1.mono aA))
        |((with_reducible refine(hs' _).mono ?_);rintro e w2 ⟨rfl,rfl⟩
          have hw2:Below w.heap.size w (w1.alloc (.cells p.s.arr 26)):=hw1.alloc byOmega _;have hR:=KA A1 n1 c1 p.r _ (hr.below aO.kept hw2|>.more aO.kept hw2.size) hn1;rw[hr1]at hR)
        |((with_reducible refine hR.mono ?_);rintro e w3 ⟨rfl,rfl⟩))
     go_ret;rw[HF.out];exact⟨rfl,hw2⟩
   go_enter Tryz.func115,Tryz.ntmps115;go_wp2_with (first
    |((with_reducible refine(ht' _).mono ?_);rintro e w1 ⟨rfl,hb1⟩
      have hB1:=hB.below hb1 aA;obtain⟨g1,x0,x1,x2,x3,x4,x5,x6,x7⟩:=hB1.eight;have hw1:Below w.heap.size w w1:=((aC).alloc (Nat.le_refl _) _).trans (hb1.mono aA))
    |((with_reducible refine(hs' _).mono ?_);rintro e w2 ⟨rfl,rfl⟩
      have hw2:Below w.heap.size w (w1.alloc (.cells p.s.arr 26)):=hw1.alloc byOmega _;have hR:=KA A1 n1 c1 p.r _ (hr.below aO.kept hw2|>.more aO.kept hw2.size) hn1;rw[hr1]at hR)
    |((with_reducible refine hR.mono ?_);rintro e w3 ⟨rfl,rfl⟩)
    |(go_at_call 169;fail))
   refine(Yd A2 n2 c2 p.w _ (hw.below aF.kept hw2|>.more aF.kept hw2.size) hn2).mono ?_;rintro e w4 ⟨v,rfl,ho,hb4⟩;have hw4:Below w.heap.size w w4:=hw2.trans (hb4.mono hw2.size);have hB4:=(hB1.alloc (.cells p.s.arr 26)).below hb4 ay;obtain⟨A3,n3,c3,rfl,hn3,hc3,hs3⟩:=ho.sl (ok:=fun k=>k.size<=140737488351232) byOmega AU (fun k hk=>by
    obtain⟨a,ha,rfl⟩:=List.mem_map.1 hk;obtain⟨i,hi⟩:=List.getElem?_of_mem ha;obtain⟨ad,cs,e,hb,hl,hc,hr⟩:=hw.2 i a hi;exact hr.2.1)
   have uI:=KA A3 n3 c3 _ w4 hs3 byOmega;clear x0 x1 x2 x3 x4 x5 x6 x7 hR ht' hs' zT g1;obtain⟨g1,x0,x1,x2,x3,x4,x5,x6,x7⟩:=hB4.eight;cases hr2:cu (p.w.map (·.key))
   · have HF:=au (show dw p=4 by rw[hE,hr1,hr2];rfl);rw[hr2]at uI;clear hE;go_wp2_with ((with_reducible refine uI.mono ?_);rintro e w3 ⟨rfl,rfl⟩);go_ret;rw[HF.out];exact⟨rfl,hw4⟩
   · rw[hr2]at uI;rw[hr1,hr2]at hE;have hE':dw p=if lG p.w then 0 else 4:=hE
     have HE:=au hE';clear hE hE';go_wp2_with ((with_reducible refine uI.mono ?_);rintro e w3 ⟨rfl,rfl⟩);have kD:Sl aF 4 w4 w4.heap.size A2 n2 p.w:=hw.below aF.kept hw4|>.more aF.kept hw4.size;have hl:=hw.1;have hge:n2<=p.w.length:=byOmega;have hle:p.w.length<=n2:=byOmega;clear hl hw hr x0 x1 x2 x3 x4 x5 x6 x7 hB hB1 hB4 hs3 ho uI hr1 hr2
     go_loopw [36] (fun i wr=>Yo p.w w4 i wr) (fun i _=>n2-(intOf i).toNat)
     case atStart=>exact⟨0,byOmega,rfl,rfl,aC⟩
     case round=>
        obtain⟨k,hk,rfl,hs,hb⟩:=hrel;have hzz:=hb.size;by_cases hlt:k<n2
        · obtain⟨ad,a,rfl,ha,hbk,hok,c0,c1,c2,c3⟩:=(kD.below aF.kept hb).wt hlt;have hd1:decide ((k:Int)<(n2:Int))=true:=ay;have hk0:(0:Int)<=(k:Int):=byOmega;have hk1:(k:Int)<(n2:Int):=byOmega;have hv:=fun w=>Du a.v w
          rw[Yn ha]at hs;cases hm:a.v.may
          · rw[hm]at hv hs;have HF:=au (show dw p=4 by rw[HE.out,<-hs];rfl);clear hs ha hm HE;go_wp2_with ((with_reducible refine(hv _).mono ?_);rintro e w5 ⟨rfl,hb5⟩);go_ret;rw[HF.out];exact⟨rfl,hw4.trans (Below.mono (hb.trans (((aC).alloc hzz _).trans (hb5.mono ay))) hw4.size)⟩
          · rw[hm]at hv hs;have HT:=au hs;clear hs ha hm;go_wp2_with ((with_reducible refine(hv _).mono ?_);rintro e w5 ⟨rfl,hb5⟩);go_roundw
            case rel=>exact⟨k+1,byOmega,by go_num,HT.out,hb.trans (((aC).alloc hzz _).trans (hb5.mono ay))⟩
            case measure=>simp[intOf];omega
        · have hd1:decide ((k:Int)<(n2:Int))=false:=ay;have HF:=au (show dw p=0 by rw[HE.out,<-hs,bF byOmega];rfl);clear hs HE;go_wp2;go_ret;rw[HF.out];exact⟨rfl,hw4.trans (hb.mono hw4.size)⟩
 · have HF:=au (show dw p=17 by unfold dw;rw[ht,hs,hz];rfl);rw[hz]at zT;clear ht hs hz;go_enter Tryz.func115,Tryz.ntmps115;go_wp2_with (first
    |((with_reducible refine(ht' _).mono ?_);rintro e w1 ⟨rfl,hb1⟩
      have hB1:=hB.below hb1 aA;obtain⟨g1,x0,x1,x2,x3,x4,x5,x6,x7⟩:=hB1.eight)
    |((with_reducible refine(hs' _).mono ?_);rintro e w2 ⟨rfl,rfl⟩))
   go_ret;rw[HF.out];exact⟨rfl,(((aC).alloc (Nat.le_refl _) _).trans (hb1.mono aA)).alloc byOmega _⟩
