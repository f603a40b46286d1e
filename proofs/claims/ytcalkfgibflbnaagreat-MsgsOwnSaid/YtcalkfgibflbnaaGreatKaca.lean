/- Copies held in blocks of their own; two rows whose elements read in fixed blocks below them. -/
import Derived.Test.YtcalkfgibflbnaaGreatKaab
import Derived.Test.YtcalkfgibflbnaaGreatKaaf
import Derived.Test.YtcalkfgibflbnaaGreatKaaj
import Derived.Test.YtcalkfgibflbnaaGreatKabb
import Derived.Test.YtcalkfgibflbnaaGreatKabj
namespace Go.Proofs.YtcalkfgibflbnaaGreat
set_option linter.unusedVariables false
open Go.RowKit Fl
attribute [local go_sem] run_store_float
def CopySLow (s:Stt) (w:World):Ending→World→Prop:=fun e w'=>∃B1 m1 d1 B2 m2 d2,e=.returned (.agg (s.arr (.slice B1 m1 d1) (.slice B2 m2 d2)))∧m1≤d1∧d1≤maxLen∧Sl HsRel 2 (only (rng w.heap.size w'.heap.size) w') w'.heap.size B1 m1 s.h∧m2≤d2∧d2≤maxLen∧Sl PnRel 8 (only (rng w.heap.size w'.heap.size) w') w'.heap.size B2 m2 s.p∧Below w.heap.size w w'
set_option maxRecDepth 100000 in
set_option maxHeartbeats 4000000 in
theorem copyS_low (s:Stt) (A1 A2:Option Addr) (n1 n2 c1 c2:Nat) (w:World) (h1:Sl HsRel 2 w w.heap.size A1 n1 s.h) (h2:Sl PnRel 8 w w.heap.size A2 n2 s.p) (hH:SmallH s.h) (hQ:SmallP s.p):
 Calls Tryz.prog 27 #[.agg (s.arr (.slice A1 n1 c1) (.slice A2 n2 c2))] w (CopySLow s w):=by
 have hX:Below w.heap.size w ((w.alloc (.cells (s.arr (.slice A1 n1 c1) (.slice A2 n2 c2)) 39)).alloc (.cells zeroSt 39)):=by go_grown
 have i1:Blk ((w.alloc (.cells (s.arr (.slice A1 n1 c1) (.slice A2 n2 c2)) 39)).alloc (.cells zeroSt 39)) w.heap.size 39 (s.arr (.slice A1 n1 c1) (.slice A2 n2 c2)):=(Blk.new _ _ _).alloc _
 have i2:Blk ((w.alloc (.cells (s.arr (.slice A1 n1 c1) (.slice A2 n2 c2)) 39)).alloc (.cells zeroSt 39)) (w.heap.size+1) 39 zeroSt:=Blk.new' _ _ (by simp)
 have hT:=fun w' (hb:Below w.heap.size w w')=>copyHs_any A1 n1 c1 s.h w' ((h1.below HsRel.kept hb).more HsRel.kept hb.size) hH
 have hW:=fun w' (hb:Below w.heap.size w w')=>copyPs_any A2 n2 c2 s.p w' ((h2.below PnRel.kept hb).more PnRel.kept hb.size) hQ
 go_enter Tryz.func27,Tryz.ntmps27
 go_wp2
 generalize ((w.alloc (.cells (s.arr (.slice A1 n1 c1) (.slice A2 n2 c2)) 39)).alloc (.cells zeroSt 39))=w0 at*
 have l1:=i1.lt
 have l2:=i2.lt
 refine wp_region_held_drew (S:=fun w'=>Blk w' w.heap.size 39 (s.arr (.slice A1 n1 c1) (.slice A2 n2 c2))) (by kernel_rfl) i1.drew (fun hHeld=>?_)
 refine tc 0 3 ?_
 go_frame
 refine wpAnyH_take (i:=1) (oi:=⟨some 4,_,_,_,_,_⟩) rfl (by kernel_rfl) (by kernel_rfl) (by kernel_rfl) (fun _ _ _ h=>h) (yieldsIf_load_mid (by kernel_rfl) _ _ rfl w.heap.size 0 rfl [.int .i64 s.r.id,.int .i64 s.r.ep,.float .f64 s.r.lo,.float .f64 s.r.hi] _ (fun W hSw=>Blk.range hSw 0 _ (four_of rfl rfl rfl rfl)) rfl rfl (by kernel_rfl)) hHeld ?_
 go_frame
 refine tc 2 5 ?_
 go_frame
 refine wpAnyH_take (i:=3) (oi:=⟨some 6,_,_,_,_,_⟩) rfl (by kernel_rfl) (by kernel_rfl) (by kernel_rfl) (fun _ _ _ h=>h) (yieldsIf_load_mid (by kernel_rfl) _ _ rfl w.heap.size 4 rfl [.int .i64 s.f.w,.int .i64 s.f.l,.int .i64 s.f.n] _ (fun W hSw=>Blk.range hSw 4 _ (three_of rfl rfl rfl)) rfl rfl (by kernel_rfl)) hHeld ?_
 go_frame
 refine tc 4 7 ?_
 go_frame
 refine wpAnyH_take (i:=5) (oi:=⟨some 8,_,_,_,_,_⟩) rfl (by kernel_rfl) (by kernel_rfl) (by kernel_rfl) (fun _ _ _ h=>h) (yieldsIf_load_mid (by kernel_rfl) _ _ rfl w.heap.size 7 rfl [.int .i64 s.c.w,.int .i64 s.c.l,.int .i64 s.c.n] _ (fun W hSw=>Blk.range hSw 7 _ (three_of rfl rfl rfl)) rfl rfl (by kernel_rfl)) hHeld ?_
 go_frame
 refine tc 6 9 ?_
 go_frame
 refine ts 7 10 rfl (v:=.slice A1 n1 c1) (fun W hSw=>by have z:W.cell? ⟨w.heap.size,10,none⟩=some (.slice A1 n1 c1):=Blk.cell hSw 10;clear hSw;go_simp) ?_
 go_frame
 refine tc 9 12 ?_
 go_frame
 refine ts 10 13 rfl (v:=.slice A2 n2 c2) (fun W hSw=>by have z:W.cell? ⟨w.heap.size,11,none⟩=some (.slice A2 n2 c2):=Blk.cell hSw 11;clear hSw;go_simp) ?_
 go_frame
 refine tr 8 rfl fun K hK=>?_
 go_simp
 refine(hT _ hX.drew).mono ?_
 rintro e w3 ⟨v3,rfl,o3,hb3⟩
 have j1:=i1.drew.below hb3 l1
 have j2:=i2.drew.below hb3 l2
 have hY:Below w.heap.size w w3:=hX.drew.trans (hb3.mono hX.size)
 have o3:Pair HsRel 158 2 w0.heap.size w3 v3 (.slice none 0 0) s.h []:=o3
 have hz0:w0.heap.size≤w3.heap.size:=hb3.size
 obtain⟨A3,q3,rfl,hq3,hq3m⟩:=o3.form1
 clear hb3 i1 i2 hHeld
 refine hK.out _ _ j1 (fun hHeld=>?_)
 clear hK K
 try go_frame
 refine tr 11 rfl fun K hK=>?_
 go_simp
 refine(hW _ hY).mono ?_
 rintro e w4 ⟨v4,rfl,o4,hb4⟩
 have k1:=j1.below hb4 j1.lt
 have k2:=j2.below hb4 j2.lt
 have hZ:Below w.heap.size w w4:=hY.trans (hb4.mono hY.size)
 have hz3:=j2.lt
 have o4:Pair PnRel 162 8 w3.heap.size w4 v4 (.slice none 0 0) s.p []:=o4
 have o3:=o3.below HsRel.kept HsRel.mono hb4
 obtain⟨A4,q4,rfl,hq4,hq4m⟩:=o4.form1
 clear hb4 j1 j2 hHeld
 refine hK.out _ _ k1 (fun hHeld=>?_)
 clear hK K
 try go_frame
 refine tc 12 15 ?_
 go_frame
 refine wpAnyH_store_rowE (i:=13) (by kernel_rfl) rfl rfl _ _ _ rfl (w.heap.size+1) (s.arr (.slice A3 s.h.length q3) (.slice A4 s.p.length q4)) (by kernel_rfl) (by kernel_rfl) _ _ k2 (by kernel_rfl) rfl (by kernel_rfl) (k1.setRow_far _ (by omega)) ?_
 intro w5 hw5
 go_frame
 refine td ?_
 go_wp2
 refine post_cell rfl (by kernel_rfl) (by rw[hw5];exact k2.setRow _) rfl rfl (by kernel_rfl) ?_
 have hs5:w5.heap.size=w4.heap.size:=by rw[hw5,size_setRow]
 have hk5:∀k,w.heap.size+2≤k→w5.heap[k]?=w4.heap[k]?:=fun k hk=>by rw[hw5];exact setRow_other _ _ _ _ (by omega)
 have hz5:w5.heap.size≤w5.heap.size:=Nat.le_refl _
 have r3:=(o3.same (w':=w5) HsRel.kept HsRel.mono (by omega) (fun k hk _=>hk5 k (by omega))).1.held (K':=rng w.heap.size w5.heap.size) HsRel.mono (by omega) (fun k hk=>by rw[freeB_iff]at hk;rw[rng_iff];omega) (fun k hk=>rng_iff.2 (by have:=(o3.1.lt k hk);omega))
 have r4:=(o4.same (w':=w5) PnRel.kept PnRel.mono (by omega) (fun k hk _=>hk5 k (by omega))).1.held (K':=rng w.heap.size w5.heap.size) PnRel.mono (by omega) (fun k hk=>by rw[freeB_iff]at hk;rw[rng_iff];omega) (fun k hk=>rng_iff.2 (by have:=(o4.1.lt k hk);omega))
 rw[hw5]at r3 r4
 obtain⟨_,_,_,e3,-,-,r3⟩:=r3
 obtain⟨_,_,_,e4,-,-,r4⟩:=r4
 injection e3 with a1 a2 a3
 injection e4 with b1 b2 b3
 subst a1 a2 a3 b1 b2 b3
 rw[hw5]
 exact⟨_,_,_,_,_,_,rfl,hq3,hq3m,r3,hq4,hq4m,r4,below_setRow hZ (by omega) _⟩
def PairK {α:Type} (R:Rel α) (E size base:Nat) (K:Nat→Bool) (w:World) (v1 v2:Value) (l1 l2:List α):Prop:=
 RowR R E size base K w v1 l1∧RowR R E size base K w v2 l2∧Dis v1 v2
section
variable {α:Type} {R:Rel α} {E size base:Nat} {K:Nat→Bool} {w w':World} {v1 v2:Value} {l1 l2:List α}
theorem PairK.nil (w:World):PairK R E size base K w (.slice none 0 0) (.slice none 0 0) [] []:=⟨RowR.nil _,RowR.nil _,Dis.nil _⟩
theorem PairK.symm (h:PairK R E size base K w v1 v2 l1 l2):PairK R E size base K w v2 v1 l2 l1:=⟨h.2.1,h.1,h.2.2.symm⟩
theorem PairK.keep (hR:R.Kept) (h:PairK R E size base K w v1 v2 l1 l2) (hs:w.heap.size≤w'.heap.size) (hb:∀k,base≤k→k<w.heap.size→w'.heap[k]?=w.heap[k]?) (hK:∀k,K k=true→w'.heap[k]?=w.heap[k]?):PairK R E size base K w' v1 v2 l1 l2:=
 ⟨h.1.keep2 hR hs hb hK,h.2.1.keep2 hR hs hb hK,h.2.2⟩
theorem PairK.below (hR:R.Kept) (h:PairK R E size base K w v1 v2 l1 l2) (hb:Below w.heap.size w w') (hK:∀k,K k=true→k<w.heap.size):PairK R E size base K w' v1 v2 l1 l2:=
 h.keep hR hb.size (fun k _ hk=>hb.block k hk) fun k hk=>hb.block k (hK k hk)
theorem PairK.far (hR:R.Kept) (h:PairK R E size base K w v1 v2 l1 l2) {p:Addr} (hp:p.block<base) (hpK:∀k,K k=true→k≠p.block) (u:Value):PairK R E size base K (w.setCell p u) v1 v2 l1 l2:=
 h.keep hR (by simp[World.setCell]) (fun k hk _=>Below.heap_setCell _ _ _ _ (by omega)) fun k hk=>Below.heap_setCell _ _ _ _ (hpK k hk)
theorem PairK.ne1 (h:PairK R E size base K w v1 v2 l1 l2) {g:Nat} (hg:g<base):some g≠v1.ownBlock:=fun e=>by have:=(h.1.lt g e.symm).1;omega
theorem PairK.own1 (hR:R.Kept) (h:PairK R E size base K w v1 v2 l1 l2) (hK:∀k,K k=true→k<base) (hbs:base≤w.heap.size):∃xs,w.ownsRow base E size v1 l1.length xs∧
 ∀(cs:List Value) (a:α) (w':World) (v':Value),cs.length=size→Inn R K w cs a→w'.ownsRow base E size v' (l1.length+1) (xs++cs)→w.grownBy w' v1.ownBlock→(v'.ownBlock=v1.ownBlock∨v'.ownBlock=some w.heap.size)→
  PairK R E size base K w' v' v2 (l1++[a]) l2:=by
 obtain⟨xs,ho,hp⟩:=h.1.own hR hK hbs
 refine⟨xs,ho,fun cs a w' v' hcs hin hown hg hat=>⟨hp cs a w' v' hcs hin hown hg,?_,?_⟩⟩
 · obtain⟨ds,ho2,hlen2,hl2,hc2⟩:=h.2.1
   refine⟨ds,ho2.kept hg ?_,hlen2,hl2,fun i cs a h1 h2=>(hc2 i cs a h1 h2).keep hR (fun k hk=>hg.block k (by have:=hK k hk;omega) (fun e=>by have:=(h.1.lt k e.symm).1;have:=hK k hk;omega)) hg.size⟩
   cases e:v2.ownBlock with
   |none=>exact .inl rfl
   |some k=>exact .inr fun e2=>h.2.2 k e2.symm e
 · intro k e e2
   rcases hat with e3|e3
   · exact h.2.2 k (e3.symm.trans e) e2
   · have:=(h.2.1.lt k e2).2
     rw[e3]at e;injection e;omega
end
end Go.Proofs.YtcalkfgibflbnaaGreat
/- Lists held in blocks of a call's own; boxes of a copy under way; CopyInts, CopySeen. -/
namespace Go.Proofs.YtcalkfgibflbnaaGreat
set_option maxHeartbeats 4000000
set_option maxRecDepth 100000
set_option linter.unusedVariables false
open Go.RowKit Fl
attribute [local go_sem] run_store_float
theorem SnRel.mono:(SnRel).Mono:=Flat.mono _ _
theorem RgRel.mono:(RgRel).Mono:=Flat.mono _ _
theorem RcLo.mono {w w':World} {B:Nat} {r:Rc} {h:Hds} (i:RcLo w B r h) (hk:∀p u,p.block<B→w.cell? p=some u→w'.cell? p=some u):RcLo w' B r h:=
 ⟨i.rd.mono KyRel.mono hk,i.wr.mono WtRel.mono hk,i.ps.mono NmRel.mono hk,i.pr.mono WtRel.mono hk,i.hs.mono HsRel.mono hk,i.pn.mono PnRel.mono hk,i.na,i.nb,i.nc,i.nd,i.ne,i.nf⟩
theorem RmRel.mono:(RmRel).Mono:=fun w w' B cs r ⟨h,e,o,c,i⟩ hk=>⟨h,e,o,c,i.mono hk⟩
theorem HdRel.hd {α:Type} {R:Rel α} {size:Nat} {w:World} {B:Nat} {A:Option Addr} {n c:Nat} {l:List α} (h:HdRel R size w B (.slice A n c) l):Sl R size w B A n l∧n≤c∧c≤maxLen:=by
 obtain⟨A',n',c',e,h1,h2,h3⟩:=h
 injection e with a1 a2 a3
 subst a1 a2 a3
 exact⟨h3,h1,h2⟩
def Lst {α:Type} (R:Rel α) (size S:Nat) (w:World) (v:Value) (l:List α):Prop:=HdRel R size (only (rng S w.heap.size) w) w.heap.size v l
section
variable {α:Type} {R:Rel α} {f:α→List Value} {ok:α→Prop} {size S b E n:Nat} {w w':World} {v:Value} {l:List α}
theorem Lst.keep (hR:R.Kept) (hRm:R.Mono) (h:Lst R size S w v l) (hb:∀j,S≤j→j<w.heap.size→w'.heap[j]?=w.heap[j]?) (hs:w.heap.size≤w'.heap.size):Lst R size S w' v l:=
 ((HdRel.stay (w':=w') hR h fun k hk=>by rw[rng_iff]at hk;exact hb k hk.1 hk.2).more hR hs).mono hRm fun p u _ hc=>by
   obtain⟨hk,hw⟩:=only_cell hc
   rw[rng_iff]at hk
   rw[only_cell_in (rng_iff.2 ⟨hk.1,Nat.lt_of_lt_of_le hk.2 hs⟩)]
   exact hw
theorem Lst.below (hR:R.Kept) (hRm:R.Mono) (h:Lst R size S w v l) (hb:Below w.heap.size w w'):Lst R size S w' v l:=h.keep hR hRm (fun j _ hj=>hb.block j hj) hb.size
theorem Lst.set (hR:R.Kept) (hRm:R.Mono) (h:Lst R size S w v l) {p:Addr} (hp:p.block<S) (u:Value):Lst R size S (w.setCell p u) v l:=
 h.keep hR hRm (fun j hj _=>Below.heap_setCell _ _ _ _ (by omega)) (by simp)
theorem Lst.own (hk:0<size) (hf:∀a,(f a).length=size) (h:OwnL f E size b w v l) (hok:∀a∈l,ok a) (hS:S≤b):Lst (Flat f ok) size S w v l:=OwnL.inn hk hf h hok fun k h1 h2=>rng_iff.2 ⟨by omega,h2⟩
theorem Lst.wide (hRm:R.Mono) (h:HdRel R size (only (rng b n) w) w.heap.size v l) (hS:S≤b) (hn:n≤w.heap.size):Lst R size S w v l:=
 h.mono hRm fun p u _ hc=>by
  obtain⟨hk,hw⟩:=only_cell hc
  rw[rng_iff]at hk
  rw[only_cell_in (rng_iff.2 ⟨by omega,by omega⟩)]
  exact hw
theorem Lst.single (hRm:R.Mono) (hsz:0<size) (h:Single R E size b w v l) (hS:S≤b):Lst R size S w v l:=Lst.wide hRm (Pair.held hRm hsz h).1 hS (Nat.le_refl _)
theorem Lst.sl (hR:R.Kept) (hRm:R.Mono) (h:Lst R size S w v l):HdRel R size w w.heap.size v l:=HdRel.out hR hRm h (Nat.le_refl _)
end
structure CpS (w W:World) (t:TypeId) (p z cells:Array Value):Prop where
 k1:Blk W w.heap.size t p
 k2:Blk W (w.heap.size+1) t z
 k3:Blk W (w.heap.size+1+1) t cells
 kb:Below w.heap.size w W
 ks:w.heap.size+1+1+1≤W.heap.size
section
variable {w W W':World} {t:TypeId} {p z cells:Array Value}
theorem CpS.call (h:CpS w W t p z cells) (hb:Below W.heap.size W W'):CpS w W' t p z cells:=
 ⟨h.k1.below hb h.k1.lt,h.k2.below hb h.k2.lt,h.k3.below hb h.k3.lt,h.kb.trans (hb.mono h.kb.size),Nat.le_trans h.ks hb.size⟩
theorem CpS.set (h:CpS w W t p z cells) (o:Nat) (v:Value):CpS w (W.setCell ⟨w.heap.size+1+1,o,none⟩ v) t p z (cells.setIfInBounds o v):=
 ⟨h.k1.far (p:=⟨w.heap.size+1+1,o,none⟩) (by simp only;omega) v,h.k2.far (p:=⟨w.heap.size+1+1,o,none⟩) (by simp) v,h.k3.set_ o v,h.kb.setCell (p:=⟨w.heap.size+1+1,o,none⟩) (by simp only;omega) v,by simp;exact h.ks⟩
theorem CpS.grown (h:CpS w W t p z cells) {q:Option Nat} (hg:W.grownBy W' q) (hq:∀k,q=some k→w.heap.size+1+1+1≤k):CpS w W' t p z cells:=
 have h0:∀k,k<w.heap.size+1+1+1→q≠some k:=fun k hk e=>by have:=hq k e;omega
 ⟨h.k1.grown hg (h0 _ (by omega)).symm,h.k2.grown hg (h0 _ (by omega)).symm,h.k3.grown hg (h0 _ (by omega)).symm,h.kb.grown hg (by have:=h.ks;omega) (fun k hk=>by have:=hq k hk;omega),Nat.le_trans h.ks hg.size⟩
end
theorem nm_info:(Tryz.prog.info? 3).map (fun i=>(i.zero,i.size,i.bytes))=some (some (.int .i64 0),1,8):=by kernel_rfl
theorem sn_info:(Tryz.prog.info? 104).map (fun i=>(i.zero,i.size,i.bytes))=some (some (.agg #[.string ⟨#[]⟩,.int .i64 0,.float .f64 0,.string ⟨#[]⟩,.int .i64 0,.int .i64 0,.int .i64 0]),7,72):=by kernel_rfl
theorem sn_one (a:Sn):∀u∈a.cells,u.oneCell'=true:=by
 intro u hu
 simp only[Sn.cells,List.mem_cons,List.not_mem_nil,or_false]at hu
 rcases hu with rfl|rfl|rfl|rfl|rfl|rfl|rfl<;>rfl
theorem ints_any (A:Option Addr) (n c:Nat) (l:List Int) (w:World) (h:Sl NmRel 1 w w.heap.size A n l) (hn:n≤1000000):
 Calls Tryz.prog 25 #[.slice A n c] w fun e w'=>∃v,e=.returned v∧OwnL nmCells 3 1 w.heap.size w' v l∧Below w.heap.size w w':=by
 obtain⟨i0,hi0,hz0,hz1,hz2⟩:=info_parts nm_info
 have hl:=h.1
 have hle:l.length≤n:=by omega
 have hge:n≤l.length:=by omega
 clear hl
 go_enter Tryz.func25,Tryz.ntmps25
 go_wp2
 go_loopw [3,4] (fun v i wr=>CopyRel nmCells 3 1 l w v i wr) (fun _ i _=>n-(intOf i).toNat)
 case atStart=>exact⟨0,by omega,rfl,OwnL.nil _,Below.refl _ _⟩
 case round=>
  obtain⟨k,hk,rfl,ho,hb⟩:=hrel
  have hzz:=hb.size
  by_cases hlt:k<n
  · obtain⟨ad,a,rfl,ha,hbk,hok,c0⟩:=(h.below NmRel.kept hb).nm hlt
    have hd1:decide ((k:Int)<(n:Int))=true:=by simp;omega
    have hk0:(0:Int)≤(k:Int):=by omega
    have hk1:(k:Int)<(n:Int):=by omega
    have HS:=Lib.hid (show l.take (k+1)=l.take k++[a] by rw[List.take_add_one,ha];rfl)
    have hln:(l.take k).length≤1000000:=by simp;omega
    clear ha
    obtain⟨A1,q1,rfl,hq1,hq1m⟩:=ho.form
    generalize l.take k=ks at*
    have hX:Below wr.heap.size wr (wr.alloc (.cells (nmCells a).toArray 3)):=(Below.refl _ _).alloc (Nat.le_refl _) _
    have hown0:=ho.below hX
    have hrd0:=reads_new' wr 3 (nmCells a) 1 rfl
    go_wp2_with (first
        |(at_builtin
          refine wpList_append_any _ rfl (.tmp 11) (.tmp 16) _ rfl w.heap.size 3 i0 _ 1 8 Tryz.underlying30 hi0 hz0 hz1 hz2 rfl (by omega) (.slice A1 ks.length q1) _ (ks.flatMap nmCells) (by rfl) hown0 _ (some ⟨wr.heap.size,0,none⟩) 1 1 (nmCells a) (by rfl)
           hrd0 (nm_one a) (by unfold maxLen;omega) (by omega) (by simp;omega) ?_
          intro v3 w3 hown3 hg3 hat3
          obtain⟨A3,q3,rfl,hq3,hq3m⟩:=own_form hown3))
    have hp:=OwnL.push a hown3
    have hbw:=(hb.trans (hX.mono hzz)).grown hg3 (by simp;omega) (fun q hq=>(hown0.lt q hq).1)
    go_roundw
    case rel=>
        refine⟨k+1,by omega,by go_num,?_,hbw⟩
        rw[HS.out]
        exact hp
    case measure=>simp[intOf];omega
  · have hd1:decide ((k:Int)<(n:Int))=false:=by simp;omega
    rw[List.take_of_length_le (by omega)]at ho
    obtain⟨A1,q1,rfl,hq1,hq1m⟩:=ho.form
    go_wp2
    go_ret
    exact⟨_,rfl,ho,hb⟩
theorem copySn_any (A:Option Addr) (n c:Nat) (l:List Sn) (w:World) (h:Sl SnRel 7 w w.heap.size A n l) (hn:n≤1000000):
 Calls Tryz.prog 23 #[.slice A n c] w fun e w'=>∃v,e=.returned v∧OwnL Sn.cells 104 7 w.heap.size w' v l∧Below w.heap.size w w':=by
 obtain⟨i0,hi0,hz0,hz1,hz2⟩:=info_parts sn_info
 have hl:=h.1
 have hle:l.length≤n:=by omega
 have hge:n≤l.length:=by omega
 clear hl
 go_enter Tryz.func23,Tryz.ntmps23
 go_wp2
 go_loopw [3,4] (fun v i wr=>CopyRel Sn.cells 104 7 l w v i wr) (fun _ i _=>n-(intOf i).toNat)
 case atStart=>exact⟨0,by omega,rfl,OwnL.nil _,Below.refl _ _⟩
 case round=>
  obtain⟨k,hk,rfl,ho,hb⟩:=hrel
  have hzz:=hb.size
  by_cases hlt:k<n
  · obtain⟨ad,a,rfl,ha,hbk,hok,c0,c1,c2,c3,c4,c5,c6⟩:=(h.below SnRel.kept hb).sn hlt
    have hd1:decide ((k:Int)<(n:Int))=true:=by simp;omega
    have hk0:(0:Int)≤(k:Int):=by omega
    have hk1:(k:Int)<(n:Int):=by omega
    have HS:=Lib.hid (show l.take (k+1)=l.take k++[a] by rw[List.take_add_one,ha];rfl)
    have hln:(l.take k).length≤1000000:=by simp;omega
    clear ha
    obtain⟨A1,q1,rfl,hq1,hq1m⟩:=ho.form
    generalize l.take k=ks at*
    have hX:Below wr.heap.size wr (wr.alloc (.cells a.cells.toArray 104)):=(Below.refl _ _).alloc (Nat.le_refl _) _
    have hown0:=ho.below hX
    have hrd0:=reads_new' wr 104 a.cells 7 rfl
    go_wp2_with (first
        |(at_builtin
          refine wpList_append_any _ rfl (.tmp 11) (.tmp 16) _ rfl w.heap.size 104 i0 _ 7 72 Tryz.underlying28 hi0 hz0 hz1 hz2 rfl (by omega) (.slice A1 ks.length q1) _ (ks.flatMap Sn.cells) (by rfl) hown0 _ (some ⟨wr.heap.size,0,none⟩) 1 1 a.cells (by rfl)
           hrd0 (sn_one a) (by unfold maxLen;omega) (by omega) (by simp;omega) ?_
          intro v3 w3 hown3 hg3 hat3
          obtain⟨A3,q3,rfl,hq3,hq3m⟩:=own_form hown3))
    have hp:=OwnL.push a hown3
    have hbw:=(hb.trans (hX.mono hzz)).grown hg3 (by simp;omega) (fun q hq=>(hown0.lt q hq).1)
    go_roundw
    case rel=>
        refine⟨k+1,by omega,by go_num,?_,hbw⟩
        rw[HS.out]
        exact hp
    case measure=>simp[intOf];omega
  · have hd1:decide ((k:Int)<(n:Int))=false:=by simp;omega
    rw[List.take_of_length_le (by omega)]at ho
    obtain⟨A1,q1,rfl,hq1,hq1m⟩:=ho.form
    go_wp2
    go_ret
    exact⟨_,rfl,ho,hb⟩
end Go.Proofs.YtcalkfgibflbnaaGreat
