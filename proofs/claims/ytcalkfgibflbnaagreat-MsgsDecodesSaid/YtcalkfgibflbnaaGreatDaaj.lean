/- The walk of a coder that writes a record. -/
import Derived.Test.YtcalkfgibflbnaaGreatDaag
import Derived.Test.YtcalkfgibflbnaaGreatDaai
namespace Go.Proofs.YtcalkfgibflbnaaGreat
set_option maxHeartbeats 4000000
set_option maxRecDepth 100000
set_option linter.unusedVariables false
open Go.RowKit Fl
attribute [local go_sem] run_store_float
theorem setCell_same {w:World} {g i:Nat} {t:TypeId} {cs:Array Value} {v:Value} (h:Blk w g t cs) (hv:cs[i]?=some v):w.setCell ⟨g,i,none⟩ v=w:=by
 have e:cs.setIfInBounds i v=cs:=by
  apply Array.ext_getElem?
  intro j
  rw[Array.getElem?_setIfInBounds]
  split
  · rename_i hij
    subst hij
    split
    · exact hv.symm
    · rename_i hlt;rw[Array.getElem?_eq_none (by omega)]
  · rfl
 have hh:(w.setCell ⟨g,i,none⟩ v).heap=w.heap:=by
  apply Array.ext_getElem?
  intro j
  by_cases hj:j=g
  · subst hj
    rw[heap_setCell_same w j i cs t v h,e]
    exact h.symm
  · exact Below.heap_setCell _ _ _ _ hj
 have e2:w.setCell ⟨g,i,none⟩ v={w with heap:=(w.setCell ⟨g,i,none⟩ v).heap}:=rfl
 rw[e2,hh]
theorem setCells3_same {w:World} {g o:Nat} {t:TypeId} {cs:Array Value} {x y z:Value} (h:Blk w g t cs) (h1:cs[o]?=some x) (h2:cs[o+1]?=some y) (h3:cs[o+2]?=some z):w.setCells g o [x,y,z]=w:=by
 show ((w.setCell ⟨g,o,none⟩ x).setCell ⟨g,o+1,none⟩ y).setCell ⟨g,o+2,none⟩ z=w
 rw[setCell_same h h1,setCell_same h h2,setCell_same h h3]
structure Hds.caps (h:Hds):Prop where
 a:h.a.n≤h.a.c∧h.a.c≤maxLen
 b:h.b.n≤h.b.c∧h.b.c≤maxLen
 c:h.c.n≤h.c.c∧h.c.c≤maxLen
 d:h.d.n≤h.d.c∧h.d.c≤maxLen
 e:h.e.n≤h.e.c∧h.e.c≤maxLen
 f:h.f.n≤h.f.c∧h.f.c≤maxLen
structure RcLo (w:World) (B:Nat) (r:Rc) (h:Hds):Prop where
 rd:Sl KyRel 1 w B h.a.A h.a.n r.rd
 wr:Sl WtRel 4 w B h.b.A h.b.n r.wr
 ps:Sl NmRel 1 w B h.c.A h.c.n r.ps
 pr:Sl WtRel 4 w B h.d.A h.d.n r.pr
 hs:Sl HsRel 2 w B h.e.A h.e.n r.st.h
 pn:Sl PnRel 8 w B h.f.A h.f.n r.st.p
 na:h.a.n≤maxLen
 nb:h.b.n≤maxLen
 nc:h.c.n≤maxLen
 nd:h.d.n≤maxLen
 ne:h.e.n≤maxLen
 nf:h.f.n≤maxLen
theorem RcLo.below {w w':World} {B:Nat} {r:Rc} {h:Hds} (i:RcLo w B r h) (hb:Below B w w'):RcLo w' B r h:=
 ⟨i.rd.below KyRel.kept hb,i.wr.below WtRel.kept hb,i.ps.below NmRel.kept hb,i.pr.below WtRel.kept hb,i.hs.below HsRel.kept hb,i.pn.below PnRel.kept hb,i.na,i.nb,i.nc,i.nd,i.ne,i.nf⟩
theorem RcLo.of {w:World} {r:Rc} {h:Hds} (i:RcIn w r h):RcLo w w.heap.size r h:=⟨i.rd,i.wr,i.ps,i.pr,i.hs,i.pn,i.na,i.nb,i.nc,i.nd,i.ne,i.nf⟩
theorem RcLo.more {w:World} {B B':Nat} {r:Rc} {h:Hds} (i:RcLo w B r h) (hb:B≤B'):RcLo w B' r h:=
 ⟨i.rd.more KyRel.kept hb,i.wr.more WtRel.kept hb,i.ps.more NmRel.kept hb,i.pr.more WtRel.kept hb,i.hs.more HsRel.kept hb,i.pn.more PnRel.kept hb,i.na,i.nb,i.nc,i.nd,i.ne,i.nf⟩
theorem walk_1 (r:Rc) (h:Hds) (w:World) (B g:Nat) (v:Value) (bs:List UInt8) (gc gr:Nat) (hk:r.k=1) (hc:CW w B g v bs gc) (hp:Apt w g v gr) (hb:Blk w gr 69 (r.vals h)) (ok:r.ok) (i:RcLo w B r h) (cp:h.caps)
 (hlen:bs.length+(encRc r).length+10≤1000000000000):
 Calls Tryz.prog 159 #[.pointer (some ⟨gc,0,none⟩),.pointer (some ⟨gr,0,none⟩)] w (CPost w B g v bs gc (encRc r)):=by
 have hE:encRc r=encI r.k++(encSt r.st):=by unfold encRc encBody;simp[hk]
 rw[hE]at hlen ⊢
 simp only[List.length_append]at hlen
 have hA:=At.blk hb
 clear hE
 obtain⟨k,t,s,pv,cm,n,pt,rd,wr,ps,pr,st⟩:=r
 change k=1 at hk
 subst hk
 have A0:At w ⟨gr,17,none⟩ [.int .i64 st.r.id,.int .i64 st.r.ep,.float .f64 st.r.lo,.float .f64 st.r.hi,.int .i64 st.f.w,.int .i64 st.f.l,.int .i64 st.f.n,.int .i64 st.c.w,.int .i64 st.c.l,.int .i64 st.c.n,h.e.v,h.f.v]:=hA.sub (a:=[_,_,_,_,_,_,_,_,_,_,_,_,_,_,_,_,_]) (b:=[_,_,_,_,_,_,_,_,_,_,_,_]) (c:=[])
 go_enter Tryz.func159,Tryz.ntmps159
 go_wp2_with fail
 refine(wcInt 1 w B g v bs gc ⟨gr,0,none⟩ _ hc hp rfl (hA.sub (a:=[]) (b:=[_])) ⟨rfl,by unfold i64ok;omega⟩ (by omega)).mono ?_
 rintro e w1 ⟨rfl,v1,hc1,hf1⟩
 have hp1:=hf1.apt hp
 have hb1:Blk w1 gr 69 _:=(hf1.heap hp).trans hb
 have c0:=cl (hb1.cell 0)
 replace i:=i.below (hc.lo hf1)
 replace A0:=hf1.at_ (p:=⟨gr,17,none⟩) hp A0
 go_wp2_with fail
 refine(wcState st w1 B g v1 _ gc ⟨gr,17,none⟩ _ hc1 hp1 rfl A0 ⟨_,_,rfl,ok.rg,ok.fl,ok.cl,⟨_,_,_,rfl,cp.e.1,cp.e.2,i.hs⟩,_,_,_,rfl,cp.f.1,cp.f.2,i.pn⟩ (by simp only[List.length_append];omega)).mono ?_
 rintro e w2 ⟨rfl,v2,hc2,hf2⟩
 go_wp2
 go_end0
 refine⟨rfl,v2,?_,(hf1).trans hf2⟩
 simpa only[List.append_assoc] using hc2
theorem walk_2 (r:Rc) (h:Hds) (w:World) (B g:Nat) (v:Value) (bs:List UInt8) (gc gr:Nat) (hk:r.k=2) (hc:CW w B g v bs gc) (hp:Apt w g v gr) (hb:Blk w gr 69 (r.vals h)) (ok:r.ok) (i:RcLo w B r h) (cp:h.caps)
 (hlen:bs.length+(encRc r).length+10≤1000000000000):
 Calls Tryz.prog 159 #[.pointer (some ⟨gc,0,none⟩),.pointer (some ⟨gr,0,none⟩)] w (CPost w B g v bs gc (encRc r)):=by
 have hE:encRc r=encI r.k++(encI r.n):=by unfold encRc encBody;simp[hk]
 rw[hE]at hlen ⊢
 simp only[List.length_append]at hlen
 have hA:=At.blk hb
 clear hE
 obtain⟨k,t,s,pv,cm,n,pt,rd,wr,ps,pr,st⟩:=r
 change k=2 at hk
 subst hk
 have A0:At w ⟨gr,11,none⟩ (nmCells n):=hA.sub (a:=[_,_,_,_,_,_,_,_,_,_,_]) (b:=[_]) (c:=[_,_,_,_,_,_,_,_,_,_,_,_,_,_,_,_,_])
 go_enter Tryz.func159,Tryz.ntmps159
 go_wp2_with fail
 refine(wcInt 2 w B g v bs gc ⟨gr,0,none⟩ _ hc hp rfl (hA.sub (a:=[]) (b:=[_])) ⟨rfl,by unfold i64ok;omega⟩ (by omega)).mono ?_
 rintro e w1 ⟨rfl,v1,hc1,hf1⟩
 have hp1:=hf1.apt hp
 have hb1:Blk w1 gr 69 _:=(hf1.heap hp).trans hb
 have c0:=cl (hb1.cell 0)
 replace i:=i.below (hc.lo hf1)
 replace A0:=hf1.at_ (p:=⟨gr,11,none⟩) hp A0
 go_wp2_with fail
 refine(wcInt n w1 B g v1 _ gc ⟨gr,11,none⟩ _ hc1 hp1 rfl A0 ⟨rfl,ok.n⟩ (by simp only[List.length_append];omega)).mono ?_
 rintro e w2 ⟨rfl,v2,hc2,hf2⟩
 go_wp2
 go_end0
 refine⟨rfl,v2,?_,(hf1).trans hf2⟩
 simpa only[List.append_assoc] using hc2
theorem walk_4 (r:Rc) (h:Hds) (w:World) (B g:Nat) (v:Value) (bs:List UInt8) (gc gr:Nat) (hk:r.k=4) (hc:CW w B g v bs gc) (hp:Apt w g v gr) (hb:Blk w gr 69 (r.vals h)) (ok:r.ok) (i:RcLo w B r h) (cp:h.caps)
 (hlen:bs.length+(encRc r).length+10≤1000000000000):
 Calls Tryz.prog 159 #[.pointer (some ⟨gc,0,none⟩),.pointer (some ⟨gr,0,none⟩)] w (CPost w B g v bs gc (encRc r)):=by
 have hE:encRc r=encI r.k++(encTx r.t++(encB r.cm++(encSp r.s))):=by unfold encRc encBody;simp[hk]
 rw[hE]at hlen ⊢
 simp only[List.length_append]at hlen
 have hA:=At.blk hb
 clear hE
 obtain⟨k,t,s,pv,cm,n,pt,rd,wr,ps,pr,st⟩:=r
 change k=4 at hk
 subst hk
 have A0:At w ⟨gr,1,none⟩ [.int .i64 t.c,.int .i64 t.l,.int .i64 t.s]:=hA.sub (a:=[_]) (b:=[_,_,_]) (c:=[_,_,_,_,_,_,_,_,_,_,_,_,_,_,_,_,_,_,_,_,_,_,_,_,_])
 have A1:At w ⟨gr,10,none⟩ [.bool cm]:=hA.sub (a:=[_,_,_,_,_,_,_,_,_,_]) (b:=[_]) (c:=[_,_,_,_,_,_,_,_,_,_,_,_,_,_,_,_,_,_])
 have A2:At w ⟨gr,4,none⟩ [.int .i64 s.w,.int .i64 s.l,.int .i64 s.n]:=hA.sub (a:=[_,_,_,_]) (b:=[_,_,_]) (c:=[_,_,_,_,_,_,_,_,_,_,_,_,_,_,_,_,_,_,_,_,_,_])
 go_enter Tryz.func159,Tryz.ntmps159
 go_wp2_with fail
 refine(wcInt 4 w B g v bs gc ⟨gr,0,none⟩ _ hc hp rfl (hA.sub (a:=[]) (b:=[_])) ⟨rfl,by unfold i64ok;omega⟩ (by omega)).mono ?_
 rintro e w1 ⟨rfl,v1,hc1,hf1⟩
 have hp1:=hf1.apt hp
 have hb1:Blk w1 gr 69 _:=(hf1.heap hp).trans hb
 have c0:=cl (hb1.cell 0)
 replace i:=i.below (hc.lo hf1)
 replace A0:=hf1.at_ (p:=⟨gr,1,none⟩) hp A0
 replace A1:=hf1.at_ (p:=⟨gr,10,none⟩) hp A1
 replace A2:=hf1.at_ (p:=⟨gr,4,none⟩) hp A2
 go_wp2_with fail
 refine(wcTxn t w1 B g v1 _ gc ⟨gr,1,none⟩ _ hc1 hp1 rfl A0 ⟨rfl,ok.t⟩ (by simp only[List.length_append];omega)).mono ?_
 rintro e w2 ⟨rfl,v2,hc2,hf2⟩
 have hp2:=hf2.apt hp1
 replace A1:=hf2.at_ (p:=⟨gr,10,none⟩) hp1 A1
 replace A2:=hf2.at_ (p:=⟨gr,4,none⟩) hp1 A2
 replace i:=i.below (hc1.lo hf2)
 go_wp2_with fail
 refine(wcFlag cm w2 B g v2 _ gc ⟨gr,10,none⟩ _ hc2 hp2 rfl A1 ⟨rfl,trivial⟩ (by simp only[List.length_append];omega)).mono ?_
 rintro e w3 ⟨rfl,v3,hc3,hf3⟩
 have hp3:=hf3.apt hp2
 replace A2:=hf3.at_ (p:=⟨gr,4,none⟩) hp2 A2
 replace i:=i.below (hc2.lo hf3)
 go_wp2_with fail
 refine(wcStamp s w3 B g v3 _ gc ⟨gr,4,none⟩ _ hc3 hp3 rfl A2 ⟨rfl,ok.s⟩ (by simp only[List.length_append];omega)).mono ?_
 rintro e w4 ⟨rfl,v4,hc4,hf4⟩
 go_wp2
 go_end0
 refine⟨rfl,v4,?_,(((hf1).trans hf2).trans hf3).trans hf4⟩
 simpa only[List.append_assoc] using hc4
theorem walk_5 (r:Rc) (h:Hds) (w:World) (B g:Nat) (v:Value) (bs:List UInt8) (gc gr:Nat) (hk:r.k=5) (hc:CW w B g v bs gc) (hp:Apt w g v gr) (hb:Blk w gr 69 (r.vals h)) (ok:r.ok) (i:RcLo w B r h) (cp:h.caps)
 (hlen:bs.length+(encRc r).length+10≤1000000000000):
 Calls Tryz.prog 159 #[.pointer (some ⟨gc,0,none⟩),.pointer (some ⟨gr,0,none⟩)] w (CPost w B g v bs gc (encRc r)):=by
 have hE:encRc r=encI r.k++(encSp r.s):=by unfold encRc encBody;simp[hk]
 rw[hE]at hlen ⊢
 simp only[List.length_append]at hlen
 have hA:=At.blk hb
 clear hE
 obtain⟨k,t,s,pv,cm,n,pt,rd,wr,ps,pr,st⟩:=r
 change k=5 at hk
 subst hk
 have A0:At w ⟨gr,4,none⟩ [.int .i64 s.w,.int .i64 s.l,.int .i64 s.n]:=hA.sub (a:=[_,_,_,_]) (b:=[_,_,_]) (c:=[_,_,_,_,_,_,_,_,_,_,_,_,_,_,_,_,_,_,_,_,_,_])
 go_enter Tryz.func159,Tryz.ntmps159
 go_wp2_with fail
 refine(wcInt 5 w B g v bs gc ⟨gr,0,none⟩ _ hc hp rfl (hA.sub (a:=[]) (b:=[_])) ⟨rfl,by unfold i64ok;omega⟩ (by omega)).mono ?_
 rintro e w1 ⟨rfl,v1,hc1,hf1⟩
 have hp1:=hf1.apt hp
 have hb1:Blk w1 gr 69 _:=(hf1.heap hp).trans hb
 have c0:=cl (hb1.cell 0)
 replace i:=i.below (hc.lo hf1)
 replace A0:=hf1.at_ (p:=⟨gr,4,none⟩) hp A0
 go_wp2_with fail
 refine(wcStamp s w1 B g v1 _ gc ⟨gr,4,none⟩ _ hc1 hp1 rfl A0 ⟨rfl,ok.s⟩ (by simp only[List.length_append];omega)).mono ?_
 rintro e w2 ⟨rfl,v2,hc2,hf2⟩
 go_wp2
 go_end0
 refine⟨rfl,v2,?_,(hf1).trans hf2⟩
 simpa only[List.append_assoc] using hc2
theorem walk_6 (r:Rc) (h:Hds) (w:World) (B g:Nat) (v:Value) (bs:List UInt8) (gc gr:Nat) (hk:r.k=6) (hc:CW w B g v bs gc) (hp:Apt w g v gr) (hb:Blk w gr 69 (r.vals h)) (ok:r.ok) (i:RcLo w B r h) (cp:h.caps)
 (hlen:bs.length+(encRc r).length+10≤1000000000000):
 Calls Tryz.prog 159 #[.pointer (some ⟨gc,0,none⟩),.pointer (some ⟨gr,0,none⟩)] w (CPost w B g v bs gc (encRc r)):=by
 have hE:encRc r=encI r.k++(encF64 r.pt++(encI r.n++(encSp r.s))):=by unfold encRc encBody;simp[hk]
 rw[hE]at hlen ⊢
 simp only[List.length_append]at hlen
 have hA:=At.blk hb
 clear hE
 obtain⟨k,t,s,pv,cm,n,pt,rd,wr,ps,pr,st⟩:=r
 change k=6 at hk
 subst hk
 have A0:At w ⟨gr,12,none⟩ [.float .f64 pt]:=hA.sub (a:=[_,_,_,_,_,_,_,_,_,_,_,_]) (b:=[_]) (c:=[_,_,_,_,_,_,_,_,_,_,_,_,_,_,_,_])
 have A1:At w ⟨gr,11,none⟩ (nmCells n):=hA.sub (a:=[_,_,_,_,_,_,_,_,_,_,_]) (b:=[_]) (c:=[_,_,_,_,_,_,_,_,_,_,_,_,_,_,_,_,_])
 have A2:At w ⟨gr,4,none⟩ [.int .i64 s.w,.int .i64 s.l,.int .i64 s.n]:=hA.sub (a:=[_,_,_,_]) (b:=[_,_,_]) (c:=[_,_,_,_,_,_,_,_,_,_,_,_,_,_,_,_,_,_,_,_,_,_])
 go_enter Tryz.func159,Tryz.ntmps159
 go_wp2_with fail
 refine(wcInt 6 w B g v bs gc ⟨gr,0,none⟩ _ hc hp rfl (hA.sub (a:=[]) (b:=[_])) ⟨rfl,by unfold i64ok;omega⟩ (by omega)).mono ?_
 rintro e w1 ⟨rfl,v1,hc1,hf1⟩
 have hp1:=hf1.apt hp
 have hb1:Blk w1 gr 69 _:=(hf1.heap hp).trans hb
 have c0:=cl (hb1.cell 0)
 replace i:=i.below (hc.lo hf1)
 replace A0:=hf1.at_ (p:=⟨gr,12,none⟩) hp A0
 replace A1:=hf1.at_ (p:=⟨gr,11,none⟩) hp A1
 replace A2:=hf1.at_ (p:=⟨gr,4,none⟩) hp A2
 go_wp2_with fail
 refine(wcFloat pt w1 B g v1 _ gc ⟨gr,12,none⟩ _ hc1 hp1 rfl A0 ⟨rfl,ok.pt⟩ (by simp only[List.length_append];omega)).mono ?_
 rintro e w2 ⟨rfl,v2,hc2,hf2⟩
 have hp2:=hf2.apt hp1
 replace A1:=hf2.at_ (p:=⟨gr,11,none⟩) hp1 A1
 replace A2:=hf2.at_ (p:=⟨gr,4,none⟩) hp1 A2
 replace i:=i.below (hc1.lo hf2)
 go_wp2_with fail
 refine(wcInt n w2 B g v2 _ gc ⟨gr,11,none⟩ _ hc2 hp2 rfl A1 ⟨rfl,ok.n⟩ (by simp only[List.length_append];omega)).mono ?_
 rintro e w3 ⟨rfl,v3,hc3,hf3⟩
 have hp3:=hf3.apt hp2
 replace A2:=hf3.at_ (p:=⟨gr,4,none⟩) hp2 A2
 replace i:=i.below (hc2.lo hf3)
 go_wp2_with fail
 refine(wcStamp s w3 B g v3 _ gc ⟨gr,4,none⟩ _ hc3 hp3 rfl A2 ⟨rfl,ok.s⟩ (by simp only[List.length_append];omega)).mono ?_
 rintro e w4 ⟨rfl,v4,hc4,hf4⟩
 go_wp2
 go_end0
 refine⟨rfl,v4,?_,(((hf1).trans hf2).trans hf3).trans hf4⟩
 simpa only[List.append_assoc] using hc4
theorem walk_7 (r:Rc) (h:Hds) (w:World) (B g:Nat) (v:Value) (bs:List UInt8) (gc gr:Nat) (hk:r.k=7) (hc:CW w B g v bs gc) (hp:Apt w g v gr) (hb:Blk w gr 69 (r.vals h)) (ok:r.ok) (i:RcLo w B r h) (cp:h.caps)
 (hlen:bs.length+(encRc r).length+10≤1000000000000):
 Calls Tryz.prog 159 #[.pointer (some ⟨gc,0,none⟩),.pointer (some ⟨gr,0,none⟩)] w (CPost w B g v bs gc (encRc r)):=by
 have hE:encRc r=encI r.k++(encI r.n):=by unfold encRc encBody;simp[hk]
 rw[hE]at hlen ⊢
 simp only[List.length_append]at hlen
 have hA:=At.blk hb
 clear hE
 obtain⟨k,t,s,pv,cm,n,pt,rd,wr,ps,pr,st⟩:=r
 change k=7 at hk
 subst hk
 have A0:At w ⟨gr,11,none⟩ (nmCells n):=hA.sub (a:=[_,_,_,_,_,_,_,_,_,_,_]) (b:=[_]) (c:=[_,_,_,_,_,_,_,_,_,_,_,_,_,_,_,_,_])
 go_enter Tryz.func159,Tryz.ntmps159
 go_wp2_with fail
 refine(wcInt 7 w B g v bs gc ⟨gr,0,none⟩ _ hc hp rfl (hA.sub (a:=[]) (b:=[_])) ⟨rfl,by unfold i64ok;omega⟩ (by omega)).mono ?_
 rintro e w1 ⟨rfl,v1,hc1,hf1⟩
 have hp1:=hf1.apt hp
 have hb1:Blk w1 gr 69 _:=(hf1.heap hp).trans hb
 have c0:=cl (hb1.cell 0)
 replace i:=i.below (hc.lo hf1)
 replace A0:=hf1.at_ (p:=⟨gr,11,none⟩) hp A0
 go_wp2_with fail
 refine(wcInt n w1 B g v1 _ gc ⟨gr,11,none⟩ _ hc1 hp1 rfl A0 ⟨rfl,ok.n⟩ (by simp only[List.length_append];omega)).mono ?_
 rintro e w2 ⟨rfl,v2,hc2,hf2⟩
 go_wp2
 go_end0
 refine⟨rfl,v2,?_,(hf1).trans hf2⟩
 simpa only[List.append_assoc] using hc2
theorem walk_8 (r:Rc) (h:Hds) (w:World) (B g:Nat) (v:Value) (bs:List UInt8) (gc gr:Nat) (hk:r.k=8) (hc:CW w B g v bs gc) (hp:Apt w g v gr) (hb:Blk w gr 69 (r.vals h)) (ok:r.ok) (i:RcLo w B r h) (cp:h.caps)
 (hlen:bs.length+(encRc r).length+10≤1000000000000):
 Calls Tryz.prog 159 #[.pointer (some ⟨gc,0,none⟩),.pointer (some ⟨gr,0,none⟩)] w (CPost w B g v bs gc (encRc r)):=by
 have hE:encRc r=encI r.k++(encI r.n):=by unfold encRc encBody;simp[hk]
 rw[hE]at hlen ⊢
 simp only[List.length_append]at hlen
 have hA:=At.blk hb
 clear hE
 obtain⟨k,t,s,pv,cm,n,pt,rd,wr,ps,pr,st⟩:=r
 change k=8 at hk
 subst hk
 have A0:At w ⟨gr,11,none⟩ (nmCells n):=hA.sub (a:=[_,_,_,_,_,_,_,_,_,_,_]) (b:=[_]) (c:=[_,_,_,_,_,_,_,_,_,_,_,_,_,_,_,_,_])
 go_enter Tryz.func159,Tryz.ntmps159
 go_wp2_with fail
 refine(wcInt 8 w B g v bs gc ⟨gr,0,none⟩ _ hc hp rfl (hA.sub (a:=[]) (b:=[_])) ⟨rfl,by unfold i64ok;omega⟩ (by omega)).mono ?_
 rintro e w1 ⟨rfl,v1,hc1,hf1⟩
 have hp1:=hf1.apt hp
 have hb1:Blk w1 gr 69 _:=(hf1.heap hp).trans hb
 have c0:=cl (hb1.cell 0)
 replace i:=i.below (hc.lo hf1)
 replace A0:=hf1.at_ (p:=⟨gr,11,none⟩) hp A0
 go_wp2_with fail
 refine(wcInt n w1 B g v1 _ gc ⟨gr,11,none⟩ _ hc1 hp1 rfl A0 ⟨rfl,ok.n⟩ (by simp only[List.length_append];omega)).mono ?_
 rintro e w2 ⟨rfl,v2,hc2,hf2⟩
 go_wp2
 go_end0
 refine⟨rfl,v2,?_,(hf1).trans hf2⟩
 simpa only[List.append_assoc] using hc2
theorem walk_9 (r:Rc) (h:Hds) (w:World) (B g:Nat) (v:Value) (bs:List UInt8) (gc gr:Nat) (hk:r.k=9) (hc:CW w B g v bs gc) (hp:Apt w g v gr) (hb:Blk w gr 69 (r.vals h)) (ok:r.ok) (i:RcLo w B r h) (cp:h.caps)
 (hlen:bs.length+(encRc r).length+10≤1000000000000):
 Calls Tryz.prog 159 #[.pointer (some ⟨gc,0,none⟩),.pointer (some ⟨gr,0,none⟩)] w (CPost w B g v bs gc (encRc r)):=by
 have hE:encRc r=encI r.k++(encTx r.t++(encSp r.s++(encLs encI r.ps))):=by unfold encRc encBody;simp[hk]
 rw[hE]at hlen ⊢
 simp only[List.length_append]at hlen
 have hA:=At.blk hb
 clear hE
 obtain⟨k,t,s,pv,cm,n,pt,rd,wr,ps,pr,st⟩:=r
 change k=9 at hk
 subst hk
 have A0:At w ⟨gr,1,none⟩ [.int .i64 t.c,.int .i64 t.l,.int .i64 t.s]:=hA.sub (a:=[_]) (b:=[_,_,_]) (c:=[_,_,_,_,_,_,_,_,_,_,_,_,_,_,_,_,_,_,_,_,_,_,_,_,_])
 have A1:At w ⟨gr,4,none⟩ [.int .i64 s.w,.int .i64 s.l,.int .i64 s.n]:=hA.sub (a:=[_,_,_,_]) (b:=[_,_,_]) (c:=[_,_,_,_,_,_,_,_,_,_,_,_,_,_,_,_,_,_,_,_,_,_])
 have A2:At w ⟨gr,15,none⟩ [h.c.v]:=hA.sub (a:=[_,_,_,_,_,_,_,_,_,_,_,_,_,_,_]) (b:=[_]) (c:=[_,_,_,_,_,_,_,_,_,_,_,_,_])
 go_enter Tryz.func159,Tryz.ntmps159
 go_wp2_with fail
 refine(wcInt 9 w B g v bs gc ⟨gr,0,none⟩ _ hc hp rfl (hA.sub (a:=[]) (b:=[_])) ⟨rfl,by unfold i64ok;omega⟩ (by omega)).mono ?_
 rintro e w1 ⟨rfl,v1,hc1,hf1⟩
 have hp1:=hf1.apt hp
 have hb1:Blk w1 gr 69 _:=(hf1.heap hp).trans hb
 have c0:=cl (hb1.cell 0)
 replace i:=i.below (hc.lo hf1)
 replace A0:=hf1.at_ (p:=⟨gr,1,none⟩) hp A0
 replace A1:=hf1.at_ (p:=⟨gr,4,none⟩) hp A1
 replace A2:=hf1.at_ (p:=⟨gr,15,none⟩) hp A2
 go_wp2_with fail
 refine(wcTxn t w1 B g v1 _ gc ⟨gr,1,none⟩ _ hc1 hp1 rfl A0 ⟨rfl,ok.t⟩ (by simp only[List.length_append];omega)).mono ?_
 rintro e w2 ⟨rfl,v2,hc2,hf2⟩
 have hp2:=hf2.apt hp1
 replace A1:=hf2.at_ (p:=⟨gr,4,none⟩) hp1 A1
 replace A2:=hf2.at_ (p:=⟨gr,15,none⟩) hp1 A2
 replace i:=i.below (hc1.lo hf2)
 go_wp2_with fail
 refine(wcStamp s w2 B g v2 _ gc ⟨gr,4,none⟩ _ hc2 hp2 rfl A1 ⟨rfl,ok.s⟩ (by simp only[List.length_append];omega)).mono ?_
 rintro e w3 ⟨rfl,v3,hc3,hf3⟩
 have hp3:=hf3.apt hp2
 replace A2:=hf3.at_ (p:=⟨gr,15,none⟩) hp2 A2
 replace i:=i.below (hc2.lo hf3)
 go_wp2_with fail
 refine(wlInt ps _ _ _ w3 B g v3 _ gc ⟨gr,15,none⟩ hc3 hp3 A2.head i.nc i.ps (by simp only[List.length_append];omega)).mono ?_
 rintro e w4 ⟨rfl,v4,hc4,hf4⟩
 go_wp2
 go_end0
 refine⟨rfl,v4,?_,(((hf1).trans hf2).trans hf3).trans hf4⟩
 simpa only[List.append_assoc] using hc4
theorem walk_10 (r:Rc) (h:Hds) (w:World) (B g:Nat) (v:Value) (bs:List UInt8) (gc gr:Nat) (hk:r.k=10) (hc:CW w B g v bs gc) (hp:Apt w g v gr) (hb:Blk w gr 69 (r.vals h)) (ok:r.ok) (i:RcLo w B r h) (cp:h.caps)
 (hlen:bs.length+(encRc r).length+10≤1000000000000):
 Calls Tryz.prog 159 #[.pointer (some ⟨gc,0,none⟩),.pointer (some ⟨gr,0,none⟩)] w (CPost w B g v bs gc (encRc r)):=by
 have hE:encRc r=encI r.k++(encTx r.t):=by unfold encRc encBody;simp[hk]
 rw[hE]at hlen ⊢
 simp only[List.length_append]at hlen
 have hA:=At.blk hb
 clear hE
 obtain⟨k,t,s,pv,cm,n,pt,rd,wr,ps,pr,st⟩:=r
 change k=10 at hk
 subst hk
 have A0:At w ⟨gr,1,none⟩ [.int .i64 t.c,.int .i64 t.l,.int .i64 t.s]:=hA.sub (a:=[_]) (b:=[_,_,_]) (c:=[_,_,_,_,_,_,_,_,_,_,_,_,_,_,_,_,_,_,_,_,_,_,_,_,_])
 go_enter Tryz.func159,Tryz.ntmps159
 go_wp2_with fail
 refine(wcInt 10 w B g v bs gc ⟨gr,0,none⟩ _ hc hp rfl (hA.sub (a:=[]) (b:=[_])) ⟨rfl,by unfold i64ok;omega⟩ (by omega)).mono ?_
 rintro e w1 ⟨rfl,v1,hc1,hf1⟩
 have hp1:=hf1.apt hp
 have hb1:Blk w1 gr 69 _:=(hf1.heap hp).trans hb
 have c0:=cl (hb1.cell 0)
 replace i:=i.below (hc.lo hf1)
 replace A0:=hf1.at_ (p:=⟨gr,1,none⟩) hp A0
 go_wp2_with fail
 refine(wcTxn t w1 B g v1 _ gc ⟨gr,1,none⟩ _ hc1 hp1 rfl A0 ⟨rfl,ok.t⟩ (by simp only[List.length_append];omega)).mono ?_
 rintro e w2 ⟨rfl,v2,hc2,hf2⟩
 go_wp2
 go_end0
 refine⟨rfl,v2,?_,(hf1).trans hf2⟩
 simpa only[List.append_assoc] using hc2
theorem walk_11 (r:Rc) (h:Hds) (w:World) (B g:Nat) (v:Value) (bs:List UInt8) (gc gr:Nat) (hk:r.k=11) (hc:CW w B g v bs gc) (hp:Apt w g v gr) (hb:Blk w gr 69 (r.vals h)) (ok:r.ok) (i:RcLo w B r h) (cp:h.caps)
 (hlen:bs.length+(encRc r).length+10≤1000000000000):
 Calls Tryz.prog 159 #[.pointer (some ⟨gc,0,none⟩),.pointer (some ⟨gr,0,none⟩)] w (CPost w B g v bs gc (encRc r)):=by
 have hE:encRc r=encI r.k++(encSp r.pv++(encSp r.s++(encTx r.t++(encLs encWt r.wr)))):=by unfold encRc encBody;simp[hk]
 rw[hE]at hlen ⊢
 simp only[List.length_append]at hlen
 have hA:=At.blk hb
 clear hE
 obtain⟨k,t,s,pv,cm,n,pt,rd,wr,ps,pr,st⟩:=r
 change k=11 at hk
 subst hk
 have A0:At w ⟨gr,7,none⟩ [.int .i64 pv.w,.int .i64 pv.l,.int .i64 pv.n]:=hA.sub (a:=[_,_,_,_,_,_,_]) (b:=[_,_,_]) (c:=[_,_,_,_,_,_,_,_,_,_,_,_,_,_,_,_,_,_,_])
 have A1:At w ⟨gr,4,none⟩ [.int .i64 s.w,.int .i64 s.l,.int .i64 s.n]:=hA.sub (a:=[_,_,_,_]) (b:=[_,_,_]) (c:=[_,_,_,_,_,_,_,_,_,_,_,_,_,_,_,_,_,_,_,_,_,_])
 have A2:At w ⟨gr,1,none⟩ [.int .i64 t.c,.int .i64 t.l,.int .i64 t.s]:=hA.sub (a:=[_]) (b:=[_,_,_]) (c:=[_,_,_,_,_,_,_,_,_,_,_,_,_,_,_,_,_,_,_,_,_,_,_,_,_])
 have A3:At w ⟨gr,14,none⟩ [h.b.v]:=hA.sub (a:=[_,_,_,_,_,_,_,_,_,_,_,_,_,_]) (b:=[_]) (c:=[_,_,_,_,_,_,_,_,_,_,_,_,_,_])
 go_enter Tryz.func159,Tryz.ntmps159
 go_wp2_with fail
 refine(wcInt 11 w B g v bs gc ⟨gr,0,none⟩ _ hc hp rfl (hA.sub (a:=[]) (b:=[_])) ⟨rfl,by unfold i64ok;omega⟩ (by omega)).mono ?_
 rintro e w1 ⟨rfl,v1,hc1,hf1⟩
 have hp1:=hf1.apt hp
 have hb1:Blk w1 gr 69 _:=(hf1.heap hp).trans hb
 have c0:=cl (hb1.cell 0)
 replace i:=i.below (hc.lo hf1)
 replace A0:=hf1.at_ (p:=⟨gr,7,none⟩) hp A0
 replace A1:=hf1.at_ (p:=⟨gr,4,none⟩) hp A1
 replace A2:=hf1.at_ (p:=⟨gr,1,none⟩) hp A2
 replace A3:=hf1.at_ (p:=⟨gr,14,none⟩) hp A3
 go_wp2_with fail
 refine(wcStamp pv w1 B g v1 _ gc ⟨gr,7,none⟩ _ hc1 hp1 rfl A0 ⟨rfl,ok.pv⟩ (by simp only[List.length_append];omega)).mono ?_
 rintro e w2 ⟨rfl,v2,hc2,hf2⟩
 have hp2:=hf2.apt hp1
 replace A1:=hf2.at_ (p:=⟨gr,4,none⟩) hp1 A1
 replace A2:=hf2.at_ (p:=⟨gr,1,none⟩) hp1 A2
 replace A3:=hf2.at_ (p:=⟨gr,14,none⟩) hp1 A3
 replace i:=i.below (hc1.lo hf2)
 go_wp2_with fail
 refine(wcStamp s w2 B g v2 _ gc ⟨gr,4,none⟩ _ hc2 hp2 rfl A1 ⟨rfl,ok.s⟩ (by simp only[List.length_append];omega)).mono ?_
 rintro e w3 ⟨rfl,v3,hc3,hf3⟩
 have hp3:=hf3.apt hp2
 replace A2:=hf3.at_ (p:=⟨gr,1,none⟩) hp2 A2
 replace A3:=hf3.at_ (p:=⟨gr,14,none⟩) hp2 A3
 replace i:=i.below (hc2.lo hf3)
 go_wp2_with fail
 refine(wcTxn t w3 B g v3 _ gc ⟨gr,1,none⟩ _ hc3 hp3 rfl A2 ⟨rfl,ok.t⟩ (by simp only[List.length_append];omega)).mono ?_
 rintro e w4 ⟨rfl,v4,hc4,hf4⟩
 have hp4:=hf4.apt hp3
 replace A3:=hf4.at_ (p:=⟨gr,14,none⟩) hp3 A3
 replace i:=i.below (hc3.lo hf4)
 go_wp2_with fail
 refine(wlWrite wr _ _ _ w4 B g v4 _ gc ⟨gr,14,none⟩ hc4 hp4 A3.head i.nb i.wr (by simp only[List.length_append];omega)).mono ?_
 rintro e w5 ⟨rfl,v5,hc5,hf5⟩
 go_wp2
 go_end0
 refine⟨rfl,v5,?_,((((hf1).trans hf2).trans hf3).trans hf4).trans hf5⟩
 simpa only[List.append_assoc] using hc5
theorem walk_12 (r:Rc) (h:Hds) (w:World) (B g:Nat) (v:Value) (bs:List UInt8) (gc gr:Nat) (hk:r.k=12) (hc:CW w B g v bs gc) (hp:Apt w g v gr) (hb:Blk w gr 69 (r.vals h)) (ok:r.ok) (i:RcLo w B r h) (cp:h.caps)
 (hlen:bs.length+(encRc r).length+10≤1000000000000):
 Calls Tryz.prog 159 #[.pointer (some ⟨gc,0,none⟩),.pointer (some ⟨gr,0,none⟩)] w (CPost w B g v bs gc (encRc r)):=by
 have hE:encRc r=encI r.k++(encSp r.s++(encLs encWt r.pr)):=by unfold encRc encBody;simp[hk]
 rw[hE]at hlen ⊢
 simp only[List.length_append]at hlen
 have hA:=At.blk hb
 clear hE
 obtain⟨k,t,s,pv,cm,n,pt,rd,wr,ps,pr,st⟩:=r
 change k=12 at hk
 subst hk
 have A0:At w ⟨gr,4,none⟩ [.int .i64 s.w,.int .i64 s.l,.int .i64 s.n]:=hA.sub (a:=[_,_,_,_]) (b:=[_,_,_]) (c:=[_,_,_,_,_,_,_,_,_,_,_,_,_,_,_,_,_,_,_,_,_,_])
 have A1:At w ⟨gr,16,none⟩ [h.d.v]:=hA.sub (a:=[_,_,_,_,_,_,_,_,_,_,_,_,_,_,_,_]) (b:=[_]) (c:=[_,_,_,_,_,_,_,_,_,_,_,_])
 go_enter Tryz.func159,Tryz.ntmps159
 go_wp2_with fail
 refine(wcInt 12 w B g v bs gc ⟨gr,0,none⟩ _ hc hp rfl (hA.sub (a:=[]) (b:=[_])) ⟨rfl,by unfold i64ok;omega⟩ (by omega)).mono ?_
 rintro e w1 ⟨rfl,v1,hc1,hf1⟩
 have hp1:=hf1.apt hp
 have hb1:Blk w1 gr 69 _:=(hf1.heap hp).trans hb
 have c0:=cl (hb1.cell 0)
 replace i:=i.below (hc.lo hf1)
 replace A0:=hf1.at_ (p:=⟨gr,4,none⟩) hp A0
 replace A1:=hf1.at_ (p:=⟨gr,16,none⟩) hp A1
 go_wp2_with fail
 refine(wcStamp s w1 B g v1 _ gc ⟨gr,4,none⟩ _ hc1 hp1 rfl A0 ⟨rfl,ok.s⟩ (by simp only[List.length_append];omega)).mono ?_
 rintro e w2 ⟨rfl,v2,hc2,hf2⟩
 have hp2:=hf2.apt hp1
 replace A1:=hf2.at_ (p:=⟨gr,16,none⟩) hp1 A1
 replace i:=i.below (hc1.lo hf2)
 go_wp2_with fail
 refine(wlPair pr _ _ _ w2 B g v2 _ gc ⟨gr,16,none⟩ hc2 hp2 A1.head i.nd i.pr (by simp only[List.length_append];omega)).mono ?_
 rintro e w3 ⟨rfl,v3,hc3,hf3⟩
 go_wp2
 go_end0
 refine⟨rfl,v3,?_,((hf1).trans hf2).trans hf3⟩
 simpa only[List.append_assoc] using hc3
end Go.Proofs.YtcalkfgibflbnaaGreat
