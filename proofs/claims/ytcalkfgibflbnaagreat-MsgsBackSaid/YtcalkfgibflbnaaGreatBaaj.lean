/- The walk of a coder that writes a record. -/
import Derived.Test.YtcalkfgibflbnaaGreatBaah
import Derived.Test.YtcalkfgibflbnaaGreatBaai
namespace Go.Proofs.YtcalkfgibflbnaaGreat
set_option maxHeartbeats 4000000
set_option maxRecDepth 100000
set_option linter.unusedVariables false
open Go.RowKit Fl
attribute [local go_sem] dJ
theorem DZ {w:World} {g i:Nat} {t:TypeId} {cs:Array Value} {v:Value} (h:aj w g t cs) (hv:cs[i]?=some v):w.setCell ⟨g,i,none⟩ v=w:=by
 have e:cs.setIfInBounds i v=cs:=by
  apply Array.ext_getElem?;intro j;rw[Array.getElem?_setIfInBounds];split
  · rename_i hij;subst hij;split
    · exact hv.symm
    · rename_i hlt;rw[Array.getElem?_eq_none byOmega]
  · rfl
 have hh:(w.setCell ⟨g,i,none⟩ v).heap=w.heap:=by
  apply Array.ext_getElem?;intro j;by_cases hj:j=g
  · subst hj;rw[heap_setCell_same w j i cs t v h,e];exact h.symm
  · exact Below.heap_setCell _ _ _ _ hj
 have e2:w.setCell ⟨g,i,none⟩ v={w with heap:=(w.setCell ⟨g,i,none⟩ v).heap}:=rfl;rw[e2,hh]
theorem SE {w:World} {g o:Nat} {t:TypeId} {cs:Array Value} {x y z:Value} (h:aj w g t cs) (h1:cs[o]?=some x) (h2:cs[o+1]?=some y) (h3:cs[o+2]?=some z):w.setCells g o [x,y,z]=w:=by
 show ((w.setCell ⟨g,o,none⟩ x).setCell ⟨g,o+1,none⟩ y).setCell ⟨g,o+2,none⟩ z=w;rw[DZ h h1,DZ h h2,DZ h h3]
structure aV.caps (h:aV):Prop where
 a:h.a.n<=h.a.c/\h.a.c<=maxLen
 b:h.b.n<=h.b.c/\h.b.c<=maxLen
 c:h.c.n<=h.c.c/\h.c.c<=maxLen
 d:h.d.n<=h.d.c/\h.d.c<=maxLen
 e:h.e.n<=h.e.c/\h.e.c<=maxLen
 f:h.f.n<=h.f.c/\h.f.c<=maxLen
structure fZ (w:World) (B:Nat) (r:Rc) (h:aV):Prop where
 rd:Sl aO 1 w B h.a.A h.a.n r.rd
 wr:Sl aF 4 w B h.b.A h.b.n r.wr
 ps:Sl bK 1 w B h.c.A h.c.n r.ps
 pr:Sl aF 4 w B h.d.A h.d.n r.pr
 hs:Sl aQ 2 w B h.e.A h.e.n r.st.h
 pn:Sl aP 8 w B h.f.A h.f.n r.st.p
 na:h.a.n<=maxLen
 nb:h.b.n<=maxLen
 nc:h.c.n<=maxLen
 nd:h.d.n<=maxLen
 ne:h.e.n<=maxLen
 nf:h.f.n<=maxLen
theorem fZ.below {w w':World} {B:Nat} {r:Rc} {h:aV} (i:fZ w B r h) (hb:Below B w w'):fZ w' B r h:=
 ⟨i.rd.below aO.kept hb,i.wr.below aF.kept hb,i.ps.below bK.kept hb,i.pr.below aF.kept hb,i.hs.below aQ.kept hb,i.pn.below aP.kept hb,i.na,i.nb,i.nc,i.nd,i.ne,i.nf⟩
theorem fZ.of {w:World} {r:Rc} {h:aV} (i:dO w r h):fZ w w.heap.size r h:=⟨i.rd,i.wr,i.ps,i.pr,i.hs,i.pn,i.na,i.nb,i.nc,i.nd,i.ne,i.nf⟩
theorem fZ.more {w:World} {B B':Nat} {r:Rc} {h:aV} (i:fZ w B r h) (hb:B<=B'):fZ w B' r h:=
 ⟨i.rd.more aO.kept hb,i.wr.more aF.kept hb,i.ps.more bK.kept hb,i.pr.more aF.kept hb,i.hs.more aQ.kept hb,i.pn.more aP.kept hb,i.na,i.nb,i.nc,i.nd,i.ne,i.nf⟩
theorem ab9 (r:Rc) (h:aV) (w:World) (B g:Nat) (v:Value) (bs:List UInt8) (gc gr:Nat) (hk:r.k=1) (hc:CW w B g v bs gc) (hp:dA w g v gr) (hb:aj w gr 69 (r.vals h)) (ok:r.ok) (i:fZ w B r h) (cp:h.caps)
 (hlen:bs.length+(bC r).length+10<=1000000000000):
 Calls Tryz.prog 159 #[.pointer (some ⟨gc,0,none⟩),.pointer (some ⟨gr,0,none⟩)] w (jk w B g v bs gc (bC r)):=by
 have hE:bC r=encI r.k++(oC r.st):=by unfold bC gu;simp[hk]
 rw[hE]at hlen ⊢;simp only[aK]at hlen;have hA:=At.blk hb;clear hE;obtain⟨k,t,s,pv,cm,n,pt,rd,wr,ps,pr,st⟩:=r;change k=1 at hk;subst hk;have A0:At w ⟨gr,17,none⟩ [.int .i64 st.r.id,.int .i64 st.r.ep,.float .f64 st.r.lo,.float .f64 st.r.hi,.int .i64 st.f.w,.int .i64 st.f.l,.int .i64 st.f.n,.int .i64 st.c.w,.int .i64 st.c.l,.int .i64 st.c.n,h.e.v,h.f.v]:=hA.sub (a:=[_,_,_,_,_,_,_,_,_,_,_,_,_,_,_,_,_]) (b:=[_,_,_,_,_,_,_,_,_,_,_,_]) (c:=[]);go_enter Tryz.func159,Tryz.ntmps159;go_wp2_with fail;refine(kG 1 w B g v bs gc ⟨gr,0,none⟩ _ hc hp rfl (hA.sub (a:=[]) (b:=[_])) ⟨rfl,by unfold bG;omega⟩ byOmega).mono ?_;rintro e w1 ⟨rfl,v1,hc1,hf1⟩;have hp1:=hf1.bQ hp;have hb1:aj w1 gr 69 _:=(hf1.heap hp).trans hb;have c0:=cl (hb1.cell 0);replace i:=i.below (hc.lo hf1);replace A0:=hf1.at_ (p:=⟨gr,17,none⟩) hp A0;go_wp2_with fail;refine(Si st w1 B g v1 _ gc ⟨gr,17,none⟩ _ hc1 hp1 rfl A0 ⟨_,_,rfl,ok.rg,ok.fl,ok.cl,⟨_,_,_,rfl,cp.e.1,cp.e.2,i.hs⟩,_,_,_,rfl,cp.f.1,cp.f.2,i.pn⟩ iD).mono ?_;rintro e w2 ⟨rfl,v2,hc2,hf2⟩;go_wp2
 go_end0
 refine⟨rfl,v2,?_,(hf1).trans hf2⟩;simpa only[List.append_assoc] using hc2
theorem acd (r:Rc) (h:aV) (w:World) (B g:Nat) (v:Value) (bs:List UInt8) (gc gr:Nat) (hk:r.k=2) (hc:CW w B g v bs gc) (hp:dA w g v gr) (hb:aj w gr 69 (r.vals h)) (ok:r.ok) (i:fZ w B r h) (cp:h.caps)
 (hlen:bs.length+(bC r).length+10<=1000000000000):
 Calls Tryz.prog 159 #[.pointer (some ⟨gc,0,none⟩),.pointer (some ⟨gr,0,none⟩)] w (jk w B g v bs gc (bC r)):=by
 have hE:bC r=encI r.k++(encI r.n):=by unfold bC gu;simp[hk]
 rw[hE]at hlen ⊢;simp only[aK]at hlen;have hA:=At.blk hb;clear hE;obtain⟨k,t,s,pv,cm,n,pt,rd,wr,ps,pr,st⟩:=r;change k=2 at hk;subst hk;have A0:At w ⟨gr,11,none⟩ (sF n):=hA.sub (a:=[_,_,_,_,_,_,_,_,_,_,_]) (b:=[_]) (c:=[_,_,_,_,_,_,_,_,_,_,_,_,_,_,_,_,_]);go_enter Tryz.func159,Tryz.ntmps159;go_wp2_with fail;refine(kG 2 w B g v bs gc ⟨gr,0,none⟩ _ hc hp rfl (hA.sub (a:=[]) (b:=[_])) ⟨rfl,by unfold bG;omega⟩ byOmega).mono ?_;rintro e w1 ⟨rfl,v1,hc1,hf1⟩;have hp1:=hf1.bQ hp;have hb1:aj w1 gr 69 _:=(hf1.heap hp).trans hb;have c0:=cl (hb1.cell 0);replace i:=i.below (hc.lo hf1);replace A0:=hf1.at_ (p:=⟨gr,11,none⟩) hp A0;go_wp2_with fail;refine(kG n w1 B g v1 _ gc ⟨gr,11,none⟩ _ hc1 hp1 rfl A0 ⟨rfl,ok.n⟩ iD).mono ?_;rintro e w2 ⟨rfl,v2,hc2,hf2⟩;go_wp2
 go_end0
 refine⟨rfl,v2,?_,(hf1).trans hf2⟩;simpa only[List.append_assoc] using hc2
theorem ace (r:Rc) (h:aV) (w:World) (B g:Nat) (v:Value) (bs:List UInt8) (gc gr:Nat) (hk:r.k=4) (hc:CW w B g v bs gc) (hp:dA w g v gr) (hb:aj w gr 69 (r.vals h)) (ok:r.ok) (i:fZ w B r h) (cp:h.caps)
 (hlen:bs.length+(bC r).length+10<=1000000000000):
 Calls Tryz.prog 159 #[.pointer (some ⟨gc,0,none⟩),.pointer (some ⟨gr,0,none⟩)] w (jk w B g v bs gc (bC r)):=by
 have hE:bC r=encI r.k++(eP r.t++(qF r.cm++(aU r.s))):=by unfold bC gu;simp[hk]
 rw[hE]at hlen ⊢;simp only[aK]at hlen;have hA:=At.blk hb;clear hE;obtain⟨k,t,s,pv,cm,n,pt,rd,wr,ps,pr,st⟩:=r;change k=4 at hk;subst hk;have A0:At w ⟨gr,1,none⟩ [.int .i64 t.c,.int .i64 t.l,.int .i64 t.s]:=hA.sub (a:=[_]) (b:=[_,_,_]) (c:=[_,_,_,_,_,_,_,_,_,_,_,_,_,_,_,_,_,_,_,_,_,_,_,_,_]);have A1:At w ⟨gr,10,none⟩ [.bool cm]:=hA.sub (a:=[_,_,_,_,_,_,_,_,_,_]) (b:=[_]) (c:=[_,_,_,_,_,_,_,_,_,_,_,_,_,_,_,_,_,_]);have A2:At w ⟨gr,4,none⟩ [.int .i64 s.w,.int .i64 s.l,.int .i64 s.n]:=hA.sub (a:=[_,_,_,_]) (b:=[_,_,_]) (c:=[_,_,_,_,_,_,_,_,_,_,_,_,_,_,_,_,_,_,_,_,_,_]);go_enter Tryz.func159,Tryz.ntmps159;go_wp2_with fail;refine(kG 4 w B g v bs gc ⟨gr,0,none⟩ _ hc hp rfl (hA.sub (a:=[]) (b:=[_])) ⟨rfl,by unfold bG;omega⟩ byOmega).mono ?_;rintro e w1 ⟨rfl,v1,hc1,hf1⟩;have hp1:=hf1.bQ hp;have hb1:aj w1 gr 69 _:=(hf1.heap hp).trans hb;have c0:=cl (hb1.cell 0);replace i:=i.below (hc.lo hf1);replace A0:=hf1.at_ (p:=⟨gr,1,none⟩) hp A0;replace A1:=hf1.at_ (p:=⟨gr,10,none⟩) hp A1;replace A2:=hf1.at_ (p:=⟨gr,4,none⟩) hp A2;go_wp2_with fail;refine(Bz t w1 B g v1 _ gc ⟨gr,1,none⟩ _ hc1 hp1 rfl A0 ⟨rfl,ok.t⟩ iD).mono ?_;rintro e w2 ⟨rfl,v2,hc2,hf2⟩;have hp2:=hf2.bQ hp1;replace A1:=hf2.at_ (p:=⟨gr,10,none⟩) hp1 A1;replace A2:=hf2.at_ (p:=⟨gr,4,none⟩) hp1 A2;replace i:=i.below (hc1.lo hf2);go_wp2_with fail;refine(Q8 cm w2 B g v2 _ gc ⟨gr,10,none⟩ _ hc2 hp2 rfl A1 ⟨rfl,trivial⟩ iD).mono ?_;rintro e w3 ⟨rfl,v3,hc3,hf3⟩;have hp3:=hf3.bQ hp2;replace A2:=hf3.at_ (p:=⟨gr,4,none⟩) hp2 A2;replace i:=i.below (hc2.lo hf3);go_wp2_with fail;refine(uP s w3 B g v3 _ gc ⟨gr,4,none⟩ _ hc3 hp3 rfl A2 ⟨rfl,ok.s⟩ iD).mono ?_;rintro e w4 ⟨rfl,v4,hc4,hf4⟩;go_wp2
 go_end0
 refine⟨rfl,v4,?_,(((hf1).trans hf2).trans hf3).trans hf4⟩;simpa only[List.append_assoc] using hc4
theorem acf (r:Rc) (h:aV) (w:World) (B g:Nat) (v:Value) (bs:List UInt8) (gc gr:Nat) (hk:r.k=5) (hc:CW w B g v bs gc) (hp:dA w g v gr) (hb:aj w gr 69 (r.vals h)) (ok:r.ok) (i:fZ w B r h) (cp:h.caps)
 (hlen:bs.length+(bC r).length+10<=1000000000000):
 Calls Tryz.prog 159 #[.pointer (some ⟨gc,0,none⟩),.pointer (some ⟨gr,0,none⟩)] w (jk w B g v bs gc (bC r)):=by
 have hE:bC r=encI r.k++(aU r.s):=by unfold bC gu;simp[hk]
 rw[hE]at hlen ⊢;simp only[aK]at hlen;have hA:=At.blk hb;clear hE;obtain⟨k,t,s,pv,cm,n,pt,rd,wr,ps,pr,st⟩:=r;change k=5 at hk;subst hk;have A0:At w ⟨gr,4,none⟩ [.int .i64 s.w,.int .i64 s.l,.int .i64 s.n]:=hA.sub (a:=[_,_,_,_]) (b:=[_,_,_]) (c:=[_,_,_,_,_,_,_,_,_,_,_,_,_,_,_,_,_,_,_,_,_,_]);go_enter Tryz.func159,Tryz.ntmps159;go_wp2_with fail;refine(kG 5 w B g v bs gc ⟨gr,0,none⟩ _ hc hp rfl (hA.sub (a:=[]) (b:=[_])) ⟨rfl,by unfold bG;omega⟩ byOmega).mono ?_;rintro e w1 ⟨rfl,v1,hc1,hf1⟩;have hp1:=hf1.bQ hp;have hb1:aj w1 gr 69 _:=(hf1.heap hp).trans hb;have c0:=cl (hb1.cell 0);replace i:=i.below (hc.lo hf1);replace A0:=hf1.at_ (p:=⟨gr,4,none⟩) hp A0;go_wp2_with fail;refine(uP s w1 B g v1 _ gc ⟨gr,4,none⟩ _ hc1 hp1 rfl A0 ⟨rfl,ok.s⟩ iD).mono ?_;rintro e w2 ⟨rfl,v2,hc2,hf2⟩;go_wp2
 go_end0
 refine⟨rfl,v2,?_,(hf1).trans hf2⟩;simpa only[List.append_assoc] using hc2
theorem acg (r:Rc) (h:aV) (w:World) (B g:Nat) (v:Value) (bs:List UInt8) (gc gr:Nat) (hk:r.k=6) (hc:CW w B g v bs gc) (hp:dA w g v gr) (hb:aj w gr 69 (r.vals h)) (ok:r.ok) (i:fZ w B r h) (cp:h.caps)
 (hlen:bs.length+(bC r).length+10<=1000000000000):
 Calls Tryz.prog 159 #[.pointer (some ⟨gc,0,none⟩),.pointer (some ⟨gr,0,none⟩)] w (jk w B g v bs gc (bC r)):=by
 have hE:bC r=encI r.k++(dK r.pt++(encI r.n++(aU r.s))):=by unfold bC gu;simp[hk]
 rw[hE]at hlen ⊢;simp only[aK]at hlen;have hA:=At.blk hb;clear hE;obtain⟨k,t,s,pv,cm,n,pt,rd,wr,ps,pr,st⟩:=r;change k=6 at hk;subst hk;have A0:At w ⟨gr,12,none⟩ [.float .f64 pt]:=hA.sub (a:=[_,_,_,_,_,_,_,_,_,_,_,_]) (b:=[_]) (c:=[_,_,_,_,_,_,_,_,_,_,_,_,_,_,_,_]);have A1:At w ⟨gr,11,none⟩ (sF n):=hA.sub (a:=[_,_,_,_,_,_,_,_,_,_,_]) (b:=[_]) (c:=[_,_,_,_,_,_,_,_,_,_,_,_,_,_,_,_,_]);have A2:At w ⟨gr,4,none⟩ [.int .i64 s.w,.int .i64 s.l,.int .i64 s.n]:=hA.sub (a:=[_,_,_,_]) (b:=[_,_,_]) (c:=[_,_,_,_,_,_,_,_,_,_,_,_,_,_,_,_,_,_,_,_,_,_]);go_enter Tryz.func159,Tryz.ntmps159;go_wp2_with fail;refine(kG 6 w B g v bs gc ⟨gr,0,none⟩ _ hc hp rfl (hA.sub (a:=[]) (b:=[_])) ⟨rfl,by unfold bG;omega⟩ byOmega).mono ?_;rintro e w1 ⟨rfl,v1,hc1,hf1⟩;have hp1:=hf1.bQ hp;have hb1:aj w1 gr 69 _:=(hf1.heap hp).trans hb;have c0:=cl (hb1.cell 0);replace i:=i.below (hc.lo hf1);replace A0:=hf1.at_ (p:=⟨gr,12,none⟩) hp A0;replace A1:=hf1.at_ (p:=⟨gr,11,none⟩) hp A1;replace A2:=hf1.at_ (p:=⟨gr,4,none⟩) hp A2;go_wp2_with fail;refine(LJ pt w1 B g v1 _ gc ⟨gr,12,none⟩ _ hc1 hp1 rfl A0 ⟨rfl,ok.pt⟩ iD).mono ?_;rintro e w2 ⟨rfl,v2,hc2,hf2⟩;have hp2:=hf2.bQ hp1;replace A1:=hf2.at_ (p:=⟨gr,11,none⟩) hp1 A1;replace A2:=hf2.at_ (p:=⟨gr,4,none⟩) hp1 A2;replace i:=i.below (hc1.lo hf2);go_wp2_with fail;refine(kG n w2 B g v2 _ gc ⟨gr,11,none⟩ _ hc2 hp2 rfl A1 ⟨rfl,ok.n⟩ iD).mono ?_;rintro e w3 ⟨rfl,v3,hc3,hf3⟩;have hp3:=hf3.bQ hp2;replace A2:=hf3.at_ (p:=⟨gr,4,none⟩) hp2 A2;replace i:=i.below (hc2.lo hf3);go_wp2_with fail;refine(uP s w3 B g v3 _ gc ⟨gr,4,none⟩ _ hc3 hp3 rfl A2 ⟨rfl,ok.s⟩ iD).mono ?_;rintro e w4 ⟨rfl,v4,hc4,hf4⟩;go_wp2
 go_end0
 refine⟨rfl,v4,?_,(((hf1).trans hf2).trans hf3).trans hf4⟩;simpa only[List.append_assoc] using hc4
theorem ach (r:Rc) (h:aV) (w:World) (B g:Nat) (v:Value) (bs:List UInt8) (gc gr:Nat) (hk:r.k=7) (hc:CW w B g v bs gc) (hp:dA w g v gr) (hb:aj w gr 69 (r.vals h)) (ok:r.ok) (i:fZ w B r h) (cp:h.caps)
 (hlen:bs.length+(bC r).length+10<=1000000000000):
 Calls Tryz.prog 159 #[.pointer (some ⟨gc,0,none⟩),.pointer (some ⟨gr,0,none⟩)] w (jk w B g v bs gc (bC r)):=by
 have hE:bC r=encI r.k++(encI r.n):=by unfold bC gu;simp[hk]
 rw[hE]at hlen ⊢;simp only[aK]at hlen;have hA:=At.blk hb;clear hE;obtain⟨k,t,s,pv,cm,n,pt,rd,wr,ps,pr,st⟩:=r;change k=7 at hk;subst hk;have A0:At w ⟨gr,11,none⟩ (sF n):=hA.sub (a:=[_,_,_,_,_,_,_,_,_,_,_]) (b:=[_]) (c:=[_,_,_,_,_,_,_,_,_,_,_,_,_,_,_,_,_]);go_enter Tryz.func159,Tryz.ntmps159;go_wp2_with fail;refine(kG 7 w B g v bs gc ⟨gr,0,none⟩ _ hc hp rfl (hA.sub (a:=[]) (b:=[_])) ⟨rfl,by unfold bG;omega⟩ byOmega).mono ?_;rintro e w1 ⟨rfl,v1,hc1,hf1⟩;have hp1:=hf1.bQ hp;have hb1:aj w1 gr 69 _:=(hf1.heap hp).trans hb;have c0:=cl (hb1.cell 0);replace i:=i.below (hc.lo hf1);replace A0:=hf1.at_ (p:=⟨gr,11,none⟩) hp A0;go_wp2_with fail;refine(kG n w1 B g v1 _ gc ⟨gr,11,none⟩ _ hc1 hp1 rfl A0 ⟨rfl,ok.n⟩ iD).mono ?_;rintro e w2 ⟨rfl,v2,hc2,hf2⟩;go_wp2
 go_end0
 refine⟨rfl,v2,?_,(hf1).trans hf2⟩;simpa only[List.append_assoc] using hc2
theorem aci (r:Rc) (h:aV) (w:World) (B g:Nat) (v:Value) (bs:List UInt8) (gc gr:Nat) (hk:r.k=8) (hc:CW w B g v bs gc) (hp:dA w g v gr) (hb:aj w gr 69 (r.vals h)) (ok:r.ok) (i:fZ w B r h) (cp:h.caps)
 (hlen:bs.length+(bC r).length+10<=1000000000000):
 Calls Tryz.prog 159 #[.pointer (some ⟨gc,0,none⟩),.pointer (some ⟨gr,0,none⟩)] w (jk w B g v bs gc (bC r)):=by
 have hE:bC r=encI r.k++(encI r.n):=by unfold bC gu;simp[hk]
 rw[hE]at hlen ⊢;simp only[aK]at hlen;have hA:=At.blk hb;clear hE;obtain⟨k,t,s,pv,cm,n,pt,rd,wr,ps,pr,st⟩:=r;change k=8 at hk;subst hk;have A0:At w ⟨gr,11,none⟩ (sF n):=hA.sub (a:=[_,_,_,_,_,_,_,_,_,_,_]) (b:=[_]) (c:=[_,_,_,_,_,_,_,_,_,_,_,_,_,_,_,_,_]);go_enter Tryz.func159,Tryz.ntmps159;go_wp2_with fail;refine(kG 8 w B g v bs gc ⟨gr,0,none⟩ _ hc hp rfl (hA.sub (a:=[]) (b:=[_])) ⟨rfl,by unfold bG;omega⟩ byOmega).mono ?_;rintro e w1 ⟨rfl,v1,hc1,hf1⟩;have hp1:=hf1.bQ hp;have hb1:aj w1 gr 69 _:=(hf1.heap hp).trans hb;have c0:=cl (hb1.cell 0);replace i:=i.below (hc.lo hf1);replace A0:=hf1.at_ (p:=⟨gr,11,none⟩) hp A0;go_wp2_with fail;refine(kG n w1 B g v1 _ gc ⟨gr,11,none⟩ _ hc1 hp1 rfl A0 ⟨rfl,ok.n⟩ iD).mono ?_;rintro e w2 ⟨rfl,v2,hc2,hf2⟩;go_wp2
 go_end0
 refine⟨rfl,v2,?_,(hf1).trans hf2⟩;simpa only[List.append_assoc] using hc2
theorem acj (r:Rc) (h:aV) (w:World) (B g:Nat) (v:Value) (bs:List UInt8) (gc gr:Nat) (hk:r.k=9) (hc:CW w B g v bs gc) (hp:dA w g v gr) (hb:aj w gr 69 (r.vals h)) (ok:r.ok) (i:fZ w B r h) (cp:h.caps)
 (hlen:bs.length+(bC r).length+10<=1000000000000):
 Calls Tryz.prog 159 #[.pointer (some ⟨gc,0,none⟩),.pointer (some ⟨gr,0,none⟩)] w (jk w B g v bs gc (bC r)):=by
 have hE:bC r=encI r.k++(eP r.t++(aU r.s++(aH encI r.ps))):=by unfold bC gu;simp[hk]
 rw[hE]at hlen ⊢;simp only[aK]at hlen;have hA:=At.blk hb;clear hE;obtain⟨k,t,s,pv,cm,n,pt,rd,wr,ps,pr,st⟩:=r;change k=9 at hk;subst hk;have A0:At w ⟨gr,1,none⟩ [.int .i64 t.c,.int .i64 t.l,.int .i64 t.s]:=hA.sub (a:=[_]) (b:=[_,_,_]) (c:=[_,_,_,_,_,_,_,_,_,_,_,_,_,_,_,_,_,_,_,_,_,_,_,_,_]);have A1:At w ⟨gr,4,none⟩ [.int .i64 s.w,.int .i64 s.l,.int .i64 s.n]:=hA.sub (a:=[_,_,_,_]) (b:=[_,_,_]) (c:=[_,_,_,_,_,_,_,_,_,_,_,_,_,_,_,_,_,_,_,_,_,_]);have A2:At w ⟨gr,15,none⟩ [h.c.v]:=hA.sub (a:=[_,_,_,_,_,_,_,_,_,_,_,_,_,_,_]) (b:=[_]) (c:=[_,_,_,_,_,_,_,_,_,_,_,_,_]);go_enter Tryz.func159,Tryz.ntmps159;go_wp2_with fail;refine(kG 9 w B g v bs gc ⟨gr,0,none⟩ _ hc hp rfl (hA.sub (a:=[]) (b:=[_])) ⟨rfl,by unfold bG;omega⟩ byOmega).mono ?_;rintro e w1 ⟨rfl,v1,hc1,hf1⟩;have hp1:=hf1.bQ hp;have hb1:aj w1 gr 69 _:=(hf1.heap hp).trans hb;have c0:=cl (hb1.cell 0);replace i:=i.below (hc.lo hf1);replace A0:=hf1.at_ (p:=⟨gr,1,none⟩) hp A0;replace A1:=hf1.at_ (p:=⟨gr,4,none⟩) hp A1;replace A2:=hf1.at_ (p:=⟨gr,15,none⟩) hp A2;go_wp2_with fail;refine(Bz t w1 B g v1 _ gc ⟨gr,1,none⟩ _ hc1 hp1 rfl A0 ⟨rfl,ok.t⟩ iD).mono ?_;rintro e w2 ⟨rfl,v2,hc2,hf2⟩;have hp2:=hf2.bQ hp1;replace A1:=hf2.at_ (p:=⟨gr,4,none⟩) hp1 A1;replace A2:=hf2.at_ (p:=⟨gr,15,none⟩) hp1 A2;replace i:=i.below (hc1.lo hf2);go_wp2_with fail;refine(uP s w2 B g v2 _ gc ⟨gr,4,none⟩ _ hc2 hp2 rfl A1 ⟨rfl,ok.s⟩ iD).mono ?_;rintro e w3 ⟨rfl,v3,hc3,hf3⟩;have hp3:=hf3.bQ hp2;replace A2:=hf3.at_ (p:=⟨gr,15,none⟩) hp2 A2;replace i:=i.below (hc2.lo hf3);go_wp2_with fail;refine(MK ps _ _ _ w3 B g v3 _ gc ⟨gr,15,none⟩ hc3 hp3 A2.head i.nc i.ps iD).mono ?_;rintro e w4 ⟨rfl,v4,hc4,hf4⟩;go_wp2
 go_end0
 refine⟨rfl,v4,?_,(((hf1).trans hf2).trans hf3).trans hf4⟩;simpa only[List.append_assoc] using hc4
theorem acn (r:Rc) (h:aV) (w:World) (B g:Nat) (v:Value) (bs:List UInt8) (gc gr:Nat) (hk:r.k=10) (hc:CW w B g v bs gc) (hp:dA w g v gr) (hb:aj w gr 69 (r.vals h)) (ok:r.ok) (i:fZ w B r h) (cp:h.caps)
 (hlen:bs.length+(bC r).length+10<=1000000000000):
 Calls Tryz.prog 159 #[.pointer (some ⟨gc,0,none⟩),.pointer (some ⟨gr,0,none⟩)] w (jk w B g v bs gc (bC r)):=by
 have hE:bC r=encI r.k++(eP r.t):=by unfold bC gu;simp[hk]
 rw[hE]at hlen ⊢;simp only[aK]at hlen;have hA:=At.blk hb;clear hE;obtain⟨k,t,s,pv,cm,n,pt,rd,wr,ps,pr,st⟩:=r;change k=10 at hk;subst hk;have A0:At w ⟨gr,1,none⟩ [.int .i64 t.c,.int .i64 t.l,.int .i64 t.s]:=hA.sub (a:=[_]) (b:=[_,_,_]) (c:=[_,_,_,_,_,_,_,_,_,_,_,_,_,_,_,_,_,_,_,_,_,_,_,_,_]);go_enter Tryz.func159,Tryz.ntmps159;go_wp2_with fail;refine(kG 10 w B g v bs gc ⟨gr,0,none⟩ _ hc hp rfl (hA.sub (a:=[]) (b:=[_])) ⟨rfl,by unfold bG;omega⟩ byOmega).mono ?_;rintro e w1 ⟨rfl,v1,hc1,hf1⟩;have hp1:=hf1.bQ hp;have hb1:aj w1 gr 69 _:=(hf1.heap hp).trans hb;have c0:=cl (hb1.cell 0);replace i:=i.below (hc.lo hf1);replace A0:=hf1.at_ (p:=⟨gr,1,none⟩) hp A0;go_wp2_with fail;refine(Bz t w1 B g v1 _ gc ⟨gr,1,none⟩ _ hc1 hp1 rfl A0 ⟨rfl,ok.t⟩ iD).mono ?_;rintro e w2 ⟨rfl,v2,hc2,hf2⟩;go_wp2
 go_end0
 refine⟨rfl,v2,?_,(hf1).trans hf2⟩;simpa only[List.append_assoc] using hc2
theorem aco (r:Rc) (h:aV) (w:World) (B g:Nat) (v:Value) (bs:List UInt8) (gc gr:Nat) (hk:r.k=11) (hc:CW w B g v bs gc) (hp:dA w g v gr) (hb:aj w gr 69 (r.vals h)) (ok:r.ok) (i:fZ w B r h) (cp:h.caps)
 (hlen:bs.length+(bC r).length+10<=1000000000000):
 Calls Tryz.prog 159 #[.pointer (some ⟨gc,0,none⟩),.pointer (some ⟨gr,0,none⟩)] w (jk w B g v bs gc (bC r)):=by
 have hE:bC r=encI r.k++(aU r.pv++(aU r.s++(eP r.t++(aH bP r.wr)))):=by unfold bC gu;simp[hk]
 rw[hE]at hlen ⊢;simp only[aK]at hlen;have hA:=At.blk hb;clear hE;obtain⟨k,t,s,pv,cm,n,pt,rd,wr,ps,pr,st⟩:=r;change k=11 at hk;subst hk;have A0:At w ⟨gr,7,none⟩ [.int .i64 pv.w,.int .i64 pv.l,.int .i64 pv.n]:=hA.sub (a:=[_,_,_,_,_,_,_]) (b:=[_,_,_]) (c:=[_,_,_,_,_,_,_,_,_,_,_,_,_,_,_,_,_,_,_]);have A1:At w ⟨gr,4,none⟩ [.int .i64 s.w,.int .i64 s.l,.int .i64 s.n]:=hA.sub (a:=[_,_,_,_]) (b:=[_,_,_]) (c:=[_,_,_,_,_,_,_,_,_,_,_,_,_,_,_,_,_,_,_,_,_,_]);have A2:At w ⟨gr,1,none⟩ [.int .i64 t.c,.int .i64 t.l,.int .i64 t.s]:=hA.sub (a:=[_]) (b:=[_,_,_]) (c:=[_,_,_,_,_,_,_,_,_,_,_,_,_,_,_,_,_,_,_,_,_,_,_,_,_]);have A3:At w ⟨gr,14,none⟩ [h.b.v]:=hA.sub (a:=[_,_,_,_,_,_,_,_,_,_,_,_,_,_]) (b:=[_]) (c:=[_,_,_,_,_,_,_,_,_,_,_,_,_,_]);go_enter Tryz.func159,Tryz.ntmps159;go_wp2_with fail;refine(kG 11 w B g v bs gc ⟨gr,0,none⟩ _ hc hp rfl (hA.sub (a:=[]) (b:=[_])) ⟨rfl,by unfold bG;omega⟩ byOmega).mono ?_;rintro e w1 ⟨rfl,v1,hc1,hf1⟩;have hp1:=hf1.bQ hp;have hb1:aj w1 gr 69 _:=(hf1.heap hp).trans hb;have c0:=cl (hb1.cell 0);replace i:=i.below (hc.lo hf1);replace A0:=hf1.at_ (p:=⟨gr,7,none⟩) hp A0;replace A1:=hf1.at_ (p:=⟨gr,4,none⟩) hp A1;replace A2:=hf1.at_ (p:=⟨gr,1,none⟩) hp A2;replace A3:=hf1.at_ (p:=⟨gr,14,none⟩) hp A3;go_wp2_with fail;refine(uP pv w1 B g v1 _ gc ⟨gr,7,none⟩ _ hc1 hp1 rfl A0 ⟨rfl,ok.pv⟩ iD).mono ?_;rintro e w2 ⟨rfl,v2,hc2,hf2⟩;have hp2:=hf2.bQ hp1;replace A1:=hf2.at_ (p:=⟨gr,4,none⟩) hp1 A1;replace A2:=hf2.at_ (p:=⟨gr,1,none⟩) hp1 A2;replace A3:=hf2.at_ (p:=⟨gr,14,none⟩) hp1 A3;replace i:=i.below (hc1.lo hf2);go_wp2_with fail;refine(uP s w2 B g v2 _ gc ⟨gr,4,none⟩ _ hc2 hp2 rfl A1 ⟨rfl,ok.s⟩ iD).mono ?_;rintro e w3 ⟨rfl,v3,hc3,hf3⟩;have hp3:=hf3.bQ hp2;replace A2:=hf3.at_ (p:=⟨gr,1,none⟩) hp2 A2;replace A3:=hf3.at_ (p:=⟨gr,14,none⟩) hp2 A3;replace i:=i.below (hc2.lo hf3);go_wp2_with fail;refine(Bz t w3 B g v3 _ gc ⟨gr,1,none⟩ _ hc3 hp3 rfl A2 ⟨rfl,ok.t⟩ iD).mono ?_;rintro e w4 ⟨rfl,v4,hc4,hf4⟩;have ML:=hf4.bQ hp3;replace A3:=hf4.at_ (p:=⟨gr,14,none⟩) hp3 A3;replace i:=i.below (hc3.lo hf4);go_wp2_with fail;refine(IG wr _ _ _ w4 B g v4 _ gc ⟨gr,14,none⟩ hc4 ML A3.head i.nb i.wr iD).mono ?_;rintro e w5 ⟨rfl,v5,hc5,hf5⟩;go_wp2
 go_end0
 refine⟨rfl,v5,?_,((((hf1).trans hf2).trans hf3).trans hf4).trans hf5⟩;simpa only[List.append_assoc] using hc5
theorem acp (r:Rc) (h:aV) (w:World) (B g:Nat) (v:Value) (bs:List UInt8) (gc gr:Nat) (hk:r.k=12) (hc:CW w B g v bs gc) (hp:dA w g v gr) (hb:aj w gr 69 (r.vals h)) (ok:r.ok) (i:fZ w B r h) (cp:h.caps)
 (hlen:bs.length+(bC r).length+10<=1000000000000):
 Calls Tryz.prog 159 #[.pointer (some ⟨gc,0,none⟩),.pointer (some ⟨gr,0,none⟩)] w (jk w B g v bs gc (bC r)):=by
 have hE:bC r=encI r.k++(aU r.s++(aH bP r.pr)):=by unfold bC gu;simp[hk]
 rw[hE]at hlen ⊢;simp only[aK]at hlen;have hA:=At.blk hb;clear hE;obtain⟨k,t,s,pv,cm,n,pt,rd,wr,ps,pr,st⟩:=r;change k=12 at hk;subst hk;have A0:At w ⟨gr,4,none⟩ [.int .i64 s.w,.int .i64 s.l,.int .i64 s.n]:=hA.sub (a:=[_,_,_,_]) (b:=[_,_,_]) (c:=[_,_,_,_,_,_,_,_,_,_,_,_,_,_,_,_,_,_,_,_,_,_]);have A1:At w ⟨gr,16,none⟩ [h.d.v]:=hA.sub (a:=[_,_,_,_,_,_,_,_,_,_,_,_,_,_,_,_]) (b:=[_]) (c:=[_,_,_,_,_,_,_,_,_,_,_,_]);go_enter Tryz.func159,Tryz.ntmps159;go_wp2_with fail;refine(kG 12 w B g v bs gc ⟨gr,0,none⟩ _ hc hp rfl (hA.sub (a:=[]) (b:=[_])) ⟨rfl,by unfold bG;omega⟩ byOmega).mono ?_;rintro e w1 ⟨rfl,v1,hc1,hf1⟩;have hp1:=hf1.bQ hp;have hb1:aj w1 gr 69 _:=(hf1.heap hp).trans hb;have c0:=cl (hb1.cell 0);replace i:=i.below (hc.lo hf1);replace A0:=hf1.at_ (p:=⟨gr,4,none⟩) hp A0;replace A1:=hf1.at_ (p:=⟨gr,16,none⟩) hp A1;go_wp2_with fail;refine(uP s w1 B g v1 _ gc ⟨gr,4,none⟩ _ hc1 hp1 rfl A0 ⟨rfl,ok.s⟩ iD).mono ?_;rintro e w2 ⟨rfl,v2,hc2,hf2⟩;have hp2:=hf2.bQ hp1;replace A1:=hf2.at_ (p:=⟨gr,16,none⟩) hp1 A1;replace i:=i.below (hc1.lo hf2);go_wp2_with fail;refine(aaX pr _ _ _ w2 B g v2 _ gc ⟨gr,16,none⟩ hc2 hp2 A1.head i.nd i.pr iD).mono ?_;rintro e w3 ⟨rfl,v3,hc3,hf3⟩;go_wp2
 go_end0
 refine⟨rfl,v3,?_,((hf1).trans hf2).trans hf3⟩;simpa only[List.append_assoc] using hc3
