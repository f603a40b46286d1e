/- The walks of the document's bytes of a record. -/
import Derived.Test.YtcalkfgibflbnaaGreatBaci
import Derived.Test.YtcalkfgibflbnaaGreatBadh
import Derived.Test.YtcalkfgibflbnaaGreatBaea
import Derived.Test.YtcalkfgibflbnaaGreatBaec
namespace Go.Proofs.YtcalkfgibflbnaaGreat
set_option linter.unusedVariables false
open Go.RowKit Fl
attribute [local go_sem] dJ
set_option maxRecDepth 100000 in
set_option maxHeartbeats 16000000 in
theorem ah7 (r:Rc) (h:aV) (w:World) (hk:gy r.k=true) (ok:r.ok) (i:dO w r h) (hlen:(gu r).length<=1000000000000):
 Calls Tryz.prog 120 #[.agg (r.vals h)] w (cO w (gu r)):=by
 have hk2:=Ui hk;obtain⟨T,hT⟩:∃T,gu r=T:=⟨_,rfl⟩;rw[hT]at hlen ⊢;have hX:Below w.heap.size w (w.alloc (.cells (r.vals h) 69)):=aJ;have BX:aj (w.alloc (.cells (r.vals h) 69)) w.heap.size 69 (r.vals h):=aj.new _ _ _;have iX:=i.below hX;clear i hk;go_enter Tryz.func120,Tryz.ntmps120;go_upto_region 2 with fail;generalize (w.alloc (.cells (r.vals h) 69))=X at*;have z:=cl (BX.cell 0);rcases hk2 with e|e|e|e|e|e|e|e|e|e|e|e
 · have e1:oC r.st++[]=T:=(by rw[<-hT];unfold gu;simp[e]);rw[e]at z;clear e hT;have K:=BX;go_wp2_with (guard_target=~ wpList _ _ _ _ _ _;refine wpList_load_mid rfl 39 _ rfl w.heap.size 17 ah ((r.st.arr (.slice h.e.A h.e.n h.e.c) (.slice h.f.A h.f.n h.f.c)).toList) _ (K.rng 17 ((r.st.arr (.slice h.e.A h.e.n h.e.c) (.slice h.f.A h.f.n h.f.c)).toList)) rfl rfl ah ?_);refine(BW.fst aC e1 hlen fun hl=>WI r.st h.e.A h.f.A h.e.n h.f.n h.e.c h.f.c _ ok.rg ok.fl ok.cl iX.hs iX.pn iX.ne iX.nf hl).mono ?_;rintro e w1 ⟨A0,m0,c0,P0,rfl,b⟩;go_wp2_with fail;go_ret;exact cO.down hX b.post
 · have e1:encI r.n++[]=T:=(by rw[<-hT];unfold gu;simp[e]);rw[e]at z;clear e hT;have K:=BX;have x:=cl (K.cell 11);go_wp2_with fail;refine(BW.fst aC e1 hlen fun hl=>xi r.n _ ok.n).mono ?_;rintro e w1 ⟨A0,m0,c0,P0,rfl,b⟩;go_wp2_with fail;go_ret;exact cO.down hX b.post
 · have e1:eP r.t++(aU r.s++(aH bn r.rd++(aH bP r.wr++(aH encI r.ps++([])))))=T:=(by rw[<-hT];unfold gu;simp[e,fH]);rw[e]at z;clear e hT;go_wp2_with fail;refine wp_region_held_drew (S:=fun W'=>Below X.heap.size X W') ah (aC).drew (fun hHeld=>?_);have s0:Below X.heap.size X X.drew:=(aC).drew;refine t0 0 20 ?_;go_frame;refine tl 1 21 rfl (yieldsIf_load_mid aI _ _ rfl (w.heap.size) 1 rfl ([.int .i64 r.t.c,.int .i64 r.t.l,.int .i64 r.t.s]) _ (fun W hw=>(BX.below hw BX.lt).rng 1 ([.int .i64 r.t.c,.int .i64 r.t.l,.int .i64 r.t.s])) rfl rfl ah) ?_;go_frame;refine t0 3 23 ?_;go_frame;refine tl 4 24 rfl (yieldsIf_load_mid aI _ _ rfl (w.heap.size) 4 rfl ([.int .i64 r.s.w,.int .i64 r.s.l,.int .i64 r.s.n]) _ (fun W hw=>(BX.below hw BX.lt).rng 4 ([.int .i64 r.s.w,.int .i64 r.s.l,.int .i64 r.s.n])) rfl rfl ah) ?_;go_frame;refine tr 2 rfl (fun K hK=>?_);go_simp
   (with_reducible refine(BW.fst s0 e1 hlen fun hl=>AB r.t _ ok.t).mono ?_)
   rintro e w1 ⟨A0,m0,c0,P0,rfl,b⟩;refine hK.out _ _ b.hb (fun hHeld=>?_);clear hK K
   try go_frame
   refine tr 5 rfl (fun K hK=>?_);go_simp
   (with_reducible refine(b.call fun hl=>nG r.s _ ok.s).mono ?_)
   rintro e w2 ⟨A5,n5,c5,rfl,b2⟩;refine hK.out _ _ b2.b.hb (fun hHeld=>?_);clear hK K
   try go_frame
   refine tr (o:=⟨some 26,_,_,_,_,_⟩) 6 rfl (fun K hK=>?_);refine b2.wu rfl _ _ rfl rfl rfl ?_;clear b;intro A0 m0 c0 P0 w3 b;refine hK.out _ _ b.hb (fun hHeld=>?_);clear hK K
   try go_frame
   refine t0 7 3 ?_;go_frame;refine td ?_;clear hHeld s0 b2;have K:=b.blk BX;clear e1;have x:=cl (K.cell 13);go_wp2_with fail;refine(b.call fun hl=>Oj h.a.A h.a.n h.a.c r.rd _ ((iX.below b.hb).rd) iX.na hl).mono ?_;rintro e w4 ⟨A5,n5,c5,rfl,b2⟩;go_wp2_with (at_builtin;refine b2.app rfl _ _ rfl rfl rfl ?_;clear b K;intro A0 m0 c0 P0 w5 b;have K:=b.blk BX;have x0:=cl (K.cell 14));refine(b.call fun hl=>GL h.b.A h.b.n h.b.c r.wr _ ((iX.below b.hb).wr) iX.nb hl).mono ?_;rintro e w6 ⟨A5,n5,c5,rfl,b2⟩;go_wp2_with (at_builtin;refine b2.app rfl _ _ rfl rfl rfl ?_;clear b K;intro A0 m0 c0 P0 w7 b;have K:=b.blk BX;have x1:=cl (K.cell 15));refine(b.call fun hl=>Ol h.c.A h.c.n h.c.c r.ps _ ((iX.below b.hb).ps) iX.nc hl).mono ?_;rintro e w8 ⟨A5,n5,c5,rfl,b2⟩;go_wp2_with (at_builtin;refine b2.app rfl _ _ rfl rfl rfl ?_;clear b K;intro A0 m0 c0 P0 w9 b;have K:=b.blk BX);go_ret;exact cO.down hX b.post
 · have e1:eP r.t++(qF r.cm++(aU r.s++([])))=T:=(by rw[<-hT];unfold gu;simp[e]);rw[e]at z;clear e hT;go_wp2_with fail;refine wp_region_held_drew (S:=fun W'=>Below X.heap.size X W') ah (aC).drew (fun hHeld=>?_);have s0:Below X.heap.size X X.drew:=(aC).drew;refine t0 0 44 ?_;go_frame;refine tl 1 45 rfl (yieldsIf_load_mid aI _ _ rfl (w.heap.size) 1 rfl ([.int .i64 r.t.c,.int .i64 r.t.l,.int .i64 r.t.s]) _ (fun W hw=>(BX.below hw BX.lt).rng 1 ([.int .i64 r.t.c,.int .i64 r.t.l,.int .i64 r.t.s])) rfl rfl ah) ?_;go_frame;refine t0 3 47 ?_;go_frame;refine ts 4 48 rfl (fun W hw=>by have y:W.cell? ⟨w.heap.size,10,none⟩=some (.bool r.cm):=(hw.cell (p:=⟨w.heap.size,10,none⟩) BX.lt).trans (BX.cell 10);clear hw;go_simp;try with_reducible rfl) ?_;go_frame;refine tr 2 rfl (fun K hK=>?_);go_simp
   (with_reducible refine(BW.fst s0 e1 hlen fun hl=>AB r.t _ ok.t).mono ?_)
   rintro e w1 ⟨A0,m0,c0,P0,rfl,b⟩;refine hK.out _ _ b.hb (fun hHeld=>?_);clear hK K
   try go_frame
   refine tr 5 rfl (fun K hK=>?_);go_simp
   (with_reducible refine(b.call fun hl=>U5 r.cm _).mono ?_)
   rintro e w2 ⟨A5,n5,c5,rfl,b2⟩;refine hK.out _ _ b2.b.hb (fun hHeld=>?_);clear hK K
   try go_frame
   refine tr (o:=⟨some 50,_,_,_,_,_⟩) 6 rfl (fun K hK=>?_);refine b2.wu rfl _ _ rfl rfl rfl ?_;clear b;intro A0 m0 c0 P0 w3 b;refine hK.out _ _ b.hb (fun hHeld=>?_);clear hK K
   try go_frame
   refine t0 7 3 ?_;go_frame;refine td ?_;clear hHeld s0 b2;have K:=b.blk BX;clear e1;go_wp2_with (guard_target=~ wpList _ _ _ _ _ _;refine wpList_load_mid rfl 26 _ rfl w.heap.size 4 ah ([.int .i64 r.s.w,.int .i64 r.s.l,.int .i64 r.s.n]) _ (K.rng 4 ([.int .i64 r.s.w,.int .i64 r.s.l,.int .i64 r.s.n])) rfl rfl ah ?_);refine(b.call fun hl=>nG r.s _ ok.s).mono ?_;rintro e w4 ⟨A5,n5,c5,rfl,b2⟩;go_wp2_with (at_builtin;refine b2.app rfl _ _ rfl rfl rfl ?_;clear b K;intro A0 m0 c0 P0 w5 b;have K:=b.blk BX);go_ret;exact cO.down hX b.post
 · have e1:aU r.s++[]=T:=(by rw[<-hT];unfold gu;simp[e]);rw[e]at z;clear e hT;have K:=BX;go_wp2_with (guard_target=~ wpList _ _ _ _ _ _;refine wpList_load_mid rfl 26 _ rfl w.heap.size 4 ah ([.int .i64 r.s.w,.int .i64 r.s.l,.int .i64 r.s.n]) _ (K.rng 4 ([.int .i64 r.s.w,.int .i64 r.s.l,.int .i64 r.s.n])) rfl rfl ah ?_);refine(BW.fst aC e1 hlen fun hl=>nG r.s _ ok.s).mono ?_;rintro e w1 ⟨A0,m0,c0,P0,rfl,b⟩;go_wp2_with fail;go_ret;exact cO.down hX b.post
 · have e1:dK r.pt++(encI r.n++(aU r.s++([])))=T:=(by rw[<-hT];unfold gu;simp[e]);rw[e]at z;clear e hT;go_wp2_with fail;refine wp_region_held_drew (S:=fun W'=>Below X.heap.size X W') ah (aC).drew (fun hHeld=>?_);have s0:Below X.heap.size X X.drew:=(aC).drew;refine t0 0 63 ?_;go_frame;refine ts 1 64 rfl (fun W hw=>by have y:W.cell? ⟨w.heap.size,12,none⟩=some (.float .f64 r.pt):=(hw.cell (p:=⟨w.heap.size,12,none⟩) BX.lt).trans (BX.cell 12);clear hw;go_simp;try with_reducible rfl) ?_;go_frame;refine t0 3 66 ?_;go_frame;refine ts 4 67 rfl (fun W hw=>by have y:W.cell? ⟨w.heap.size,11,none⟩=some (.int .i64 r.n):=(hw.cell (p:=⟨w.heap.size,11,none⟩) BX.lt).trans (BX.cell 11);clear hw;go_simp;try with_reducible rfl) ?_;go_frame;refine tr 2 rfl (fun K hK=>?_);go_simp
   (with_reducible refine(BW.fst s0 e1 hlen fun hl=>Jy r.pt _ ok.pt).mono ?_)
   rintro e w1 ⟨A0,m0,c0,P0,rfl,b⟩;refine hK.out _ _ b.hb (fun hHeld=>?_);clear hK K
   try go_frame
   refine tr 5 rfl (fun K hK=>?_);go_simp
   (with_reducible refine(b.call fun hl=>xi r.n _ ok.n).mono ?_)
   rintro e w2 ⟨A5,n5,c5,rfl,b2⟩;refine hK.out _ _ b2.b.hb (fun hHeld=>?_);clear hK K
   try go_frame
   refine tr (o:=⟨some 69,_,_,_,_,_⟩) 6 rfl (fun K hK=>?_);refine b2.wu rfl _ _ rfl rfl rfl ?_;clear b;intro A0 m0 c0 P0 w3 b;refine hK.out _ _ b.hb (fun hHeld=>?_);clear hK K
   try go_frame
   refine t0 7 3 ?_;go_frame;refine td ?_;clear hHeld s0 b2;have K:=b.blk BX;clear e1;go_wp2_with (guard_target=~ wpList _ _ _ _ _ _;refine wpList_load_mid rfl 26 _ rfl w.heap.size 4 ah ([.int .i64 r.s.w,.int .i64 r.s.l,.int .i64 r.s.n]) _ (K.rng 4 ([.int .i64 r.s.w,.int .i64 r.s.l,.int .i64 r.s.n])) rfl rfl ah ?_);refine(b.call fun hl=>nG r.s _ ok.s).mono ?_;rintro e w4 ⟨A5,n5,c5,rfl,b2⟩;go_wp2_with (at_builtin;refine b2.app rfl _ _ rfl rfl rfl ?_;clear b K;intro A0 m0 c0 P0 w5 b;have K:=b.blk BX);go_ret;exact cO.down hX b.post
 · have e1:encI r.n++[]=T:=(by rw[<-hT];unfold gu;simp[e]);rw[e]at z;clear e hT;have K:=BX;have x:=cl (K.cell 11);go_wp2_with fail;refine(BW.fst aC e1 hlen fun hl=>xi r.n _ ok.n).mono ?_;rintro e w1 ⟨A0,m0,c0,P0,rfl,b⟩;go_wp2_with fail;go_ret;exact cO.down hX b.post
 · have e1:encI r.n++[]=T:=(by rw[<-hT];unfold gu;simp[e]);rw[e]at z;clear e hT;have K:=BX;have x:=cl (K.cell 11);go_wp2_with fail;refine(BW.fst aC e1 hlen fun hl=>xi r.n _ ok.n).mono ?_;rintro e w1 ⟨A0,m0,c0,P0,rfl,b⟩;go_wp2_with fail;go_ret;exact cO.down hX b.post
 · have e1:eP r.t++(aU r.s++(aH encI r.ps++([])))=T:=(by rw[<-hT];unfold gu;simp[e]);rw[e]at z;clear e hT;go_wp2_with fail;refine wp_region_held_drew (S:=fun W'=>Below X.heap.size X W') ah (aC).drew (fun hHeld=>?_);have s0:Below X.heap.size X X.drew:=(aC).drew;refine t0 0 77 ?_;go_frame;refine tl 1 78 rfl (yieldsIf_load_mid aI _ _ rfl (w.heap.size) 1 rfl ([.int .i64 r.t.c,.int .i64 r.t.l,.int .i64 r.t.s]) _ (fun W hw=>(BX.below hw BX.lt).rng 1 ([.int .i64 r.t.c,.int .i64 r.t.l,.int .i64 r.t.s])) rfl rfl ah) ?_;go_frame;refine t0 3 80 ?_;go_frame;refine tl 4 81 rfl (yieldsIf_load_mid aI _ _ rfl (w.heap.size) 4 rfl ([.int .i64 r.s.w,.int .i64 r.s.l,.int .i64 r.s.n]) _ (fun W hw=>(BX.below hw BX.lt).rng 4 ([.int .i64 r.s.w,.int .i64 r.s.l,.int .i64 r.s.n])) rfl rfl ah) ?_;go_frame;refine tr 2 rfl (fun K hK=>?_);go_simp
   (with_reducible refine(BW.fst s0 e1 hlen fun hl=>AB r.t _ ok.t).mono ?_)
   rintro e w1 ⟨A0,m0,c0,P0,rfl,b⟩;refine hK.out _ _ b.hb (fun hHeld=>?_);clear hK K
   try go_frame
   refine tr 5 rfl (fun K hK=>?_);go_simp
   (with_reducible refine(b.call fun hl=>nG r.s _ ok.s).mono ?_)
   rintro e w2 ⟨A5,n5,c5,rfl,b2⟩;refine hK.out _ _ b2.b.hb (fun hHeld=>?_);clear hK K
   try go_frame
   refine tr (o:=⟨some 83,_,_,_,_,_⟩) 6 rfl (fun K hK=>?_);refine b2.wu rfl _ _ rfl rfl rfl ?_;clear b;intro A0 m0 c0 P0 w3 b;refine hK.out _ _ b.hb (fun hHeld=>?_);clear hK K
   try go_frame
   refine t0 7 3 ?_;go_frame;refine td ?_;clear hHeld s0 b2;have K:=b.blk BX;clear e1;have x:=cl (K.cell 15);go_wp2_with fail;refine(b.call fun hl=>Ol h.c.A h.c.n h.c.c r.ps _ ((iX.below b.hb).ps) iX.nc hl).mono ?_;rintro e w4 ⟨A5,n5,c5,rfl,b2⟩;go_wp2_with (at_builtin;refine b2.app rfl _ _ rfl rfl rfl ?_;clear b K;intro A0 m0 c0 P0 w5 b;have K:=b.blk BX);go_ret;exact cO.down hX b.post
 · have e1:eP r.t++[]=T:=(by rw[<-hT];unfold gu;simp[e]);rw[e]at z;clear e hT;have K:=BX;go_wp2_with (guard_target=~ wpList _ _ _ _ _ _;refine wpList_load_mid rfl 23 _ rfl w.heap.size 1 ah ([.int .i64 r.t.c,.int .i64 r.t.l,.int .i64 r.t.s]) _ (K.rng 1 ([.int .i64 r.t.c,.int .i64 r.t.l,.int .i64 r.t.s])) rfl rfl ah ?_);refine(BW.fst aC e1 hlen fun hl=>AB r.t _ ok.t).mono ?_;rintro e w1 ⟨A0,m0,c0,P0,rfl,b⟩;go_wp2_with fail;go_ret;exact cO.down hX b.post
 · have e1:aU r.pv++(aU r.s++(eP r.t++(aH bP r.wr++([]))))=T:=(by rw[<-hT];unfold gu;simp[e]);rw[e]at z;clear e hT;go_wp2_with fail;refine wp_region_held_drew (S:=fun W'=>Below X.heap.size X W') ah (aC).drew (fun hHeld=>?_);have s0:Below X.heap.size X X.drew:=(aC).drew;refine t0 0 96 ?_;go_frame;refine tl 1 97 rfl (yieldsIf_load_mid aI _ _ rfl (w.heap.size) 7 rfl ([.int .i64 r.pv.w,.int .i64 r.pv.l,.int .i64 r.pv.n]) _ (fun W hw=>(BX.below hw BX.lt).rng 7 ([.int .i64 r.pv.w,.int .i64 r.pv.l,.int .i64 r.pv.n])) rfl rfl ah) ?_;go_frame;refine t0 3 99 ?_;go_frame;refine tl 4 100 rfl (yieldsIf_load_mid aI _ _ rfl (w.heap.size) 4 rfl ([.int .i64 r.s.w,.int .i64 r.s.l,.int .i64 r.s.n]) _ (fun W hw=>(BX.below hw BX.lt).rng 4 ([.int .i64 r.s.w,.int .i64 r.s.l,.int .i64 r.s.n])) rfl rfl ah) ?_;go_frame;refine tr 2 rfl (fun K hK=>?_);go_simp
   (with_reducible refine(BW.fst s0 e1 hlen fun hl=>nG r.pv _ ok.pv).mono ?_)
   rintro e w1 ⟨A0,m0,c0,P0,rfl,b⟩;refine hK.out _ _ b.hb (fun hHeld=>?_);clear hK K
   try go_frame
   refine tr 5 rfl (fun K hK=>?_);go_simp
   (with_reducible refine(b.call fun hl=>nG r.s _ ok.s).mono ?_)
   rintro e w2 ⟨A5,n5,c5,rfl,b2⟩;refine hK.out _ _ b2.b.hb (fun hHeld=>?_);clear hK K
   try go_frame
   refine tr (o:=⟨some 102,_,_,_,_,_⟩) 6 rfl (fun K hK=>?_);refine b2.wu rfl _ _ rfl rfl rfl ?_;clear b;intro A0 m0 c0 P0 w3 b;refine hK.out _ _ b.hb (fun hHeld=>?_);clear hK K
   try go_frame
   refine t0 7 3 ?_;go_frame;refine td ?_;clear hHeld s0 b2;have K:=b.blk BX;clear e1;go_wp2_with (guard_target=~ wpList _ _ _ _ _ _;refine wpList_load_mid rfl 23 _ rfl w.heap.size 1 ah ([.int .i64 r.t.c,.int .i64 r.t.l,.int .i64 r.t.s]) _ (K.rng 1 ([.int .i64 r.t.c,.int .i64 r.t.l,.int .i64 r.t.s])) rfl rfl ah ?_);refine(b.call fun hl=>AB r.t _ ok.t).mono ?_;rintro e w4 ⟨A5,n5,c5,rfl,b2⟩;go_wp2_with (at_builtin;refine b2.app rfl _ _ rfl rfl rfl ?_;clear b K;intro A0 m0 c0 P0 w5 b;have K:=b.blk BX;have x0:=cl (K.cell 14));refine(b.call fun hl=>GL h.b.A h.b.n h.b.c r.wr _ ((iX.below b.hb).wr) iX.nb hl).mono ?_;rintro e w6 ⟨A5,n5,c5,rfl,b2⟩;go_wp2_with (at_builtin;refine b2.app rfl _ _ rfl rfl rfl ?_;clear b K;intro A0 m0 c0 P0 w7 b;have K:=b.blk BX);go_ret;exact cO.down hX b.post
 · have e1:aU r.s++(aH bP r.pr++([]))=T:=(by rw[<-hT];unfold gu;simp[e]);rw[e]at z;clear e hT;go_wp2_with fail;refine wp_region_held_drew (S:=fun W'=>Below X.heap.size X W') ah (aC).drew (fun hHeld=>?_);have s0:Below X.heap.size X X.drew:=(aC).drew;refine t0 0 113 ?_;go_frame;refine tl 1 114 rfl (yieldsIf_load_mid aI _ _ rfl (w.heap.size) 4 rfl ([.int .i64 r.s.w,.int .i64 r.s.l,.int .i64 r.s.n]) _ (fun W hw=>(BX.below hw BX.lt).rng 4 ([.int .i64 r.s.w,.int .i64 r.s.l,.int .i64 r.s.n])) rfl rfl ah) ?_;go_frame;refine t0 3 116 ?_;go_frame;refine ts 4 117 rfl (fun W hw=>by have y:W.cell? ⟨w.heap.size,16,none⟩=some (.slice h.d.A h.d.n h.d.c):=(hw.cell (p:=⟨w.heap.size,16,none⟩) BX.lt).trans (BX.cell 16);clear hw;go_simp;try with_reducible rfl) ?_;go_frame;refine tr 2 rfl (fun K hK=>?_);go_simp
   (with_reducible refine(BW.fst s0 e1 hlen fun hl=>nG r.s _ ok.s).mono ?_)
   rintro e w1 ⟨A0,m0,c0,P0,rfl,b⟩;refine hK.out _ _ b.hb (fun hHeld=>?_);clear hK K
   try go_frame
   refine tr 5 rfl (fun K hK=>?_);go_simp
   (with_reducible refine(b.call fun hl=>afu h.d.A h.d.n h.d.c r.pr _ ((iX.below b.hb).pr) iX.nd hl).mono ?_)
   rintro e w2 ⟨A5,n5,c5,rfl,b2⟩;refine hK.out _ _ b2.b.hb (fun hHeld=>?_);clear hK K
   try go_frame
   refine tr (o:=⟨some 119,_,_,_,_,_⟩) 6 rfl (fun K hK=>?_);refine b2.wu rfl _ _ rfl rfl rfl ?_;clear b;intro A0 m0 c0 P0 w3 b;refine hK.out _ _ b.hb (fun hHeld=>?_);clear hK K
   try go_frame
   refine t0 7 2 ?_;go_frame;refine td ?_;clear hHeld s0 b2;have K:=b.blk BX;clear e1
   try (go_wp2_with fail)
   go_ret;exact cO.down hX b.post
set_option maxRecDepth 100000 in
set_option maxHeartbeats 4000000 in
theorem WX (r:Rc) (h:aV) (w:World) (ok:r.ok) (i:dO w r h) (sm:iR r h) (hlen:(bC r).length+10<=1000000000000):
 Calls Tryz.prog 72 #[.agg (r.vals h)] w (sV w (fM r) (gU r)):=by
 have hM:=fun w' (hb:Below w.heap.size w w')=>ah6 r h w' ok (i.below hb) sm
 have hX:Below w.heap.size w (w.alloc (.cells (r.vals h) 69)):=aJ;have B0:aj (w.alloc (.cells (r.vals h) 69)) w.heap.size 69 (r.vals h):=aj.new _ _ _;by_cases hm:lq r=0
 · have hk:gy r.k=true:=by
    cases hq:gy r.k
    · unfold lq at hm;rw[hq]at hm;cases hm
    · rfl
   have HE:=au (show gU r=if 262144<(bC r).length then 2 else 0 by unfold gU;rw[if_pos hm]);have HO:=au (show fM r=if 262144<(bC r).length then [] else bC r by unfold fM;rw[HE.out];by_cases hq:262144<(bC r).length<;>simp[hq]);rw[hm]at hM;clear hm;obtain⟨i0,hi0,hz0,hz1,hz2⟩:=oW oV;have kk1:=ok.k.1;have kk2:=ok.k.2;have hl:(bC r).length=(encI r.k).length+(gu r).length:=(by unfold bC;rw[aK]);have hl1:(encI r.k).length+(gu r).length+10<=1000000000000:=byOmega;have HL:=au hl;clear hl hlen;go_enter Tryz.func72,Tryz.ntmps72;go_wp2_with (first
    |(refine wpList_load_row rfl 69 _ rfl w.heap.size rfl _ _ (0,0) _ B0 rfl rfl ah ?_)
    |((with_reducible refine(hM _ hX).mono ?_);rintro e w0 ⟨rfl,hb0⟩))
   have HX:Below w.heap.size w w0:=hX.trans (hb0.mono hX.size);have OL:aj w0 w.heap.size 69 (r.vals h):=B0.below hb0 B0.lt;have HB:w.heap.size<w0.heap.size:=OL.lt;have C0:=cl (OL.cell 0);have IX:=i.below HX;clear hM hX B0 i sm hb0;go_wp2_with fail;refine wp_region_held_drew (S:=fun W'=>Below (w0).heap.size (w0) W') ah (aC).drew (fun hHeld=>?_);refine wpAnyH_take (i:=0) (oi:=⟨some 11,_,_,_,_,_⟩) (v:=.pointer (some ⟨w.heap.size,0,none⟩)) rfl ah ah ah (fun _ _ _ h=>h) (Or.inl ⟨ah,fun W hSw=>by clear hSw;go_simp⟩) hHeld ?_;go_frame;refine wpAnyH_take (i:=1) (oi:=⟨some 12,_,_,_,_,_⟩) (v:=.int .i64 r.k) rfl ah ah ah (fun _ _ _ h=>h) (Or.inl ⟨ah,fun W hSw=>by have z:=(hSw.cell (p:=⟨w.heap.size,0,none⟩) HB).trans C0;clear hSw;go_simp⟩) hHeld ?_;go_frame;refine tl 3 14 rfl (vP aI _ _ rfl (w.heap.size) rfl _ _ _ (fun _ hw=>OL.below hw HB) rfl rfl ah) ?_;go_frame;have s0:Below (w0).heap.size (w0) (w0).drew:=(aC).drew;refine tr (o:=⟨some 13,_,_,_,_,_⟩) 2 rfl fun K hK=>?_
   go_simp
   (with_reducible refine(lQ r.k _ kk1 kk2).mono ?_)
   rintro e w1 ⟨A1,q1,rfl,hq1,hm1,hown1,hb1⟩;have s1:Below (w0).heap.size (w0) w1:=s0.trans (hb1.mono (s0).size);refine hK.out _ _ s1 (fun hHeld=>?_);clear hK K
   try go_frame
   have hrow1:kM (w0) (encI r.k) (.slice A1 (encI r.k).length q1) w1:=⟨hown1,s1⟩;refine tr (o:=⟨some 15,_,_,_,_,_⟩) 4 rfl fun K hK=>?_
   go_simp
   (with_reducible refine(ah7 r h _ hk ok (IX.below s1) byOmega).mono ?_)
   rintro e w2 ⟨A2,q2,rfl,hq2,hm2,hown2,hb2⟩;have s2:Below (w0).heap.size (w0) w2:=s1.trans (hb2.mono (s1).size);refine hK.out _ _ s2 (fun hHeld=>?_);clear hK K
   try go_frame
   have hrow2:=hrow1.below hb2;have za:(encI r.k).length+(gu r).length<=maxLen:=(by unfold maxLen;omega);have zb:((encI r.k).length+(gu r).length)*1<=140737488355328:=byOmega;refine tr (o:=⟨some 16,_,_,_,_,_⟩) 5 rfl fun K hK=>?_
   refine wG _ rfl _ _ _ rfl (w0).heap.size 5 i0 _ 1 1 Tryz.underlying49 hi0 hz0 hz1 hz2 rfl byOmega (.slice A1 (encI r.k).length q1) _ (bytesV (encI r.k)) aI hrow2.1 w2.heap.size A2 (gu r).length q2 (bytesV (gu r)) aI (Reads.kK hown2) (mY _) za zb hrow2.2.size ?_;intro v2' w2' qU qV xu;have hr2:=hrow2.push aC qU qV;obtain⟨P2,HP2,vw⟩:=named (encI r.k) (gu r);rw[<-HP2.out]at hr2;obtain⟨pz,q2',rfl,Et,Eu⟩:=fP hr2.1;refine hK.out _ _ hr2.2 (fun hHeld=>?_);clear hK K
   try go_frame
   refine wpAnyH_take (i:=6) (oi:=⟨some 5,_,_,_,_,_⟩) (v:=.slice pz P2.length q2') rfl ah ah ah (fun _ _ _ h=>h) (Or.inl ⟨ah,fun W hSw=>by clear hSw;go_simp⟩) hHeld ?_;go_frame;refine td ?_;clear za zb qU qV xu hrow1 hrow2 hown1 hown2 hb1 hb2 s0 s1 s2 hHeld;have GI:=up C0 hr2.2 HB;have hB3:Below w.heap.size w w2':=HX.trans (hr2.2.mono HX.size);have HQ:RowKit.Hid (P2=bC r):=au (by rw[HP2.out];rfl);have hq:P2.length=(bC r).length:=(by rw[HQ.out]);have WY:=au hq;clear hq;go_wp2
   · have hgt:262144<(bC r).length:=by have:=WY.out;omega
     go_ret2
     rw[HE.out,HO.out,if_pos hgt,if_pos hgt];exact sV.nil 2 hB3
   · have hgt:¬262144<(bC r).length:=by have:=WY.out;omega
     go_ret2
     rw[HE.out,HO.out,if_neg hgt,if_neg hgt,<-HQ.out];exact⟨pz,q2',rfl,Et,Eu,zu hr2.1 HX.size,hB3⟩
 · have h1:gU r=lq r:=(by unfold gU;rw[if_neg hm]);have h2:fM r=[]:=(by unfold fM;rw[h1,if_neg hm]);rw[h1,h2];have hb0:(lq r !=0)=true:=(by simp[hm]);generalize lq r=m at*;clear h1 h2 hm;go_enter Tryz.func72,Tryz.ntmps72;go_wp2_with (first
    |(refine wpList_load_row rfl 69 _ rfl w.heap.size rfl _ _ (0,0) _ B0 rfl rfl ah ?_)
    |((with_reducible refine(hM _ hX).mono ?_);rintro e w1 ⟨rfl,hb1⟩))
   go_ret2
   exact sV.nil m (hX.trans (hb1.mono hX.size))
set_option maxHeartbeats 4000000
set_option maxRecDepth 100000
theorem WZ (A:Option Addr) (n c:Nat) (l:List Sn) (w:World) (h:Sl gI 7 w w.heap.size A n l) (hn:n<=maxLen) (hlen:(aH iL l).length<=1000000000000):
 Calls Tryz.prog 148 #[.slice A n c] w (cO w (aH iL l)):=by
 unfold maxLen at hn;have hln:l.length=n:=h.1;have hle:l.length<=n:=byOmega;have hge:n<=l.length:=byOmega;have e0:encI (n:Int)++l.flatMap iL=aH iL l:=by unfold aH;rw[hln]
 generalize aH iL l=T at*;clear hln;go_enter Tryz.func148,Tryz.ntmps148;go_wp2_with fail;refine(BW.fst (Below.refl w.heap.size w) e0 hlen fun _=>lQ (n:Int) _ byOmega byOmega).mono ?_;rintro e w1 ⟨A0,m0,c0,P0,rfl,b0⟩;clear e0 hlen;go_wp2_with fail
 go_loopw [3,4] (fun out i wr=>∃(k:Nat) (A0:Option Addr) (m0 c0:Nat) (P0:List UInt8),k<=n/\i=.int .i64 (k:Int)/\out=.slice A0 m0 c0/\BW w T ((l.drop k).flatMap iL) P0 A0 m0 c0 wr) (fun _ i _=>n-(intOf i).toNat)
 case atStart=>exact⟨0,A0,m0,c0,P0,byOmega,rfl,rfl,b0⟩
 case round=>
  clear b0;obtain⟨k,A0,m0,c0,P0,hk,rfl,rfl,b⟩:=hrel;by_cases hlt:k<n
  · obtain⟨ad,a,rfl,hl,hbk,hok,C0,C1,C2,C3,C4,C5,C6⟩:=h.sn hlt;have hd1:decide ((k:Int)<(n:Int))=true:=ay;have hk0:(0:Int)<=(k:Int):=byOmega;have hk1:(k:Int)<(n:Int):=byOmega;replace b:=b.as (qC:=bn a.key++(eY a.v++(aU a.s++(l.drop (k+1)).flatMap iL))) (by rw[yB hl];simp only[iL,List.append_assoc]);clear hl;have x0:=(b.r.2.cell (p:=(ad.add (k*7))) hbk).trans C0;go_wp2_with fail;refine(b.call fun hl=>CQ a.key _ (by have e:a.key.size=a.key.data.toList.length:=(Array.length_toList (xs:=a.key.data)).symm;unfold bn jX at hl;rw[aK]at hl;omega)).mono ?_;rintro e w2 ⟨A5,n5,c5,rfl,b2⟩;go_wp2_with (at_builtin;refine b2.app rfl _ _ rfl rfl rfl ?_;intro A0 m0 c0 P0 w3 b;have x1:=(b.r.2.cell (p:=⟨(ad.add (k*7)).block,(ad.add (k*7)).off+1,none⟩) hbk).trans C1;have x2:=(b.r.2.cell (p:=⟨(ad.add (k*7)).block,(ad.add (k*7)).off+2,none⟩) hbk).trans C2;have x3:=(b.r.2.cell (p:=⟨(ad.add (k*7)).block,(ad.add (k*7)).off+3,none⟩) hbk).trans C3);clear b2 x0;go_wp2_with fail;refine(b.call fun hl=>JF a.v _ hok.2.1 hl).mono ?_;rintro e w4 ⟨A5,n5,c5,rfl,b2⟩;go_wp2_with (at_builtin;refine b2.app rfl _ _ rfl rfl rfl ?_;intro A0 m0 c0 P0 w5 b;have x4:=(b.r.2.cell (p:=⟨(ad.add (k*7)).block,(ad.add (k*7)).off+4,none⟩) hbk).trans C4;have x5:=(b.r.2.cell (p:=⟨(ad.add (k*7)).block,(ad.add (k*7)).off+5,none⟩) hbk).trans C5;have x6:=(b.r.2.cell (p:=⟨(ad.add (k*7)).block,(ad.add (k*7)).off+6,none⟩) hbk).trans C6);clear b2 x1 x2 x3;go_wp2_with fail;refine(b.call fun hl=>nG a.s _ hok.2.2).mono ?_;rintro e w6 ⟨A5,n5,c5,rfl,b2⟩;go_wp2_with (at_builtin;refine b2.app rfl _ _ rfl rfl rfl ?_;intro A0 m0 c0 P0 w7 b);clear b2;go_roundw
    case rel=>exact⟨k+1,_,_,_,_,byOmega,by go_num,rfl,b⟩
    case measure=>simp[intOf];omega
  · have hd1:decide ((k:Int)<(n:Int))=false:=ay;go_wp2_with fail;go_ret;rw[bF byOmega]at b;exact b.post
theorem W9 (A:Option Addr) (n c:Nat) (l:List Rg) (w:World) (h:Sl gX 4 w w.heap.size A n l) (hn:n<=maxLen) (hlen:(aH dU l).length<=1000000000000):
 Calls Tryz.prog 149 #[.slice A n c] w (cO w (aH dU l)):=by
 unfold maxLen at hn;have hln:l.length=n:=h.1;have hle:l.length<=n:=byOmega;have hge:n<=l.length:=byOmega;have e0:encI (n:Int)++l.flatMap dU=aH dU l:=by unfold aH;rw[hln]
 generalize aH dU l=T at*;clear hln;go_enter Tryz.func149,Tryz.ntmps149;go_wp2_with fail;refine(BW.fst (Below.refl w.heap.size w) e0 hlen fun _=>lQ (n:Int) _ byOmega byOmega).mono ?_;rintro e w1 ⟨A0,m0,c0,P0,rfl,b0⟩;clear e0 hlen;go_wp2_with fail
 go_loopw [3,4] (fun out i wr=>∃(k:Nat) (A0:Option Addr) (m0 c0:Nat) (P0:List UInt8),k<=n/\i=.int .i64 (k:Int)/\out=.slice A0 m0 c0/\BW w T ((l.drop k).flatMap dU) P0 A0 m0 c0 wr) (fun _ i _=>n-(intOf i).toNat)
 case atStart=>exact⟨0,A0,m0,c0,P0,byOmega,rfl,rfl,b0⟩
 case round=>
  clear b0;obtain⟨k,A0,m0,c0,P0,hk,rfl,rfl,b⟩:=hrel;by_cases hlt:k<n
  · obtain⟨ad,a,rfl,hl,hbk,hok,C0,C1,C2,C3⟩:=h.rg hlt;have hd1:decide ((k:Int)<(n:Int))=true:=ay;have hk0:(0:Int)<=(k:Int):=byOmega;have hk1:(k:Int)<(n:Int):=byOmega;replace b:=b.as (qC:=dU a++(l.drop (k+1)).flatMap dU) (by rw[yB hl]);clear hl;have x0:=(b.r.2.cell (p:=(ad.add (k*4))) hbk).trans C0;have x1:=(b.r.2.cell (p:=⟨(ad.add (k*4)).block,(ad.add (k*4)).off+1,none⟩) hbk).trans C1;have x2:=(b.r.2.cell (p:=⟨(ad.add (k*4)).block,(ad.add (k*4)).off+2,none⟩) hbk).trans C2;have x3:=(b.r.2.cell (p:=⟨(ad.add (k*4)).block,(ad.add (k*4)).off+3,none⟩) hbk).trans C3;go_wp2_with fail;refine(b.call fun hl=>Ve a _ hok).mono ?_;rintro e w2 ⟨A5,n5,c5,rfl,b2⟩;go_wp2_with (at_builtin;refine b2.app rfl _ _ rfl rfl rfl ?_;intro A0 m0 c0 P0 w3 b);clear b2;go_roundw
    case rel=>exact⟨k+1,_,_,_,_,byOmega,by go_num,rfl,b⟩
    case measure=>simp[intOf];omega
  · have hd1:decide ((k:Int)<(n:Int))=false:=ay;go_wp2_with fail;go_ret;rw[bF byOmega]at b;exact b.post
theorem ah8 (A:Option Addr) (n c:Nat) (l:List Rc) (w:World) (hpl:∀r∈l,jo r) (h:Sl eX 29 w w.heap.size A n l) (hn:n<=maxLen) (hlen:(aH iM l).length<=1000000000000):
 Calls Tryz.prog 93 #[.slice A n c] w (cO w (aH iM l)):=by
 unfold maxLen at hn;have hln:l.length=n:=h.1;have hle:l.length<=n:=byOmega;have hge:n<=l.length:=byOmega;have e0:encI (n:Int)++l.flatMap iM=aH iM l:=by unfold aH;rw[hln]
 generalize aH iM l=T at*;clear hln;go_enter Tryz.func93,Tryz.ntmps93;go_wp2_with fail;refine(BW.fst (Below.refl w.heap.size w) e0 hlen fun _=>lQ (n:Int) _ byOmega byOmega).mono ?_;rintro e w1 ⟨A0,m0,c0,P0,rfl,b0⟩;clear e0 hlen;go_wp2_with fail
 go_loopw [3,4] (fun out i wr=>∃(k:Nat) (A0:Option Addr) (m0 c0:Nat) (P0:List UInt8),k<=n/\i=.int .i64 (k:Int)/\out=.slice A0 m0 c0/\BW w T ((l.drop k).flatMap iM) P0 A0 m0 c0 wr) (fun _ i _=>n-(intOf i).toNat)
 case atStart=>exact⟨0,A0,m0,c0,P0,byOmega,rfl,rfl,b0⟩
 case round=>
  clear b0;obtain⟨k,A0,m0,c0,P0,hk,rfl,rfl,b⟩:=hrel;by_cases hlt:k<n
  · obtain⟨ad,a,g,q,o,rfl,hl,ea,hq,hrg,ok,cp,lo⟩:=h.GN hlt;have pl:=hpl a (List.mem_of_getElem? hl);have hol:(fM a).length<=6000000:=by
        have:=pl.e;unfold fM;split
        · exact this
        · exact Nat.zero_le _
    have hd1:decide ((k:Int)<(n:Int))=true:=ay;have hk0:(0:Int)<=(k:Int):=byOmega;have hk1:(k:Int)<(n:Int):=byOmega;replace b:=b.as (qC:=iM a++(l.drop (k+1)).flatMap iM) (by rw[yB hl]);clear hl;have lo2:=(lo.below b.r.2).more b.r.2.size;have hg2:=ah9 hrg b.r.2 hq;go_wp2_with (guard_target=~ wpList _ _ _ _ _ _;refine wpList_load_mid rfl 69 _ rfl q o ah (a.vals g).toList _ hg2 rfl rfl ah ?_);refine(WX a g _ ok lo2.into (pl.sm lo2) (by have:=pl.e;omega)).mono ?_;rintro e w2 ⟨A2,c2,rfl,-,-,o2,hb2⟩;replace b:=b.below hb2;have hcv:=DU (P:=Tryz.prog) w2 49 9 5 Tryz.underlying49 Tryz.underlying5 Tryz.underlying9 (c:=c2) (Reads.kK o2);go_wp2_with fail;refine(b.call fun hl=>CQ ⟨(fM a).toArray⟩ _ (by show (fM a).toArray.size<=_;simp;have:=hol;omega)).mono ?_;rintro e w4 ⟨A5,n5,c5,rfl,b2⟩;go_wp2_with (at_builtin;refine b2.app rfl _ _ rfl rfl rfl ?_;intro A0 m0 c0 P0 w5 b);clear b2 hcv;go_roundw
    case rel=>exact⟨k+1,_,_,_,_,byOmega,by go_num,rfl,b⟩
    case measure=>simp[intOf];omega
  · have hd1:decide ((k:Int)<(n:Int))=false:=ay;go_wp2_with fail;go_ret;rw[bF byOmega]at b;exact b.post
