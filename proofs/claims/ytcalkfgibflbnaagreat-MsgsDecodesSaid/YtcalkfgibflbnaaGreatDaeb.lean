/- The walks of the document's bytes of a record. -/
import Derived.Test.YtcalkfgibflbnaaGreatDadg
import Derived.Test.YtcalkfgibflbnaaGreatDaea
namespace Go.Proofs.YtcalkfgibflbnaaGreat
set_option linter.unusedVariables false
open Go.RowKit Fl
attribute [local go_sem] run_store_float
set_option maxRecDepth 100000 in
set_option maxHeartbeats 16000000 in
theorem xBody (r:Rc) (h:Hds) (w:World) (hk:kindB r.k=true) (ok:r.ok) (i:RcIn w r h) (hlen:(encBody r).length≤1000000000000):
 Calls Tryz.prog 120 #[.agg (r.vals h)] w (RowPost w (encBody r)):=by
 have hk2:=kind_cases hk
 obtain⟨T,hT⟩:∃T,encBody r=T:=⟨_,rfl⟩
 rw[hT]at hlen ⊢
 have hX:Below w.heap.size w (w.alloc (.cells (r.vals h) 69)):=by go_grown
 have BX:Blk (w.alloc (.cells (r.vals h) 69)) w.heap.size 69 (r.vals h):=Blk.new _ _ _
 have iX:=i.below hX
 clear i hk
 go_enter Tryz.func120,Tryz.ntmps120
 go_upto_region 2 with fail
 generalize (w.alloc (.cells (r.vals h) 69))=X at*
 have z:=cl (BX.cell 0)
 rcases hk2 with e|e|e|e|e|e|e|e|e|e|e|e
 · have e1:encSt r.st++[]=T:=by rw[←hT];unfold encBody;simp[e]
   rw[e]at z
   clear e hT
   have K:=BX
   go_wp2_with (guard_target=~ wpList _ _ _ _ _ _;refine wpList_load_mid rfl 39 _ rfl w.heap.size 17 (by kernel_rfl) ((r.st.arr (.slice h.e.A h.e.n h.e.c) (.slice h.f.A h.f.n h.f.c)).toList) _ (K.rng 17 ((r.st.arr (.slice h.e.A h.e.n h.e.c) (.slice h.f.A h.f.n h.f.c)).toList)) rfl rfl (by kernel_rfl) ?_)
   refine(BW.fst (Below.refl _ _) e1 hlen fun hl=>xState r.st h.e.A h.f.A h.e.n h.f.n h.e.c h.f.c _ ok.rg ok.fl ok.cl iX.hs iX.pn iX.ne iX.nf hl).mono ?_
   rintro e w1 ⟨A0,m0,c0,P0,rfl,b⟩
   go_wp2_with fail
   go_ret
   exact RowPost.down hX b.post
 · have e1:encI r.n++[]=T:=by rw[←hT];unfold encBody;simp[e]
   rw[e]at z
   clear e hT
   have K:=BX
   have x:=cl (K.cell 11)
   go_wp2_with fail
   refine(BW.fst (Below.refl _ _) e1 hlen fun hl=>xi r.n _ ok.n).mono ?_
   rintro e w1 ⟨A0,m0,c0,P0,rfl,b⟩
   go_wp2_with fail
   go_ret
   exact RowPost.down hX b.post
 · have e1:encTx r.t++(encSp r.s++(encLs encKy r.rd++(encLs encWt r.wr++(encLs encI r.ps++([])))))=T:=by rw[←hT];unfold encBody;simp[e,encPn]
   rw[e]at z
   clear e hT
   go_wp2_with fail
   refine wp_region_held_drew (S:=fun W'=>Below X.heap.size X W') (by kernel_rfl) (Below.refl _ _).drew (fun hHeld=>?_)
   have s0:Below X.heap.size X X.drew:=(Below.refl _ _).drew
   refine t0 0 20 ?_
   go_frame
   refine tl 1 21 rfl (yieldsIf_load_mid (by rfl) _ _ rfl (w.heap.size) 1 rfl ([.int .i64 r.t.c,.int .i64 r.t.l,.int .i64 r.t.s]) _ (fun W hw=>(BX.below hw BX.lt).rng 1 ([.int .i64 r.t.c,.int .i64 r.t.l,.int .i64 r.t.s])) rfl rfl (by kernel_rfl)) ?_
   go_frame
   refine t0 3 23 ?_
   go_frame
   refine tl 4 24 rfl (yieldsIf_load_mid (by rfl) _ _ rfl (w.heap.size) 4 rfl ([.int .i64 r.s.w,.int .i64 r.s.l,.int .i64 r.s.n]) _ (fun W hw=>(BX.below hw BX.lt).rng 4 ([.int .i64 r.s.w,.int .i64 r.s.l,.int .i64 r.s.n])) rfl rfl (by kernel_rfl)) ?_
   go_frame
   refine tr 2 rfl (fun K hK=>?_)
   go_simp
   (with_reducible refine(BW.fst s0 e1 hlen fun hl=>xTxn r.t _ ok.t).mono ?_)
   rintro e w1 ⟨A0,m0,c0,P0,rfl,b⟩
   refine hK.out _ _ b.hb (fun hHeld=>?_)
   clear hK K
   try go_frame
   refine tr 5 rfl (fun K hK=>?_)
   go_simp
   (with_reducible refine(b.call fun hl=>xStamp r.s _ ok.s).mono ?_)
   rintro e w2 ⟨A5,n5,c5,rfl,b2⟩
   refine hK.out _ _ b2.b.hb (fun hHeld=>?_)
   clear hK K
   try go_frame
   refine tr (o:=⟨some 26,_,_,_,_,_⟩) 6 rfl (fun K hK=>?_)
   refine b2.apH rfl _ _ rfl rfl rfl ?_
   clear b
   intro A0 m0 c0 P0 w3 b
   refine hK.out _ _ b.hb (fun hHeld=>?_)
   clear hK K
   try go_frame
   refine t0 7 3 ?_
   go_frame
   refine td ?_
   clear hHeld s0 b2
   have K:=b.blk BX
   clear e1
   have x:=cl (K.cell 13)
   go_wp2_with fail
   refine(b.call fun hl=>xTexts h.a.A h.a.n h.a.c r.rd _ ((iX.below b.hb).rd) iX.na hl).mono ?_
   rintro e w4 ⟨A5,n5,c5,rfl,b2⟩
   go_wp2_with (at_builtin;refine b2.app rfl _ _ rfl rfl rfl ?_;clear b K;intro A0 m0 c0 P0 w5 b;have K:=b.blk BX;have x0:=cl (K.cell 14))
   refine(b.call fun hl=>xWrites h.b.A h.b.n h.b.c r.wr _ ((iX.below b.hb).wr) iX.nb hl).mono ?_
   rintro e w6 ⟨A5,n5,c5,rfl,b2⟩
   go_wp2_with (at_builtin;refine b2.app rfl _ _ rfl rfl rfl ?_;clear b K;intro A0 m0 c0 P0 w7 b;have K:=b.blk BX;have x1:=cl (K.cell 15))
   refine(b.call fun hl=>xInts h.c.A h.c.n h.c.c r.ps _ ((iX.below b.hb).ps) iX.nc hl).mono ?_
   rintro e w8 ⟨A5,n5,c5,rfl,b2⟩
   go_wp2_with (at_builtin;refine b2.app rfl _ _ rfl rfl rfl ?_;clear b K;intro A0 m0 c0 P0 w9 b;have K:=b.blk BX)
   go_ret
   exact RowPost.down hX b.post
 · have e1:encTx r.t++(encB r.cm++(encSp r.s++([])))=T:=by rw[←hT];unfold encBody;simp[e]
   rw[e]at z
   clear e hT
   go_wp2_with fail
   refine wp_region_held_drew (S:=fun W'=>Below X.heap.size X W') (by kernel_rfl) (Below.refl _ _).drew (fun hHeld=>?_)
   have s0:Below X.heap.size X X.drew:=(Below.refl _ _).drew
   refine t0 0 44 ?_
   go_frame
   refine tl 1 45 rfl (yieldsIf_load_mid (by rfl) _ _ rfl (w.heap.size) 1 rfl ([.int .i64 r.t.c,.int .i64 r.t.l,.int .i64 r.t.s]) _ (fun W hw=>(BX.below hw BX.lt).rng 1 ([.int .i64 r.t.c,.int .i64 r.t.l,.int .i64 r.t.s])) rfl rfl (by kernel_rfl)) ?_
   go_frame
   refine t0 3 47 ?_
   go_frame
   refine ts 4 48 rfl (fun W hw=>by have y:W.cell? ⟨w.heap.size,10,none⟩=some (.bool r.cm):=(hw.cell (p:=⟨w.heap.size,10,none⟩) BX.lt).trans (BX.cell 10);clear hw;go_simp;try with_reducible rfl) ?_
   go_frame
   refine tr 2 rfl (fun K hK=>?_)
   go_simp
   (with_reducible refine(BW.fst s0 e1 hlen fun hl=>xTxn r.t _ ok.t).mono ?_)
   rintro e w1 ⟨A0,m0,c0,P0,rfl,b⟩
   refine hK.out _ _ b.hb (fun hHeld=>?_)
   clear hK K
   try go_frame
   refine tr 5 rfl (fun K hK=>?_)
   go_simp
   (with_reducible refine(b.call fun hl=>xflag r.cm _).mono ?_)
   rintro e w2 ⟨A5,n5,c5,rfl,b2⟩
   refine hK.out _ _ b2.b.hb (fun hHeld=>?_)
   clear hK K
   try go_frame
   refine tr (o:=⟨some 50,_,_,_,_,_⟩) 6 rfl (fun K hK=>?_)
   refine b2.apH rfl _ _ rfl rfl rfl ?_
   clear b
   intro A0 m0 c0 P0 w3 b
   refine hK.out _ _ b.hb (fun hHeld=>?_)
   clear hK K
   try go_frame
   refine t0 7 3 ?_
   go_frame
   refine td ?_
   clear hHeld s0 b2
   have K:=b.blk BX
   clear e1
   go_wp2_with (guard_target=~ wpList _ _ _ _ _ _;refine wpList_load_mid rfl 26 _ rfl w.heap.size 4 (by kernel_rfl) ([.int .i64 r.s.w,.int .i64 r.s.l,.int .i64 r.s.n]) _ (K.rng 4 ([.int .i64 r.s.w,.int .i64 r.s.l,.int .i64 r.s.n])) rfl rfl (by kernel_rfl) ?_)
   refine(b.call fun hl=>xStamp r.s _ ok.s).mono ?_
   rintro e w4 ⟨A5,n5,c5,rfl,b2⟩
   go_wp2_with (at_builtin;refine b2.app rfl _ _ rfl rfl rfl ?_;clear b K;intro A0 m0 c0 P0 w5 b;have K:=b.blk BX)
   go_ret
   exact RowPost.down hX b.post
 · have e1:encSp r.s++[]=T:=by rw[←hT];unfold encBody;simp[e]
   rw[e]at z
   clear e hT
   have K:=BX
   go_wp2_with (guard_target=~ wpList _ _ _ _ _ _;refine wpList_load_mid rfl 26 _ rfl w.heap.size 4 (by kernel_rfl) ([.int .i64 r.s.w,.int .i64 r.s.l,.int .i64 r.s.n]) _ (K.rng 4 ([.int .i64 r.s.w,.int .i64 r.s.l,.int .i64 r.s.n])) rfl rfl (by kernel_rfl) ?_)
   refine(BW.fst (Below.refl _ _) e1 hlen fun hl=>xStamp r.s _ ok.s).mono ?_
   rintro e w1 ⟨A0,m0,c0,P0,rfl,b⟩
   go_wp2_with fail
   go_ret
   exact RowPost.down hX b.post
 · have e1:encF64 r.pt++(encI r.n++(encSp r.s++([])))=T:=by rw[←hT];unfold encBody;simp[e]
   rw[e]at z
   clear e hT
   go_wp2_with fail
   refine wp_region_held_drew (S:=fun W'=>Below X.heap.size X W') (by kernel_rfl) (Below.refl _ _).drew (fun hHeld=>?_)
   have s0:Below X.heap.size X X.drew:=(Below.refl _ _).drew
   refine t0 0 63 ?_
   go_frame
   refine ts 1 64 rfl (fun W hw=>by have y:W.cell? ⟨w.heap.size,12,none⟩=some (.float .f64 r.pt):=(hw.cell (p:=⟨w.heap.size,12,none⟩) BX.lt).trans (BX.cell 12);clear hw;go_simp;try with_reducible rfl) ?_
   go_frame
   refine t0 3 66 ?_
   go_frame
   refine ts 4 67 rfl (fun W hw=>by have y:W.cell? ⟨w.heap.size,11,none⟩=some (.int .i64 r.n):=(hw.cell (p:=⟨w.heap.size,11,none⟩) BX.lt).trans (BX.cell 11);clear hw;go_simp;try with_reducible rfl) ?_
   go_frame
   refine tr 2 rfl (fun K hK=>?_)
   go_simp
   (with_reducible refine(BW.fst s0 e1 hlen fun hl=>xfloat r.pt _ ok.pt).mono ?_)
   rintro e w1 ⟨A0,m0,c0,P0,rfl,b⟩
   refine hK.out _ _ b.hb (fun hHeld=>?_)
   clear hK K
   try go_frame
   refine tr 5 rfl (fun K hK=>?_)
   go_simp
   (with_reducible refine(b.call fun hl=>xi r.n _ ok.n).mono ?_)
   rintro e w2 ⟨A5,n5,c5,rfl,b2⟩
   refine hK.out _ _ b2.b.hb (fun hHeld=>?_)
   clear hK K
   try go_frame
   refine tr (o:=⟨some 69,_,_,_,_,_⟩) 6 rfl (fun K hK=>?_)
   refine b2.apH rfl _ _ rfl rfl rfl ?_
   clear b
   intro A0 m0 c0 P0 w3 b
   refine hK.out _ _ b.hb (fun hHeld=>?_)
   clear hK K
   try go_frame
   refine t0 7 3 ?_
   go_frame
   refine td ?_
   clear hHeld s0 b2
   have K:=b.blk BX
   clear e1
   go_wp2_with (guard_target=~ wpList _ _ _ _ _ _;refine wpList_load_mid rfl 26 _ rfl w.heap.size 4 (by kernel_rfl) ([.int .i64 r.s.w,.int .i64 r.s.l,.int .i64 r.s.n]) _ (K.rng 4 ([.int .i64 r.s.w,.int .i64 r.s.l,.int .i64 r.s.n])) rfl rfl (by kernel_rfl) ?_)
   refine(b.call fun hl=>xStamp r.s _ ok.s).mono ?_
   rintro e w4 ⟨A5,n5,c5,rfl,b2⟩
   go_wp2_with (at_builtin;refine b2.app rfl _ _ rfl rfl rfl ?_;clear b K;intro A0 m0 c0 P0 w5 b;have K:=b.blk BX)
   go_ret
   exact RowPost.down hX b.post
 · have e1:encI r.n++[]=T:=by rw[←hT];unfold encBody;simp[e]
   rw[e]at z
   clear e hT
   have K:=BX
   have x:=cl (K.cell 11)
   go_wp2_with fail
   refine(BW.fst (Below.refl _ _) e1 hlen fun hl=>xi r.n _ ok.n).mono ?_
   rintro e w1 ⟨A0,m0,c0,P0,rfl,b⟩
   go_wp2_with fail
   go_ret
   exact RowPost.down hX b.post
 · have e1:encI r.n++[]=T:=by rw[←hT];unfold encBody;simp[e]
   rw[e]at z
   clear e hT
   have K:=BX
   have x:=cl (K.cell 11)
   go_wp2_with fail
   refine(BW.fst (Below.refl _ _) e1 hlen fun hl=>xi r.n _ ok.n).mono ?_
   rintro e w1 ⟨A0,m0,c0,P0,rfl,b⟩
   go_wp2_with fail
   go_ret
   exact RowPost.down hX b.post
 · have e1:encTx r.t++(encSp r.s++(encLs encI r.ps++([])))=T:=by rw[←hT];unfold encBody;simp[e]
   rw[e]at z
   clear e hT
   go_wp2_with fail
   refine wp_region_held_drew (S:=fun W'=>Below X.heap.size X W') (by kernel_rfl) (Below.refl _ _).drew (fun hHeld=>?_)
   have s0:Below X.heap.size X X.drew:=(Below.refl _ _).drew
   refine t0 0 77 ?_
   go_frame
   refine tl 1 78 rfl (yieldsIf_load_mid (by rfl) _ _ rfl (w.heap.size) 1 rfl ([.int .i64 r.t.c,.int .i64 r.t.l,.int .i64 r.t.s]) _ (fun W hw=>(BX.below hw BX.lt).rng 1 ([.int .i64 r.t.c,.int .i64 r.t.l,.int .i64 r.t.s])) rfl rfl (by kernel_rfl)) ?_
   go_frame
   refine t0 3 80 ?_
   go_frame
   refine tl 4 81 rfl (yieldsIf_load_mid (by rfl) _ _ rfl (w.heap.size) 4 rfl ([.int .i64 r.s.w,.int .i64 r.s.l,.int .i64 r.s.n]) _ (fun W hw=>(BX.below hw BX.lt).rng 4 ([.int .i64 r.s.w,.int .i64 r.s.l,.int .i64 r.s.n])) rfl rfl (by kernel_rfl)) ?_
   go_frame
   refine tr 2 rfl (fun K hK=>?_)
   go_simp
   (with_reducible refine(BW.fst s0 e1 hlen fun hl=>xTxn r.t _ ok.t).mono ?_)
   rintro e w1 ⟨A0,m0,c0,P0,rfl,b⟩
   refine hK.out _ _ b.hb (fun hHeld=>?_)
   clear hK K
   try go_frame
   refine tr 5 rfl (fun K hK=>?_)
   go_simp
   (with_reducible refine(b.call fun hl=>xStamp r.s _ ok.s).mono ?_)
   rintro e w2 ⟨A5,n5,c5,rfl,b2⟩
   refine hK.out _ _ b2.b.hb (fun hHeld=>?_)
   clear hK K
   try go_frame
   refine tr (o:=⟨some 83,_,_,_,_,_⟩) 6 rfl (fun K hK=>?_)
   refine b2.apH rfl _ _ rfl rfl rfl ?_
   clear b
   intro A0 m0 c0 P0 w3 b
   refine hK.out _ _ b.hb (fun hHeld=>?_)
   clear hK K
   try go_frame
   refine t0 7 3 ?_
   go_frame
   refine td ?_
   clear hHeld s0 b2
   have K:=b.blk BX
   clear e1
   have x:=cl (K.cell 15)
   go_wp2_with fail
   refine(b.call fun hl=>xInts h.c.A h.c.n h.c.c r.ps _ ((iX.below b.hb).ps) iX.nc hl).mono ?_
   rintro e w4 ⟨A5,n5,c5,rfl,b2⟩
   go_wp2_with (at_builtin;refine b2.app rfl _ _ rfl rfl rfl ?_;clear b K;intro A0 m0 c0 P0 w5 b;have K:=b.blk BX)
   go_ret
   exact RowPost.down hX b.post
 · have e1:encTx r.t++[]=T:=by rw[←hT];unfold encBody;simp[e]
   rw[e]at z
   clear e hT
   have K:=BX
   go_wp2_with (guard_target=~ wpList _ _ _ _ _ _;refine wpList_load_mid rfl 23 _ rfl w.heap.size 1 (by kernel_rfl) ([.int .i64 r.t.c,.int .i64 r.t.l,.int .i64 r.t.s]) _ (K.rng 1 ([.int .i64 r.t.c,.int .i64 r.t.l,.int .i64 r.t.s])) rfl rfl (by kernel_rfl) ?_)
   refine(BW.fst (Below.refl _ _) e1 hlen fun hl=>xTxn r.t _ ok.t).mono ?_
   rintro e w1 ⟨A0,m0,c0,P0,rfl,b⟩
   go_wp2_with fail
   go_ret
   exact RowPost.down hX b.post
 · have e1:encSp r.pv++(encSp r.s++(encTx r.t++(encLs encWt r.wr++([]))))=T:=by rw[←hT];unfold encBody;simp[e]
   rw[e]at z
   clear e hT
   go_wp2_with fail
   refine wp_region_held_drew (S:=fun W'=>Below X.heap.size X W') (by kernel_rfl) (Below.refl _ _).drew (fun hHeld=>?_)
   have s0:Below X.heap.size X X.drew:=(Below.refl _ _).drew
   refine t0 0 96 ?_
   go_frame
   refine tl 1 97 rfl (yieldsIf_load_mid (by rfl) _ _ rfl (w.heap.size) 7 rfl ([.int .i64 r.pv.w,.int .i64 r.pv.l,.int .i64 r.pv.n]) _ (fun W hw=>(BX.below hw BX.lt).rng 7 ([.int .i64 r.pv.w,.int .i64 r.pv.l,.int .i64 r.pv.n])) rfl rfl (by kernel_rfl)) ?_
   go_frame
   refine t0 3 99 ?_
   go_frame
   refine tl 4 100 rfl (yieldsIf_load_mid (by rfl) _ _ rfl (w.heap.size) 4 rfl ([.int .i64 r.s.w,.int .i64 r.s.l,.int .i64 r.s.n]) _ (fun W hw=>(BX.below hw BX.lt).rng 4 ([.int .i64 r.s.w,.int .i64 r.s.l,.int .i64 r.s.n])) rfl rfl (by kernel_rfl)) ?_
   go_frame
   refine tr 2 rfl (fun K hK=>?_)
   go_simp
   (with_reducible refine(BW.fst s0 e1 hlen fun hl=>xStamp r.pv _ ok.pv).mono ?_)
   rintro e w1 ⟨A0,m0,c0,P0,rfl,b⟩
   refine hK.out _ _ b.hb (fun hHeld=>?_)
   clear hK K
   try go_frame
   refine tr 5 rfl (fun K hK=>?_)
   go_simp
   (with_reducible refine(b.call fun hl=>xStamp r.s _ ok.s).mono ?_)
   rintro e w2 ⟨A5,n5,c5,rfl,b2⟩
   refine hK.out _ _ b2.b.hb (fun hHeld=>?_)
   clear hK K
   try go_frame
   refine tr (o:=⟨some 102,_,_,_,_,_⟩) 6 rfl (fun K hK=>?_)
   refine b2.apH rfl _ _ rfl rfl rfl ?_
   clear b
   intro A0 m0 c0 P0 w3 b
   refine hK.out _ _ b.hb (fun hHeld=>?_)
   clear hK K
   try go_frame
   refine t0 7 3 ?_
   go_frame
   refine td ?_
   clear hHeld s0 b2
   have K:=b.blk BX
   clear e1
   go_wp2_with (guard_target=~ wpList _ _ _ _ _ _;refine wpList_load_mid rfl 23 _ rfl w.heap.size 1 (by kernel_rfl) ([.int .i64 r.t.c,.int .i64 r.t.l,.int .i64 r.t.s]) _ (K.rng 1 ([.int .i64 r.t.c,.int .i64 r.t.l,.int .i64 r.t.s])) rfl rfl (by kernel_rfl) ?_)
   refine(b.call fun hl=>xTxn r.t _ ok.t).mono ?_
   rintro e w4 ⟨A5,n5,c5,rfl,b2⟩
   go_wp2_with (at_builtin;refine b2.app rfl _ _ rfl rfl rfl ?_;clear b K;intro A0 m0 c0 P0 w5 b;have K:=b.blk BX;have x0:=cl (K.cell 14))
   refine(b.call fun hl=>xWrites h.b.A h.b.n h.b.c r.wr _ ((iX.below b.hb).wr) iX.nb hl).mono ?_
   rintro e w6 ⟨A5,n5,c5,rfl,b2⟩
   go_wp2_with (at_builtin;refine b2.app rfl _ _ rfl rfl rfl ?_;clear b K;intro A0 m0 c0 P0 w7 b;have K:=b.blk BX)
   go_ret
   exact RowPost.down hX b.post
 · have e1:encSp r.s++(encLs encWt r.pr++([]))=T:=by rw[←hT];unfold encBody;simp[e]
   rw[e]at z
   clear e hT
   go_wp2_with fail
   refine wp_region_held_drew (S:=fun W'=>Below X.heap.size X W') (by kernel_rfl) (Below.refl _ _).drew (fun hHeld=>?_)
   have s0:Below X.heap.size X X.drew:=(Below.refl _ _).drew
   refine t0 0 113 ?_
   go_frame
   refine tl 1 114 rfl (yieldsIf_load_mid (by rfl) _ _ rfl (w.heap.size) 4 rfl ([.int .i64 r.s.w,.int .i64 r.s.l,.int .i64 r.s.n]) _ (fun W hw=>(BX.below hw BX.lt).rng 4 ([.int .i64 r.s.w,.int .i64 r.s.l,.int .i64 r.s.n])) rfl rfl (by kernel_rfl)) ?_
   go_frame
   refine t0 3 116 ?_
   go_frame
   refine ts 4 117 rfl (fun W hw=>by have y:W.cell? ⟨w.heap.size,16,none⟩=some (.slice h.d.A h.d.n h.d.c):=(hw.cell (p:=⟨w.heap.size,16,none⟩) BX.lt).trans (BX.cell 16);clear hw;go_simp;try with_reducible rfl) ?_
   go_frame
   refine tr 2 rfl (fun K hK=>?_)
   go_simp
   (with_reducible refine(BW.fst s0 e1 hlen fun hl=>xStamp r.s _ ok.s).mono ?_)
   rintro e w1 ⟨A0,m0,c0,P0,rfl,b⟩
   refine hK.out _ _ b.hb (fun hHeld=>?_)
   clear hK K
   try go_frame
   refine tr 5 rfl (fun K hK=>?_)
   go_simp
   (with_reducible refine(b.call fun hl=>xPairs h.d.A h.d.n h.d.c r.pr _ ((iX.below b.hb).pr) iX.nd hl).mono ?_)
   rintro e w2 ⟨A5,n5,c5,rfl,b2⟩
   refine hK.out _ _ b2.b.hb (fun hHeld=>?_)
   clear hK K
   try go_frame
   refine tr (o:=⟨some 119,_,_,_,_,_⟩) 6 rfl (fun K hK=>?_)
   refine b2.apH rfl _ _ rfl rfl rfl ?_
   clear b
   intro A0 m0 c0 P0 w3 b
   refine hK.out _ _ b.hb (fun hHeld=>?_)
   clear hK K
   try go_frame
   refine t0 7 2 ?_
   go_frame
   refine td ?_
   clear hHeld s0 b2
   have K:=b.blk BX
   clear e1
   try (go_wp2_with fail)
   go_ret
   exact RowPost.down hX b.post
set_option maxRecDepth 100000 in
set_option maxHeartbeats 4000000 in
theorem xEncode (r:Rc) (h:Hds) (w:World) (ok:r.ok) (i:RcIn w r h) (sm:RcSm r h) (hlen:(encRc r).length+10≤1000000000000):
 Calls Tryz.prog 72 #[.agg (r.vals h)] w (RowE w (encOut r) (encE r)):=by
 have hM:=fun w' (hb:Below w.heap.size w w')=>rrecMay_any r h w' ok (i.below hb) sm
 have hX:Below w.heap.size w (w.alloc (.cells (r.vals h) 69)):=by go_grown
 have B0:Blk (w.alloc (.cells (r.vals h) 69)) w.heap.size 69 (r.vals h):=Blk.new _ _ _
 by_cases hm:recMay r=0
 · have hk:kindB r.k=true:=by
    cases hq:kindB r.k
    · unfold recMay at hm;rw[hq]at hm;cases hm
    · rfl
   have HE:=Lib.hid (show encE r=if 262144<(encRc r).length then 2 else 0 by unfold encE;rw[if_pos hm])
   have HO:=Lib.hid (show encOut r=if 262144<(encRc r).length then [] else encRc r by unfold encOut;rw[HE.out];by_cases hq:262144<(encRc r).length<;>simp[hq])
   rw[hm]at hM
   clear hm
   obtain⟨i0,hi0,hz0,hz1,hz2⟩:=info_partsW u8_info
   have kk1:=ok.k.1
   have kk2:=ok.k.2
   have hl:(encRc r).length=(encI r.k).length+(encBody r).length:=by unfold encRc;rw[List.length_append]
   have hl1:(encI r.k).length+(encBody r).length+10≤1000000000000:=by omega
   have HL:=Lib.hid hl
   clear hl hlen
   go_enter Tryz.func72,Tryz.ntmps72
   go_wp2_with (first
    |(refine wpList_load_row rfl 69 _ rfl w.heap.size rfl _ _ (0,0) _ B0 rfl rfl (by kernel_rfl) ?_)
    |((with_reducible refine(hM _ hX).mono ?_);rintro e w0 ⟨rfl,hb0⟩))
   have HX:Below w.heap.size w w0:=hX.trans (hb0.mono hX.size)
   have HBK:Blk w0 w.heap.size 69 (r.vals h):=B0.below hb0 B0.lt
   have HB:w.heap.size<w0.heap.size:=HBK.lt
   have C0:=cl (HBK.cell 0)
   have IX:=i.below HX
   clear hM hX B0 i sm hb0
   go_wp2_with fail
   refine wp_region_held_drew (S:=fun W'=>Below (w0).heap.size (w0) W') (by kernel_rfl) (Below.refl _ _).drew (fun hHeld=>?_)
   refine tc 0 11 ?_
   go_frame
   refine ts 1 12 rfl (v:=.int .i64 r.k) (fun W hSw=>by have z:=(hSw.cell (p:=⟨w.heap.size,0,none⟩) HB).trans C0;clear hSw;go_simp) ?_
   go_frame
   refine tl 3 14 rfl (yieldsIf_load_blk (by rfl) _ _ rfl (w.heap.size) rfl _ _ _ (fun _ hw=>HBK.below hw HB) rfl rfl (by kernel_rfl)) ?_
   go_frame
   have s0:Below (w0).heap.size (w0) (w0).drew:=(Below.refl _ _).drew
   refine tr (o:=⟨some 13,_,_,_,_,_⟩) 2 rfl fun K hK=>?_
   go_simp
   (with_reducible refine(xint r.k _ kk1 kk2).mono ?_)
   rintro e w1 ⟨A1,q1,rfl,hq1,hm1,hown1,hb1⟩
   have s1:Below (w0).heap.size (w0) w1:=s0.trans (hb1.mono (s0).size)
   refine hK.out _ _ s1 (fun hHeld=>?_)
   clear hK K
   try go_frame
   have hrow1:RowRel (w0) (encI r.k) (.slice A1 (encI r.k).length q1) w1:=⟨hown1,s1⟩
   refine tr (o:=⟨some 15,_,_,_,_,_⟩) 4 rfl fun K hK=>?_
   go_simp
   (with_reducible refine(xBody r h _ hk ok (IX.below s1) (by omega)).mono ?_)
   rintro e w2 ⟨A2,q2,rfl,hq2,hm2,hown2,hb2⟩
   have s2:Below (w0).heap.size (w0) w2:=s1.trans (hb2.mono (s1).size)
   refine hK.out _ _ s2 (fun hHeld=>?_)
   clear hK K
   try go_frame
   have hrow2:=hrow1.below hb2
   have za:(encI r.k).length+(encBody r).length≤maxLen:=by unfold maxLen;omega
   have zb:((encI r.k).length+(encBody r).length)*1≤140737488355328:=by omega
   refine tr (o:=⟨some 16,_,_,_,_,_⟩) 5 rfl fun K hK=>?_
   refine step_append_any _ rfl _ _ _ rfl (w0).heap.size 5 i0 _ 1 1 Tryz.underlying49 hi0 hz0 hz1 hz2 rfl (by omega) (.slice A1 (encI r.k).length q1) _ (bytesV (encI r.k)) (by rfl) hrow2.1 w2.heap.size A2 (encBody r).length q2 (bytesV (encBody r)) (by rfl) (Reads.of_own hown2) (bytesV_one _) za zb hrow2.2.size ?_
   intro v2' w2' hown2' hg2' hat2'
   have hr2:=hrow2.push (Below.refl _ _) hown2' hg2'
   obtain⟨P2,HP2,LP2⟩:=named (encI r.k) (encBody r)
   rw[←HP2.out]at hr2
   obtain⟨A2',q2',rfl,hq2',hm2'⟩:=own_form hr2.1
   refine hK.out _ _ hr2.2 (fun hHeld=>?_)
   clear hK K
   try go_frame
   refine tc 6 5 ?_
   go_frame
   refine td ?_
   clear za zb hown2' hg2' hat2' hrow1 hrow2 hown1 hown2 hb1 hb2 s0 s1 s2 hHeld
   have c2_0:=up C0 hr2.2 HB
   have hB3:Below w.heap.size w w2':=HX.trans (hr2.2.mono HX.size)
   have HQ:RowKit.Hid (P2=encRc r):=Lib.hid (by rw[HP2.out];rfl)
   have hq:P2.length=(encRc r).length:=by rw[HQ.out]
   have HQL:=Lib.hid hq
   clear hq
   go_wp2
   · have hgt:262144<(encRc r).length:=by have:=HQL.out;omega
     go_ret2
     rw[HE.out,HO.out,if_pos hgt,if_pos hgt]
     exact RowE.nil 2 hB3
   · have hgt:¬262144<(encRc r).length:=by have:=HQL.out;omega
     go_ret2
     rw[HE.out,HO.out,if_neg hgt,if_neg hgt,←HQ.out]
     exact⟨A2',q2',rfl,hq2',hm2',owns_down hr2.1 HX.size,hB3⟩
 · have h1:encE r=recMay r:=by unfold encE;rw[if_neg hm]
   have h2:encOut r=[]:=by unfold encOut;rw[h1,if_neg hm]
   rw[h1,h2]
   have hb0:(recMay r !=0)=true:=by simp[hm]
   generalize recMay r=m at*
   clear h1 h2 hm
   go_enter Tryz.func72,Tryz.ntmps72
   go_wp2_with (first
    |(refine wpList_load_row rfl 69 _ rfl w.heap.size rfl _ _ (0,0) _ B0 rfl rfl (by kernel_rfl) ?_)
    |((with_reducible refine(hM _ hX).mono ?_);rintro e w1 ⟨rfl,hb1⟩))
   go_ret2
   exact RowE.nil m (hX.trans (hb1.mono hX.size))
end Go.Proofs.YtcalkfgibflbnaaGreat
