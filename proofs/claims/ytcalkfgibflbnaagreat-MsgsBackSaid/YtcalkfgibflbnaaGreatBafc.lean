/- The document's bytes of a message: raceref12.talk and body. -/
import Derived.Test.YtcalkfgibflbnaaGreatBaej
namespace Go.Proofs.YtcalkfgibflbnaaGreat
set_option maxHeartbeats 16000000
set_option maxRecDepth 100000
set_option linter.unusedVariables false
open Go.RowKit Fl
attribute [local go_sem] dJ
theorem aiT (m:Mg) (h:Hm) (w:World) (ok:m.ok) (i:bH w w.heap.size m h) (cp:h.caps) (hk:1<=m.k/\m.k<=7) (hlen:(eP m.t++(encI m.rg++(jg m))).length<=1000000000000):
 Calls Tryz.prog 91 #[.agg (m.vals h)] w (cO w (eP m.t++(encI m.rg++(jg m)))):=by
 obtain⟨T,hT⟩:∃T,eP m.t++(encI m.rg++(jg m))=T:=⟨_,rfl⟩;rw[hT]at hlen ⊢;have e0:=au hT;have HK:=au hk;clear hT hk;have hX:Below w.heap.size w (w.alloc (.cells (m.vals h) 41)):=aJ;have BX:aj (w.alloc (.cells (m.vals h) 41)) w.heap.size 41 (m.vals h):=aj.new _ _ _;have iX:=i.up hX;clear i;go_enter Tryz.func91,Tryz.ntmps91;go_upto_region 1 with fail;generalize (w.alloc (.cells (m.vals h) 41))=X at*;refine wp_region_held_drew (S:=fun W'=>Below X.heap.size X W') ah (aC).drew (fun hHeld=>?_);have s0:Below X.heap.size X X.drew:=(aC).drew;refine t0 0 4 ?_;go_frame;refine tl 1 5 rfl (yieldsIf_load_mid aI _ _ rfl (w.heap.size) 3 rfl ([.int .i64 m.t.c,.int .i64 m.t.l,.int .i64 m.t.s]) _ (fun W hw=>(BX.below hw BX.lt).rng 3 ([.int .i64 m.t.c,.int .i64 m.t.l,.int .i64 m.t.s])) rfl rfl ah) ?_;go_frame;refine t0 3 7 ?_;go_frame;refine ts 4 8 rfl (fun W hw=>by have y:W.cell? ⟨w.heap.size,6,none⟩=some (.int .i64 m.rg):=(hw.cell (p:=⟨w.heap.size,6,none⟩) BX.lt).trans (BX.cell 6);clear hw;go_simp;try with_reducible rfl) ?_;go_frame;refine tr 2 rfl (fun K hK=>?_);go_simp
 (with_reducible refine(BW.fst s0 e0.out hlen fun hl=>AB m.t _ ok.t).mono ?_)
 rintro e w1 ⟨A0,m0,c0,P0,rfl,b⟩;refine hK.out _ _ b.hb (fun hHeld=>?_);clear hK K
 try go_frame
 refine tr 5 rfl (fun K hK=>?_);go_simp
 (with_reducible refine(b.call fun hl=>xi m.rg _ ok.rg).mono ?_)
 rintro e w2 ⟨A5,n5,c5,rfl,b2⟩;refine hK.out _ _ b2.b.hb (fun hHeld=>?_);clear hK K
 try go_frame
 refine tr (o:=⟨some 10,_,_,_,_,_⟩) 6 rfl (fun K hK=>?_);refine b2.wu rfl _ _ rfl rfl rfl ?_;clear b;intro A0 m0 c0 P0 w3 b;refine hK.out _ _ b.hb (fun hHeld=>?_);clear hK K
 try go_frame
 refine t0 7 3 ?_;go_frame;refine td ?_;clear hHeld s0 b2;have K:=b.blk BX;rcases ED HK.out with e|e|e|e|e|e|e
 all_goals
  have z:=cl (K.cell 0);rw[e]at z
 · replace b:=b.as (qC:=encI m.ep++(aU m.s++(aH bn m.ks++([])))) (by unfold jg;simp[e]);clear e;have x:=cl (K.cell 7);go_wp2_with fail;refine(b.call fun hl=>xi m.ep _ ok.ep).mono ?_;rintro e w4 ⟨A5,n5,c5,rfl,b2⟩;go_wp2_with (first|(at_builtin;refine b2.app rfl _ _ rfl rfl rfl ?_;clear b K;intro A0 m0 c0 P0 w5 b;have K:=b.blk BX)|(guard_target=~ wpList _ _ _ _ _ _;refine wpList_load_mid rfl 26 _ rfl w.heap.size 9 ah ([.int .i64 m.s.w,.int .i64 m.s.l,.int .i64 m.s.n]) _ (K.rng 9 ([.int .i64 m.s.w,.int .i64 m.s.l,.int .i64 m.s.n])) rfl rfl ah ?_));refine(b.call fun hl=>nG m.s _ ok.s).mono ?_;rintro e w6 ⟨A5,n5,c5,rfl,b2⟩;go_wp2_with (at_builtin;refine b2.app rfl _ _ rfl rfl rfl ?_;clear b K;intro A0 m0 c0 P0 w7 b;have K:=b.blk BX;have x1:=cl (K.cell 18));refine(b.call fun hl=>Oj h.a.A h.a.n h.a.c m.ks _ ((iX.up b.hb).ks) (Nat.le_trans cp.a.1 cp.a.2) hl).mono ?_;rintro e w8 ⟨A5,n5,c5,rfl,b2⟩;go_wp2_with (at_builtin;refine b2.app rfl _ _ rfl rfl rfl ?_;clear b K;intro A0 m0 c0 P0 w9 b;have K:=b.blk BX);go_ret;exact cO.down hX b.post
 · replace b:=b.as (qC:=encI m.cd++(aU m.s++(aH iL m.sn++(aH dU m.rs++([]))))) (by unfold jg;simp[e]);clear e;have x:=cl (K.cell 8);go_wp2_with fail;refine(b.call fun hl=>xi m.cd _ ok.cd).mono ?_;rintro e w4 ⟨A5,n5,c5,rfl,b2⟩;go_wp2_with (first|(at_builtin;refine b2.app rfl _ _ rfl rfl rfl ?_;clear b K;intro A0 m0 c0 P0 w5 b;have K:=b.blk BX)|(guard_target=~ wpList _ _ _ _ _ _;refine wpList_load_mid rfl 26 _ rfl w.heap.size 9 ah ([.int .i64 m.s.w,.int .i64 m.s.l,.int .i64 m.s.n]) _ (K.rng 9 ([.int .i64 m.s.w,.int .i64 m.s.l,.int .i64 m.s.n])) rfl rfl ah ?_));refine(b.call fun hl=>nG m.s _ ok.s).mono ?_;rintro e w6 ⟨A5,n5,c5,rfl,b2⟩;go_wp2_with (at_builtin;refine b2.app rfl _ _ rfl rfl rfl ?_;clear b K;intro A0 m0 c0 P0 w7 b;have K:=b.blk BX;have x1:=cl (K.cell 19));refine(b.call fun hl=>WZ h.b.A h.b.n h.b.c m.sn _ ((iX.up b.hb).sn) (Nat.le_trans cp.b.1 cp.b.2) hl).mono ?_;rintro e w8 ⟨A5,n5,c5,rfl,b2⟩;go_wp2_with (at_builtin;refine b2.app rfl _ _ rfl rfl rfl ?_;clear b K;intro A0 m0 c0 P0 w9 b;have K:=b.blk BX;have x2:=cl (K.cell 22));refine(b.call fun hl=>W9 h.e.A h.e.n h.e.c m.rs _ ((iX.up b.hb).rs) (Nat.le_trans cp.e.1 cp.e.2) hl).mono ?_;rintro e w10 ⟨A5,n5,c5,rfl,b2⟩;go_wp2_with (at_builtin;refine b2.app rfl _ _ rfl rfl rfl ?_;clear b K;intro A0 m0 c0 P0 w11 b;have K:=b.blk BX);go_ret;exact cO.down hX b.post
 · replace b:=b.as (qC:=encI m.ep++(aU m.s++(aH iL m.sn++(aH bP m.ws++(aH encI m.ps++([])))))) (by unfold jg;simp[e]);clear e;have x:=cl (K.cell 7);go_wp2_with fail;refine(b.call fun hl=>xi m.ep _ ok.ep).mono ?_;rintro e w4 ⟨A5,n5,c5,rfl,b2⟩;go_wp2_with (first|(at_builtin;refine b2.app rfl _ _ rfl rfl rfl ?_;clear b K;intro A0 m0 c0 P0 w5 b;have K:=b.blk BX)|(guard_target=~ wpList _ _ _ _ _ _;refine wpList_load_mid rfl 26 _ rfl w.heap.size 9 ah ([.int .i64 m.s.w,.int .i64 m.s.l,.int .i64 m.s.n]) _ (K.rng 9 ([.int .i64 m.s.w,.int .i64 m.s.l,.int .i64 m.s.n])) rfl rfl ah ?_));refine(b.call fun hl=>nG m.s _ ok.s).mono ?_;rintro e w6 ⟨A5,n5,c5,rfl,b2⟩;go_wp2_with (at_builtin;refine b2.app rfl _ _ rfl rfl rfl ?_;clear b K;intro A0 m0 c0 P0 w7 b;have K:=b.blk BX;have x1:=cl (K.cell 19));refine(b.call fun hl=>WZ h.b.A h.b.n h.b.c m.sn _ ((iX.up b.hb).sn) (Nat.le_trans cp.b.1 cp.b.2) hl).mono ?_;rintro e w8 ⟨A5,n5,c5,rfl,b2⟩;go_wp2_with (at_builtin;refine b2.app rfl _ _ rfl rfl rfl ?_;clear b K;intro A0 m0 c0 P0 w9 b;have K:=b.blk BX;have x2:=cl (K.cell 20));refine(b.call fun hl=>GL h.c.A h.c.n h.c.c m.ws _ ((iX.up b.hb).ws) (Nat.le_trans cp.c.1 cp.c.2) hl).mono ?_;rintro e w10 ⟨A5,n5,c5,rfl,b2⟩;go_wp2_with (at_builtin;refine b2.app rfl _ _ rfl rfl rfl ?_;clear b K;intro A0 m0 c0 P0 w11 b;have K:=b.blk BX;have x3:=cl (K.cell 21));refine(b.call fun hl=>Ol h.d.A h.d.n h.d.c m.ps _ ((iX.up b.hb).ps) (Nat.le_trans cp.d.1 cp.d.2) hl).mono ?_;rintro e w12 ⟨A5,n5,c5,rfl,b2⟩;go_wp2_with (at_builtin;refine b2.app rfl _ _ rfl rfl rfl ?_;clear b K;intro A0 m0 c0 P0 w13 b;have K:=b.blk BX);go_ret;exact cO.down hX b.post
 · replace b:=b.as (qC:=encI m.cd++(aU m.s++(aH dU m.rs++([])))) (by unfold jg;simp[e]);clear e;have x:=cl (K.cell 8);go_wp2_with fail;refine(b.call fun hl=>xi m.cd _ ok.cd).mono ?_;rintro e w4 ⟨A5,n5,c5,rfl,b2⟩;go_wp2_with (first|(at_builtin;refine b2.app rfl _ _ rfl rfl rfl ?_;clear b K;intro A0 m0 c0 P0 w5 b;have K:=b.blk BX)|(guard_target=~ wpList _ _ _ _ _ _;refine wpList_load_mid rfl 26 _ rfl w.heap.size 9 ah ([.int .i64 m.s.w,.int .i64 m.s.l,.int .i64 m.s.n]) _ (K.rng 9 ([.int .i64 m.s.w,.int .i64 m.s.l,.int .i64 m.s.n])) rfl rfl ah ?_));refine(b.call fun hl=>nG m.s _ ok.s).mono ?_;rintro e w6 ⟨A5,n5,c5,rfl,b2⟩;go_wp2_with (at_builtin;refine b2.app rfl _ _ rfl rfl rfl ?_;clear b K;intro A0 m0 c0 P0 w7 b;have K:=b.blk BX;have x1:=cl (K.cell 22));refine(b.call fun hl=>W9 h.e.A h.e.n h.e.c m.rs _ ((iX.up b.hb).rs) (Nat.le_trans cp.e.1 cp.e.2) hl).mono ?_;rintro e w8 ⟨A5,n5,c5,rfl,b2⟩;go_wp2_with (at_builtin;refine b2.app rfl _ _ rfl rfl rfl ?_;clear b K;intro A0 m0 c0 P0 w9 b;have K:=b.blk BX);go_ret;exact cO.down hX b.post
 · replace b:=b.as (qC:=qF m.cm++(aU m.s++([]))) (by unfold jg;simp[e]);clear e;have x:=cl (K.cell 15);go_wp2_with fail;refine(b.call fun hl=>U5 m.cm _).mono ?_;rintro e w4 ⟨A5,n5,c5,rfl,b2⟩;go_wp2_with (first|(at_builtin;refine b2.app rfl _ _ rfl rfl rfl ?_;clear b K;intro A0 m0 c0 P0 w5 b;have K:=b.blk BX)|(guard_target=~ wpList _ _ _ _ _ _;refine wpList_load_mid rfl 26 _ rfl w.heap.size 9 ah ([.int .i64 m.s.w,.int .i64 m.s.l,.int .i64 m.s.n]) _ (K.rng 9 ([.int .i64 m.s.w,.int .i64 m.s.l,.int .i64 m.s.n])) rfl rfl ah ?_));refine(b.call fun hl=>nG m.s _ ok.s).mono ?_;rintro e w6 ⟨A5,n5,c5,rfl,b2⟩;go_wp2_with (at_builtin;refine b2.app rfl _ _ rfl rfl rfl ?_;clear b K;intro A0 m0 c0 P0 w7 b;have K:=b.blk BX);go_ret;exact cO.down hX b.post
 · replace b:=b.as (qC:=[]) (by unfold jg;simp[e]);clear e;go_wp2_with fail;go_ret;exact cO.down hX b.post
 · replace b:=b.as (qC:=[]) (by unfold jg;simp[e]);clear e;go_wp2_with fail;go_ret;exact cO.down hX b.post
theorem aiU (m:Mg) (h:Hm) (w:World) (ok:m.ok) (i:bH w w.heap.size m h) (cp:h.caps) (pl:∀r∈m.rc,jo r) (hk:1<=m.k/\m.k<=14) (hlen:(iZ m).length<=1000000000000):
 Calls Tryz.prog 45 #[.agg (m.vals h)] w (cO w (iZ m)):=by
 have hk2:(1<=m.k/\m.k<=7)∨m.k=8∨m.k=9∨m.k=10∨m.k=11∨m.k=12∨m.k=13∨m.k=14:=byOmega;obtain⟨T,hT⟩:∃T,iZ m=T:=⟨_,rfl⟩;rw[hT]at hlen ⊢;clear hk;have hX:Below w.heap.size w (w.alloc (.cells (m.vals h) 41)):=aJ;have BX:aj (w.alloc (.cells (m.vals h) 41)) w.heap.size 41 (m.vals h):=aj.new _ _ _;have iX:=i.up hX;clear i;go_enter Tryz.func45,Tryz.ntmps45;go_upto_region 2 with fail;generalize (w.alloc (.cells (m.vals h) 41))=X at*;have z:=cl (BX.cell 0);rcases hk2 with hr|e|e|e|e|e|e|e
 · have e1:(eP m.t++(encI m.rg++(jg m)))=T:=(by rw[<-hT];unfold iZ;simp[hr]);have hx:Calls Tryz.prog 91 #[.agg (m.vals h)] X (cO X T):=by
    rw[<-e1]at hlen ⊢;exact aiT m h X ok iX cp hr hlen
   clear hT e1 hlen;rcases ED hr with e|e|e|e|e|e|e
   all_goals
    rw[e]at z;clear e hr;go_wp2_with (guard_target=~ wpList _ _ _ _ _ _;refine wpList_load_row rfl 41 _ rfl w.heap.size ah _ _ (0,0) _ BX rfl rfl ah ?_);refine hx.mono ?_;rintro e w1 ⟨A1,q1,rfl,p1,p2,o1,hb1⟩;go_wp2_with fail;go_ret;exact cO.down hX ⟨A1,q1,rfl,p1,p2,o1,hb1⟩
 · have e1:encI m.rg++(encI m.n++(encI m.mx++(aU m.s++([]))))=T:=(by rw[<-hT];unfold iZ;simp[e]);rw[e]at z;clear e hT;go_wp2_with fail;refine wp_region_held_drew (S:=fun W'=>Below X.heap.size X W') ah (aC).drew (fun hHeld=>?_);have s0:Below X.heap.size X X.drew:=(aC).drew;refine t0 0 18 ?_;go_frame;refine ts 1 19 rfl (fun W hw=>by have y:W.cell? ⟨w.heap.size,6,none⟩=some (.int .i64 m.rg):=(hw.cell (p:=⟨w.heap.size,6,none⟩) BX.lt).trans (BX.cell 6);clear hw;go_simp;try with_reducible rfl) ?_;go_frame;refine t0 3 21 ?_;go_frame;refine ts 4 22 rfl (fun W hw=>by have y:W.cell? ⟨w.heap.size,16,none⟩=some (.int .i64 m.n):=(hw.cell (p:=⟨w.heap.size,16,none⟩) BX.lt).trans (BX.cell 16);clear hw;go_simp;try with_reducible rfl) ?_;go_frame;refine tr 2 rfl (fun K hK=>?_);go_simp
   (with_reducible refine(BW.fst s0 e1 hlen fun hl=>xi m.rg _ ok.rg).mono ?_)
   rintro e w1 ⟨A0,m0,c0,P0,rfl,b⟩;refine hK.out _ _ b.hb (fun hHeld=>?_);clear hK K
   try go_frame
   refine tr 5 rfl (fun K hK=>?_);go_simp
   (with_reducible refine(b.call fun hl=>xi m.n _ ok.n).mono ?_)
   rintro e w2 ⟨A5,n5,c5,rfl,b2⟩;refine hK.out _ _ b2.b.hb (fun hHeld=>?_);clear hK K
   try go_frame
   refine tr (o:=⟨some 24,_,_,_,_,_⟩) 6 rfl (fun K hK=>?_);refine b2.wu rfl _ _ rfl rfl rfl ?_;clear b;intro A0 m0 c0 P0 w3 b;refine hK.out _ _ b.hb (fun hHeld=>?_);clear hK K
   try go_frame
   refine t0 7 3 ?_;go_frame;refine td ?_;clear hHeld s0 b2;have K:=b.blk BX;clear e1;have x:=cl (K.cell 17);go_wp2_with fail;refine(b.call fun hl=>xi m.mx _ ok.mx).mono ?_;rintro e w4 ⟨A5,n5,c5,rfl,b2⟩;go_wp2_with (first|(at_builtin;refine b2.app rfl _ _ rfl rfl rfl ?_;clear b K;intro A0 m0 c0 P0 w5 b;have K:=b.blk BX)|(guard_target=~ wpList _ _ _ _ _ _;refine wpList_load_mid rfl 26 _ rfl w.heap.size 9 ah ([.int .i64 m.s.w,.int .i64 m.s.l,.int .i64 m.s.n]) _ (K.rng 9 ([.int .i64 m.s.w,.int .i64 m.s.l,.int .i64 m.s.n])) rfl rfl ah ?_));refine(b.call fun hl=>nG m.s _ ok.s).mono ?_;rintro e w6 ⟨A5,n5,c5,rfl,b2⟩;go_wp2_with (at_builtin;refine b2.app rfl _ _ rfl rfl rfl ?_;clear b K;intro A0 m0 c0 P0 w7 b;have K:=b.blk BX);go_ret;exact cO.down hX b.post
 · have e1:encI m.rg++(encI m.n++(aH iM m.rc++([])))=T:=(by rw[<-hT];unfold iZ;simp[e]);rw[e]at z;clear e hT;go_wp2_with fail;refine wp_region_held_drew (S:=fun W'=>Below X.heap.size X W') ah (aC).drew (fun hHeld=>?_);have s0:Below X.heap.size X X.drew:=(aC).drew;refine t0 0 37 ?_;go_frame;refine ts 1 38 rfl (fun W hw=>by have y:W.cell? ⟨w.heap.size,6,none⟩=some (.int .i64 m.rg):=(hw.cell (p:=⟨w.heap.size,6,none⟩) BX.lt).trans (BX.cell 6);clear hw;go_simp;try with_reducible rfl) ?_;go_frame;refine t0 3 40 ?_;go_frame;refine ts 4 41 rfl (fun W hw=>by have y:W.cell? ⟨w.heap.size,16,none⟩=some (.int .i64 m.n):=(hw.cell (p:=⟨w.heap.size,16,none⟩) BX.lt).trans (BX.cell 16);clear hw;go_simp;try with_reducible rfl) ?_;go_frame;refine tr 2 rfl (fun K hK=>?_);go_simp
   (with_reducible refine(BW.fst s0 e1 hlen fun hl=>xi m.rg _ ok.rg).mono ?_)
   rintro e w1 ⟨A0,m0,c0,P0,rfl,b⟩;refine hK.out _ _ b.hb (fun hHeld=>?_);clear hK K
   try go_frame
   refine tr 5 rfl (fun K hK=>?_);go_simp
   (with_reducible refine(b.call fun hl=>xi m.n _ ok.n).mono ?_)
   rintro e w2 ⟨A5,n5,c5,rfl,b2⟩;refine hK.out _ _ b2.b.hb (fun hHeld=>?_);clear hK K
   try go_frame
   refine tr (o:=⟨some 43,_,_,_,_,_⟩) 6 rfl (fun K hK=>?_);refine b2.wu rfl _ _ rfl rfl rfl ?_;clear b;intro A0 m0 c0 P0 w3 b;refine hK.out _ _ b.hb (fun hHeld=>?_);clear hK K
   try go_frame
   refine t0 7 3 ?_;go_frame;refine td ?_;clear hHeld s0 b2;have K:=b.blk BX;clear e1;have x:=cl (K.cell 23);go_wp2_with fail;refine(b.call fun hl=>ah8 h.f.A h.f.n h.f.c m.rc _ pl ((iX.up b.hb).rc) (Nat.le_trans cp.f.1 cp.f.2) hl).mono ?_;rintro e w4 ⟨A5,n5,c5,rfl,b2⟩;go_wp2_with (at_builtin;refine b2.app rfl _ _ rfl rfl rfl ?_;clear b K;intro A0 m0 c0 P0 w5 b;have K:=b.blk BX);go_ret;exact cO.down hX b.post
 · have e1:encI m.rg++(oC m.st++([]))=T:=(by rw[<-hT];unfold iZ;simp[e]);rw[e]at z;clear e hT;go_wp2_with fail;refine wp_region_held_drew (S:=fun W'=>Below X.heap.size X W') ah (aC).drew (fun hHeld=>?_);have s0:Below X.heap.size X X.drew:=(aC).drew;refine t0 0 51 ?_;go_frame;refine ts 1 52 rfl (fun W hw=>by have y:W.cell? ⟨w.heap.size,6,none⟩=some (.int .i64 m.rg):=(hw.cell (p:=⟨w.heap.size,6,none⟩) BX.lt).trans (BX.cell 6);clear hw;go_simp;try with_reducible rfl) ?_;go_frame;refine t0 3 54 ?_;go_frame;refine tl 4 55 rfl (yieldsIf_load_mid aI _ _ rfl (w.heap.size) 24 rfl ((m.st.arr (.slice h.g.A h.g.n h.g.c) (.slice h.i.A h.i.n h.i.c)).toList) _ (fun W hw=>(BX.below hw BX.lt).rng 24 ((m.st.arr (.slice h.g.A h.g.n h.g.c) (.slice h.i.A h.i.n h.i.c)).toList)) rfl rfl ah) ?_;go_frame;refine tr 2 rfl (fun K hK=>?_);go_simp
   (with_reducible refine(BW.fst s0 e1 hlen fun hl=>xi m.rg _ ok.rg).mono ?_)
   rintro e w1 ⟨A0,m0,c0,P0,rfl,b⟩;refine hK.out _ _ b.hb (fun hHeld=>?_);clear hK K
   try go_frame
   refine tr 5 rfl (fun K hK=>?_);go_simp
   (with_reducible refine(b.call fun hl=>WI m.st h.g.A h.i.A h.g.n h.i.n h.g.c h.i.c _ ok.sr ok.sf ok.sc ((iX.up b.hb).hs) ((iX.up b.hb).pn) (Nat.le_trans cp.g.1 cp.g.2) (Nat.le_trans cp.i.1 cp.i.2) hl).mono ?_)
   rintro e w2 ⟨A5,n5,c5,rfl,b2⟩;refine hK.out _ _ b2.b.hb (fun hHeld=>?_);clear hK K
   try go_frame
   refine tr (o:=⟨some 57,_,_,_,_,_⟩) 6 rfl (fun K hK=>?_);refine b2.wu rfl _ _ rfl rfl rfl ?_;clear b;intro A0 m0 c0 P0 w3 b;refine hK.out _ _ b.hb (fun hHeld=>?_);clear hK K
   try go_frame
   refine t0 7 2 ?_;go_frame;refine td ?_;clear hHeld s0 b2;have K:=b.blk BX;clear e1
   try (go_wp2_with fail)
   go_ret;exact cO.down hX b.post
 · have e1:encI m.rg++[]=T:=(by rw[<-hT];unfold iZ;simp[e]);rw[e]at z;clear e hT;have K:=BX;have x:=cl (K.cell 6);go_wp2_with fail;refine(BW.fst aC e1 hlen fun hl=>xi m.rg _ ok.rg).mono ?_;rintro e w1 ⟨A0,m0,c0,P0,rfl,b⟩;go_wp2_with fail;go_ret;exact cO.down hX b.post
 · have e1:aU m.pv++(aU m.s++(eP m.t++(aH bP m.ws++([]))))=T:=(by rw[<-hT];unfold iZ;simp[e]);rw[e]at z;clear e hT;go_wp2_with fail;refine wp_region_held_drew (S:=fun W'=>Below X.heap.size X W') ah (aC).drew (fun hHeld=>?_);have s0:Below X.heap.size X X.drew:=(aC).drew;refine t0 0 65 ?_;go_frame;refine tl 1 66 rfl (yieldsIf_load_mid aI _ _ rfl (w.heap.size) 12 rfl ([.int .i64 m.pv.w,.int .i64 m.pv.l,.int .i64 m.pv.n]) _ (fun W hw=>(BX.below hw BX.lt).rng 12 ([.int .i64 m.pv.w,.int .i64 m.pv.l,.int .i64 m.pv.n])) rfl rfl ah) ?_;go_frame;refine t0 3 68 ?_;go_frame;refine tl 4 69 rfl (yieldsIf_load_mid aI _ _ rfl (w.heap.size) 9 rfl ([.int .i64 m.s.w,.int .i64 m.s.l,.int .i64 m.s.n]) _ (fun W hw=>(BX.below hw BX.lt).rng 9 ([.int .i64 m.s.w,.int .i64 m.s.l,.int .i64 m.s.n])) rfl rfl ah) ?_;go_frame;refine tr 2 rfl (fun K hK=>?_);go_simp
   (with_reducible refine(BW.fst s0 e1 hlen fun hl=>nG m.pv _ ok.pv).mono ?_)
   rintro e w1 ⟨A0,m0,c0,P0,rfl,b⟩;refine hK.out _ _ b.hb (fun hHeld=>?_);clear hK K
   try go_frame
   refine tr 5 rfl (fun K hK=>?_);go_simp
   (with_reducible refine(b.call fun hl=>nG m.s _ ok.s).mono ?_)
   rintro e w2 ⟨A5,n5,c5,rfl,b2⟩;refine hK.out _ _ b2.b.hb (fun hHeld=>?_);clear hK K
   try go_frame
   refine tr (o:=⟨some 71,_,_,_,_,_⟩) 6 rfl (fun K hK=>?_);refine b2.wu rfl _ _ rfl rfl rfl ?_;clear b;intro A0 m0 c0 P0 w3 b;refine hK.out _ _ b.hb (fun hHeld=>?_);clear hK K
   try go_frame
   refine t0 7 3 ?_;go_frame;refine td ?_;clear hHeld s0 b2;have K:=b.blk BX;clear e1;go_wp2_with (guard_target=~ wpList _ _ _ _ _ _;refine wpList_load_mid rfl 23 _ rfl w.heap.size 3 ah ([.int .i64 m.t.c,.int .i64 m.t.l,.int .i64 m.t.s]) _ (K.rng 3 ([.int .i64 m.t.c,.int .i64 m.t.l,.int .i64 m.t.s])) rfl rfl ah ?_);refine(b.call fun hl=>AB m.t _ ok.t).mono ?_;rintro e w4 ⟨A5,n5,c5,rfl,b2⟩;go_wp2_with (at_builtin;refine b2.app rfl _ _ rfl rfl rfl ?_;clear b K;intro A0 m0 c0 P0 w5 b;have K:=b.blk BX;have x0:=cl (K.cell 20));refine(b.call fun hl=>GL h.c.A h.c.n h.c.c m.ws _ ((iX.up b.hb).ws) (Nat.le_trans cp.c.1 cp.c.2) hl).mono ?_;rintro e w6 ⟨A5,n5,c5,rfl,b2⟩;go_wp2_with (at_builtin;refine b2.app rfl _ _ rfl rfl rfl ?_;clear b K;intro A0 m0 c0 P0 w7 b;have K:=b.blk BX);go_ret;exact cO.down hX b.post
 · have e1:[]=T:=(by rw[<-hT];unfold iZ;simp[e]);rw[e]at z;clear e hT;subst e1;go_wp2_with fail;go_ret;exact cO.down hX (kM.start X).post
 · have e1:aU m.s++[]=T:=(by rw[<-hT];unfold iZ;simp[e]);rw[e]at z;clear e hT;have K:=BX;go_wp2_with (guard_target=~ wpList _ _ _ _ _ _;refine wpList_load_mid rfl 26 _ rfl w.heap.size 9 ah ([.int .i64 m.s.w,.int .i64 m.s.l,.int .i64 m.s.n]) _ (K.rng 9 ([.int .i64 m.s.w,.int .i64 m.s.l,.int .i64 m.s.n])) rfl rfl ah ?_);refine(BW.fst aC e1 hlen fun hl=>nG m.s _ ok.s).mono ?_;rintro e w1 ⟨A0,m0,c0,P0,rfl,b⟩;go_wp2_with fail;go_ret;exact cO.down hX b.post
theorem aiV (m:Mg) (h:Hm) (w:World) (ok:m.ok) (i:bH w w.heap.size m h) (cp:h.caps) (sm:iV m h) (pl:∀r∈m.rc,jo r) (hlen:(bT m).length+10<=1000000000000):
 Calls Tryz.prog 17 #[.agg (m.vals h)] w (sV w (og m (bT m)) (kJ m (bT m))):=by
 have hM:=fun w' (hb:Below w.heap.size w w')=>aiv m h w' ok (i.up hb) cp sm pl
 have hX:Below w.heap.size w (w.alloc (.cells (m.vals h) 41)):=aJ;have B0:aj (w.alloc (.cells (m.vals h) 41)) w.heap.size 41 (m.vals h):=aj.new _ _ _;by_cases hm:lD m=0
 · have hk:1<=m.k/\m.k<=14:=by
    cases hq:iK m.k
    · unfold lD at hm;rw[hq]at hm;cases hm
    · unfold iK at hq;rw[decide_eq_true_eq]at hq;omega
   have HE:=au (show kJ m (bT m)=if 4194304<(bT m).length then 2 else 0 by unfold kJ;rw[if_pos hm]);have HO:=au (show og m (bT m)=if 4194304<(bT m).length then [] else bT m by unfold og;rw[HE.out];by_cases hq:4194304<(bT m).length<;>simp[hq]);rw[hm]at hM;clear hm;replace hk:=au hk;obtain⟨T,hT⟩:∃T,bT m=T:=⟨_,rfl⟩;have e0:=au (show encI m.k++(encI m.fr++(encI m.aG++(iZ m++[])))=T by rw[<-hT,List.append_nil];rfl);rw[hT]at hlen HE HO ⊢;replace hlen:T.length<=1000000000000:=byOmega;clear hT;go_enter Tryz.func17,Tryz.ntmps17;go_wp2_with (first
    |(guard_target=~ wpList _ _ _ _ _ _;refine wpList_load_row rfl 41 _ rfl w.heap.size ah _ _ (0,0) _ B0 rfl rfl ah ?_)
    |((with_reducible refine(hM _ hX).mono ?_);rintro e X ⟨rfl,hb0⟩))
   have BX:=B0.below hb0 B0.lt;have HX:=hX.trans (hb0.mono hX.size);have iX:=i.up HX;clear hM hX B0 i sm hb0;go_wp2_with fail;refine wp_region_held_drew (S:=fun W'=>Below X.heap.size X W') ah (aC).drew (fun hHeld=>?_);have s0:Below X.heap.size X X.drew:=(aC).drew;refine t0 0 11 ?_;go_frame;refine ts 1 12 rfl (fun W hw=>by have y:W.cell? ⟨w.heap.size,0,none⟩=some (.int .i64 m.k):=(hw.cell (p:=⟨w.heap.size,0,none⟩) BX.lt).trans (BX.cell 0);clear hw;go_simp;try with_reducible rfl) ?_;go_frame;refine t0 3 14 ?_;go_frame;refine ts 4 15 rfl (fun W hw=>by have y:W.cell? ⟨w.heap.size,1,none⟩=some (.int .i64 m.fr):=(hw.cell (p:=⟨w.heap.size,1,none⟩) BX.lt).trans (BX.cell 1);clear hw;go_simp;try with_reducible rfl) ?_;go_frame;refine tr 2 rfl (fun K hK=>?_);go_simp
   (with_reducible refine(BW.fst s0 e0.out hlen fun hl=>xi m.k _ ok.k).mono ?_)
   rintro e w1 ⟨A0,m0,c0,P0,rfl,b⟩;refine hK.out _ _ b.hb (fun hHeld=>?_);clear hK K
   try go_frame
   refine tr 5 rfl (fun K hK=>?_);go_simp
   (with_reducible refine(b.call fun hl=>xi m.fr _ ok.fr).mono ?_)
   rintro e w2 ⟨A5,n5,c5,rfl,b2⟩;refine hK.out _ _ b2.b.hb (fun hHeld=>?_);clear hK K
   try go_frame
   refine tr (o:=⟨some 17,_,_,_,_,_⟩) 6 rfl (fun K hK=>?_);refine b2.wu rfl _ _ rfl rfl rfl ?_;clear b;intro A0 m0 c0 P0 w3 b;refine hK.out _ _ b.hb (fun hHeld=>?_);clear hK K
   try go_frame
   refine t0 7 5 ?_;go_frame;refine td ?_;clear hHeld s0 b2;have K:=b.blk BX;have x:=cl (K.cell 2);go_wp2_with fail;refine(b.call fun hl=>xi m.aG _ ok.aG).mono ?_;rintro e w4 ⟨A2,n2,c2,rfl,b2⟩;go_wp2_with (first|(at_builtin;refine b2.app rfl _ _ rfl rfl rfl ?_;clear b K;intro A0 m0 c0 P0 w5 b;have K:=b.blk BX)|(guard_target=~ wpList _ _ _ _ _ _;refine wpList_load_row rfl 41 _ rfl w.heap.size ah _ _ (0,0) _ K rfl rfl ah ?_));refine(b.call fun hl=>aiU m h _ ok (iX.up b.hb) cp pl hk.out hl).mono ?_;rintro e w6 ⟨A2,n2,c2,rfl,b2⟩;go_wp2_with (at_builtin;refine b2.app rfl _ _ rfl rfl rfl ?_;clear b K;intro A0 m0 c0 P0 w7 b;obtain⟨hP,hpm⟩:=b.fin;have HP:=au hP;clear hP);all_goals
    have hB:=HX.trans (b.hb.mono HX.size);have hp:=HP.out
   · have hgt:4194304<T.length:=by rw[<-hp];omega
     go_ret2
     rw[HE.out,HO.out,if_pos hgt,if_pos hgt];exact sV.nil 2 hB
   · have hgt:¬4194304<T.length:=by rw[<-hp];omega
     go_ret2
     rw[HE.out,HO.out,if_neg hgt,if_neg hgt];obtain⟨A1,q1,e1,p1,p2,o1,hb1⟩:=cO.down HX b.post;simp only[Ending.returned.injEq]at e1;exact⟨A1,q1,by rw[e1];rfl,p1,p2,o1,hb1⟩
 · have h1:kJ m (bT m)=lD m:=(by unfold kJ;rw[if_neg hm]);have h2:og m (bT m)=[]:=(by unfold og;rw[h1,if_neg hm]);rw[h1,h2];have hb0:(lD m !=0)=true:=(by simp[hm]);generalize lD m=d at*;clear h1 h2 hm;go_enter Tryz.func17,Tryz.ntmps17;go_wp2_with (first
    |(guard_target=~ wpList _ _ _ _ _ _;refine wpList_load_row rfl 41 _ rfl w.heap.size ah _ _ (0,0) _ B0 rfl rfl ah ?_)
    |((with_reducible refine(hM _ hX).mono ?_);rintro e w1 ⟨rfl,hb1⟩))
   go_ret2
   exact sV.nil d (hX.trans (hb1.mono hX.size))
