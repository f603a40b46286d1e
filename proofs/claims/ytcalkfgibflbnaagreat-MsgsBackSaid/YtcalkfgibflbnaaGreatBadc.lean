/- The walk of a coder that reads a record: recs.walk. -/
import Derived.Test.YtcalkfgibflbnaaGreatBaba
import Derived.Test.YtcalkfgibflbnaaGreatBadb
namespace Go.Proofs.YtcalkfgibflbnaaGreat
set_option maxHeartbeats 16000000
set_option maxRecDepth 100000
set_option linter.unusedVariables false
open Go.RowKit Fl
attribute [local go_sem] dJ
theorem aW.beside {w w5 w6:World} {g b gp:Nat} (h:aW w w5 g b) (k:aW w5 w6 g gp) (hg:w.heap.size<=gp):aW w w6 g b:=
 ⟨k.os.trans h.os,k.tape.trans h.tape,k.output.trans h.output,Nat.le_trans h.size k.size,fun i hi h1 h2=>(k.block i (Nat.lt_of_lt_of_le hi h.size) h1 byOmega).trans (h.block i hi h1 h2)⟩
theorem agL {k:Int} (h:0<=k/\k<=20):bG k:=by unfold bG;omega
theorem agM (w:World) (g:Nat) (A:Option Addr) (n c:Nat) (l:List UInt8) (s:RS) (gc b:Nat) (Y:Rc×RS) (X:RM kY w w g A n c l gc b ⟨0,sQ,iq,iq,false,0,0,[],[],[],[],nY⟩ ⟨Hd.nil,Hd.nil,Hd.nil,Hd.nil,Hd.nil,Hd.nil⟩ s) (hx:(aS l s).1=3) (hY:dL RF.rd [.k,.pn,.ps] ⟨0,sQ,iq,iq,false,0,0,[],[],[],[],nY⟩ l s=Y):
 Calls Tryz.prog 159 #[.pointer (some ⟨gc,0,none⟩),.pointer (some ⟨b,0,none⟩)] w (uh kY w g A n c l gc b Y):=by
 go_enter Tryz.func159,Tryz.ntmps159;go_wp2_with fail;refine(X.e_ jC RF.stk hY jK TB bK.mono rfl rfl).mono ?_;clear X hY;rintro e w0 (⟨a0,vs,s0,ha,rfl,X,hY⟩|⟨rfl,hB⟩)
 rotate_left
 · go_wp2;exact⟨rfl,.inr ⟨rfl,hB⟩⟩
 dsimp only at X hY;rw[hx]at ha;subst ha;clear hx;have k0:aj w0 b 69 #[.int .i64 3,.int .i64 0,.int .i64 0,.int .i64 0,.int .i64 0,.int .i64 0,.int .i64 0,.int .i64 0,.int .i64 0,.int .i64 0,.bool false,.int .i64 0,.float .f64 0,.slice none 0 0,.slice none 0 0,.slice none 0 0,.slice none 0 0,.int .i64 0,.int .i64 0,.float .f64 0,.float .f64 0,.int .i64 0,.int .i64 0,.int .i64 0,.int .i64 0,.int .i64 0,.int .i64 0,.slice none 0 0,.slice none 0 0]:=X.blk;have c0:=cl (k0.cell 0);go_wp2_with fail;refine wp_region_held_drew (S:=fun w'=>Below w0.heap.size w0 w') ah (aC).drew (fun hHeld=>?_);refine t0 0 32 ?_;go_frame;refine t0 1 33 ?_;go_frame;refine t0 2 34 ?_;go_frame;refine tl 3 35 rfl (yieldsIf_load_mid aI _ _ rfl b 1 rfl [.int .i64 0,.int .i64 0,.int .i64 0] _ (fun W hSw=>(k0.below hSw k0.lt).range 1 _ (wK rfl rfl rfl)) rfl rfl ah) ?_;go_frame;refine t0 4 36 ?_;go_frame;refine t0 5 37 ?_;go_frame;refine t0 6 38 ?_;go_frame;refine tl 7 39 rfl (yieldsIf_load_mid aI _ _ rfl b 4 rfl [.int .i64 0,.int .i64 0,.int .i64 0] _ (fun W hSw=>(k0.below hSw k0.lt).range 4 _ (wK rfl rfl rfl)) rfl rfl ah) ?_;go_frame;refine t0 8 40 ?_;go_frame;refine t0 9 41 ?_;go_frame;refine t0 10 42 ?_;go_frame;refine ts 11 43 rfl (fun W hw=>by have z:W.cell? ⟨b,13,none⟩=some (.slice none 0 0):=(k0.below hw k0.lt).cell 13;clear hw;go_simp;try with_reducible rfl) ?_;go_frame;refine t0 12 44 ?_;go_frame;refine t0 13 45 ?_;go_frame;refine t0 14 46 ?_;go_frame;refine ts 15 47 rfl (fun W hw=>by have z:W.cell? ⟨b,14,none⟩=some (.slice none 0 0):=(k0.below hw k0.lt).cell 14;clear hw;go_simp;try with_reducible rfl) ?_;go_frame;refine t0 16 48 ?_;go_frame;have rY:Below w0.heap.size w0 (w0.drew.alloc (.cells jU 162)):=(aC).drew.alloc (Nat.le_refl _) _;refine KR (i:=17) ah rfl rfl _ rfl (.cells jU 162) (KT _ _ rfl _) rY ?_;go_frame;have xJ:=aj.new w0.drew 162 jU;have hbB:Below w0.heap.size w0 ((w0.drew.alloc (.cells jU 162)).setRow w0.drew.heap.size jU):=below_setRow rY (Nat.le_refl _) _;refine Md (i:=18) ah rfl rfl _ _ _ rfl w0.drew.heap.size jU ah ah _ jU xJ ah ah ah hbB ?_;intro w5 hw5;go_frame;refine td ?_;have pB:aj w5 w0.heap.size 162 jU:=by rw[hw5];exact xJ.setRow _
 rw[<-hw5]at hbB;have X5:=X.below jC hbB;have fx:=X.cr.fix (X.dst 0 [] rfl);have hz0:=X.two.size;have Dp:lJ w5 A n g gc w0.heap.size 162 jU 0 ([.int .i64 0,.int .i64 0,.int .i64 0]++([.int .i64 0,.int .i64 0,.int .i64 0]++([.slice none 0 0]++([.slice none 0 0])))):=⟨pB,IB rfl,by have:=fx.gl;omega,by have:=fx.cl;omega,fun a ha hn=>by have:=fx.al a ha hn;omega⟩;have hP:=Wl w5 g A n c l s0 gc w0.heap.size 162 jU 0 X5.cr X5.e Dp;have JQ:dL RF.rd [.ps] ⟨3,(pq l s0).1.t,(pq l s0).1.s,iq,false,0,0,(pq l s0).1.r,(pq l s0).1.w,[],[],nY⟩ l (pq l s0).2=Y:=hY;have hbg:b≠w0.heap.size:=by have:=fx.bl;omega
 have HN:=au (And.intro X.gl (And.intro X.bl hz0));have HSZ:=au hbB.size;clear hw5 rY xJ hHeld k0 c0 hbB Dp pB X hY fx hz0;generalize pq l s0=p at*;obtain⟨p,s6⟩:=p;simp only at JQ;go_wp2_with fail;refine hP.mono ?_;rintro e w6 ⟨h6,t6,⟨e6,rfl,v6,l6,p6,n6⟩|⟨e6,rfl,cs6,l6,p6⟩⟩;all_goals
  have hgl:=X5.gl;have hbl:=X5.bl;have k6:aj w6 b 69 #[.int .i64 3,.int .i64 0,.int .i64 0,.int .i64 0,.int .i64 0,.int .i64 0,.int .i64 0,.int .i64 0,.int .i64 0,.int .i64 0,.bool false,.int .i64 0,.float .f64 0,.slice none 0 0,.slice none 0 0,.slice none 0 0,.slice none 0 0,.int .i64 0,.int .i64 0,.float .f64 0,.float .f64 0,.int .i64 0,.int .i64 0,.int .i64 0,.int .i64 0,.int .i64 0,.int .i64 0,.slice none 0 0,.slice none 0 0]:=(t6.block b X5.blk.lt X5.ng hbg).trans X5.blk;have t56:=X5.two.beside t6 HN.out.2.2
 rotate_left
 · go_wp2;exact⟨rfl,.inr ⟨rfl,by rw[<-JQ,Iz RF.stk _ _ l _ e6];exact e6,t56,_,rfl,k6⟩⟩
 obtain⟨ra,qa,hv,ok1,ok2,⟨P1,m1,d1,rfl,y1,z1,o1⟩,P2,m2,d2,rfl,y2,z2,o2⟩:=jW.wider (K':=rng w.heap.size w6.heap.size) aP.mono n6 fun k hk=>by rw[uf]at*;have:=HN.out;have:=HSZ.out;omega
 subst hv;replace p6:aj w6 w0.heap.size 162 #[.int .i64 p.t.c,.int .i64 p.t.l,.int .i64 p.t.s,.int .i64 p.s.w,.int .i64 p.s.l,.int .i64 p.s.n,.slice P1 m1 d1,.slice P2 m2 d2]:=by simpa only[put,List.setIfInBounds_toArray,List.set_cons_succ,List.set_cons_zero,Nat.reduceAdd] using p6
 have b0:=cl (p6.cell 0);have b1:=cl (p6.cell 1);have b2:=cl (p6.cell 2);have b3:=cl (p6.cell 3);have b4:=cl (p6.cell 4);have b5:=cl (p6.cell 5);have b6:=cl (p6.cell 6);have b7:=cl (p6.cell 7);have H6:=au h6;have HX:=au X5;clear h6 hP l6 n6 X5;go_wp2_with (first
  |(guard_target=~ wpList _ _ _ _ _ _;refine wpList_store_mid rfl _ _ _ rfl b 1 #[.int .i64 p.t.c,.int .i64 p.t.l,.int .i64 p.t.s] rfl rfl (k6.there 1 3 aA) ah ah ?_
    obtain⟨WA,JR⟩:∃W:World,W=w6.setCells b 1 [.int .i64 p.t.c,.int .i64 p.t.l,.int .i64 p.t.s]:=⟨_,rfl⟩;have JU:=k6.puts [.int .i64 p.t.c,.int .i64 p.t.l,.int .i64 p.t.s] _ _ 1;rw[<-JR]at JU;have Wp:w6.grownBy WA (some b):=(by rw[JR];exact FD b _ _ 1);rw[show (w6.setCells b 1 (#[.int .i64 p.t.c,.int .i64 p.t.l,.int .i64 p.t.s]:Array Value).toList)=WA from JR.symm];clear JR)
  |(guard_target=~ wpList _ _ _ _ _ _;refine wpList_store_mid rfl _ _ _ rfl b 4 #[.int .i64 p.s.w,.int .i64 p.s.l,.int .i64 p.s.n] rfl rfl (JU.there 4 3 (by rw[fV];simp)) ah ah ?_
    obtain⟨WB,JV⟩:∃W:World,W=WA.setCells b 4 [.int .i64 p.s.w,.int .i64 p.s.l,.int .i64 p.s.n]:=⟨_,rfl⟩;have EH:aj WB b 69 #[.int .i64 3,.int .i64 p.t.c,.int .i64 p.t.l,.int .i64 p.t.s,.int .i64 p.s.w,.int .i64 p.s.l,.int .i64 p.s.n,.int .i64 0,.int .i64 0,.int .i64 0,.bool false,.int .i64 0,.float .f64 0,.slice none 0 0,.slice none 0 0,.slice none 0 0,.slice none 0 0,.int .i64 0,.int .i64 0,.float .f64 0,.float .f64 0,.int .i64 0,.int .i64 0,.int .i64 0,.int .i64 0,.int .i64 0,.int .i64 0,.slice none 0 0,.slice none 0 0]:=(by rw[JV];exact JU.puts _ _ _ 4);have Wq:WA.grownBy WB (some b):=(by rw[JV];exact FD b _ _ 4);rw[show (WA.setCells b 4 (#[.int .i64 p.s.w,.int .i64 p.s.l,.int .i64 p.s.n]:Array Value).toList)=WB from JV.symm];clear JV;have e13:=cl (EH.cell 13);have e14:=cl (EH.cell 14);have f13:WB.frozen? ⟨b,13,none⟩=false:=EH.frozen 13;have f14:WB.frozen? ⟨b,14,none⟩=false:=EH.frozen 14))
 have k7:=(EH.fB 13 (.slice P1 m1 d1)).fB 14 (.slice P2 m2 d2);have g7:=(Wp.trans Wq).trans ((jJ WB b 13 (.slice P1 m1 d1)).trans (jJ (WB.setCell ⟨b,13,none⟩ (.slice P1 m1 d1)) b 14 (.slice P2 m2 d2)));have h7:=H6.out.laid g7 HX.out.ng HX.out.nc HX.out.ap;have t67:=aW.right g7 g;generalize (WB.setCell ⟨b,13,none⟩ (.slice P1 m1 d1)).setCell ⟨b,14,none⟩ (.slice P2 m2 d2)=w7 at*;have hk:∀p u,p.block<w6.heap.size->(only (rng w.heap.size w6.heap.size) w6).cell? p=some u->(only (rng w.heap.size w7.heap.size) w7).cell? p=some u:=fun p u _ hc=>by
  obtain⟨hk,hw⟩:=tZ hc;rw[uf]at hk;rw[qE (uf.2 ⟨hk.1,Nat.lt_of_lt_of_le hk.2 t67.size⟩)];exact(World.cell?_of_block (t67.block _ hk.2 byOmega byOmega)).trans hw
 have X:RM kY w w7 g A n c l gc b ⟨3,p.t,p.s,iq,false,0,0,p.r,p.w,[],[],nY⟩ ⟨⟨P1,m1,d1⟩,⟨P2,m2,d2⟩,Hd.nil,Hd.nil,Hd.nil,Hd.nil⟩ s6:=
  ⟨h7,e6,t56.trans t67,k7,⟨⟨agL (k:=3) byOmega,ok1,ok2,sU,lK,(by show 0<_;omega),IK,sU,sU⟩,⟨⟨y1,z1⟩,⟨y2,z2⟩,qm,qm,qm,qm⟩,
   ⟨(o1.mono aO.mono hk).more aO.kept t67.size,(o2.mono aF.mono hk).more aF.kept t67.size,Sl.nil,Sl.nil,Sl.nil,Sl.nil,Nat.le_trans y1 z1,Nat.le_trans y2 z2,Nat.zero_le _,Nat.zero_le _,Nat.zero_le _,Nat.zero_le _⟩⟩,HX.out.ng,HX.out.nc,HX.out.ap,hgl,hbl⟩
 clear k7 g7 h7 t67 hk HX H6 t56 k6 o1 o2 JU EH Wp Wq e13 e14 f13 f14 p6 b0 b1 b2 b3 b4 b5 b6 b7;replace hY:=JQ;clear JQ;refine(X.l_ jC RF.stk hY OC TD bK.mono rfl rfl).mono ?_;clear X hY;rintro e w8 (⟨a8,vs,s8,-,rfl,X,hY⟩|⟨rfl,hB⟩)
 rotate_left
 · go_wp2;exact⟨rfl,.inr ⟨rfl,hB⟩⟩
 dsimp only at X hY;go_wp2
 go_end0
 exact X.done hY
theorem afD (w:World) (g:Nat) (A:Option Addr) (n c:Nat) (l:List UInt8) (s:RS) (gc b:Nat) (X:RM kY w w g A n c l gc b ⟨0,sQ,iq,iq,false,0,0,[],[],[],[],nY⟩ ⟨Hd.nil,Hd.nil,Hd.nil,Hd.nil,Hd.nil,Hd.nil⟩ s):Calls Tryz.prog 159 #[.pointer (some ⟨gc,0,none⟩),.pointer (some ⟨b,0,none⟩)] w (uh kY w g A n c l gc b (lZ l s)):=by
 obtain⟨Y,hYd⟩:∃Y,lZ l s=Y:=⟨_,rfl⟩;rw[hYd];have hY:dL RF.rd (.k::uU (aS l s).1) ⟨0,sQ,iq,iq,false,0,0,[],[],[],[],nY⟩ l s=Y:=hYd;clear hYd;by_cases h3:(aS l s).1=3
 · rw[h3]at hY;exact agM w g A n c l s gc b Y X h3 hY
 go_enter Tryz.func159,Tryz.ntmps159;go_wp2_with fail;refine(X.e_ jC RF.stk hY jK TB bK.mono rfl rfl).mono ?_;clear X hY;rintro e w0 (⟨a0,vs,s0,ha,rfl,X,hY⟩|⟨rfl,hB⟩)
 rotate_left
 · go_wp2;exact⟨rfl,.inr ⟨rfl,hB⟩⟩
 dsimp only at X hY;rw[<-ha]at hY h3;clear ha;rcases (by omega:a0=1∨a0=2∨a0=4∨a0=5∨a0=6∨a0=7∨a0=8∨a0=9∨a0=10∨a0=11∨a0=12∨(¬a0=1/\¬a0=2/\¬a0=4/\¬a0=5/\¬a0=6/\¬a0=7/\¬a0=8/\¬a0=9/\¬a0=10/\¬a0=11/\¬a0=12)) with rfl|rfl|rfl|rfl|rfl|rfl|rfl|rfl|rfl|rfl|rfl|⟨b1,b2,b4,b5,b6,b7,b8,b9,b10,b11,b12⟩
 · replace hY:dL RF.rd [.st] _ l s0=Y:=hY;have c0:=X.cell 0 rfl;clear h3;go_wp2_with fail;refine(X.e_ jC RF.stk hY Wn acM zO.mono rfl rfl).mono ?_;clear X hY;rintro e w1 (⟨a1,vs,s1,-,rfl,X,hY⟩|⟨rfl,hB⟩)
   rotate_left
   · go_wp2;exact⟨rfl,.inr ⟨rfl,hB⟩⟩
   dsimp only at X hY;go_wp2
   go_end0
   exact X.done hY
 · replace hY:dL RF.rd [.n] _ l s0=Y:=hY;have c0:=X.cell 0 rfl;clear h3;go_wp2_with fail;refine(X.e_ jC RF.stk hY jK IQ bK.mono rfl rfl).mono ?_;clear X hY;rintro e w1 (⟨a1,vs,s1,-,rfl,X,hY⟩|⟨rfl,hB⟩)
   rotate_left
   · go_wp2;exact⟨rfl,.inr ⟨rfl,hB⟩⟩
   dsimp only at X hY;go_wp2
   go_end0
   exact X.done hY
 · replace hY:dL RF.rd [.t,.cm,.s] _ l s0=Y:=hY;have c0:=X.cell 0 rfl;clear h3;go_wp2_with fail;refine(X.e_ jC RF.stk hY BJ IL (Flat.mono _ _) rfl rfl).mono ?_;clear X hY;rintro e w1 (⟨a1,vs,s1,-,rfl,X,hY⟩|⟨rfl,hB⟩)
   rotate_left
   · go_wp2;exact⟨rfl,.inr ⟨rfl,hB⟩⟩
   dsimp only at X hY;go_wp2_with fail;refine(X.e_ jC RF.stk hY RI acI (Flat.mono _ _) rfl rfl).mono ?_;clear X hY;rintro e w2 (⟨a2,vs,s2,-,rfl,X,hY⟩|⟨rfl,hB⟩)
   rotate_left
   · go_wp2;exact⟨rfl,.inr ⟨rfl,hB⟩⟩
   dsimp only at X hY;go_wp2_with fail;refine(X.e_ jC RF.stk hY nX D9 (Flat.mono _ _) rfl rfl).mono ?_;clear X hY;rintro e w3 (⟨a3,vs,s3,-,rfl,X,hY⟩|⟨rfl,hB⟩)
   rotate_left
   · go_wp2;exact⟨rfl,.inr ⟨rfl,hB⟩⟩
   dsimp only at X hY;go_wp2
   go_end0
   exact X.done hY
 · replace hY:dL RF.rd [.s] _ l s0=Y:=hY;have c0:=X.cell 0 rfl;clear h3;go_wp2_with fail;refine(X.e_ jC RF.stk hY nX D9 (Flat.mono _ _) rfl rfl).mono ?_;clear X hY;rintro e w1 (⟨a1,vs,s1,-,rfl,X,hY⟩|⟨rfl,hB⟩)
   rotate_left
   · go_wp2;exact⟨rfl,.inr ⟨rfl,hB⟩⟩
   dsimp only at X hY;go_wp2
   go_end0
   exact X.done hY
 · replace hY:dL RF.rd [.pt,.n,.s] _ l s0=Y:=hY;have c0:=X.cell 0 rfl;clear h3;go_wp2_with fail;refine(X.e_ jC RF.stk hY MI acJ (Flat.mono _ _) rfl rfl).mono ?_;clear X hY;rintro e w1 (⟨a1,vs,s1,-,rfl,X,hY⟩|⟨rfl,hB⟩)
   rotate_left
   · go_wp2;exact⟨rfl,.inr ⟨rfl,hB⟩⟩
   dsimp only at X hY;go_wp2_with fail;refine(X.e_ jC RF.stk hY jK IQ bK.mono rfl rfl).mono ?_;clear X hY;rintro e w2 (⟨a2,vs,s2,-,rfl,X,hY⟩|⟨rfl,hB⟩)
   rotate_left
   · go_wp2;exact⟨rfl,.inr ⟨rfl,hB⟩⟩
   dsimp only at X hY;go_wp2_with fail;refine(X.e_ jC RF.stk hY nX D9 (Flat.mono _ _) rfl rfl).mono ?_;clear X hY;rintro e w3 (⟨a3,vs,s3,-,rfl,X,hY⟩|⟨rfl,hB⟩)
   rotate_left
   · go_wp2;exact⟨rfl,.inr ⟨rfl,hB⟩⟩
   dsimp only at X hY;go_wp2
   go_end0
   exact X.done hY
 · replace hY:dL RF.rd [.n] _ l s0=Y:=hY;have c0:=X.cell 0 rfl;clear h3;go_wp2_with fail;refine(X.e_ jC RF.stk hY jK IQ bK.mono rfl rfl).mono ?_;clear X hY;rintro e w1 (⟨a1,vs,s1,-,rfl,X,hY⟩|⟨rfl,hB⟩)
   rotate_left
   · go_wp2;exact⟨rfl,.inr ⟨rfl,hB⟩⟩
   dsimp only at X hY;go_wp2
   go_end0
   exact X.done hY
 · replace hY:dL RF.rd [.n] _ l s0=Y:=hY;have c0:=X.cell 0 rfl;clear h3;go_wp2_with fail;refine(X.e_ jC RF.stk hY jK IQ bK.mono rfl rfl).mono ?_;clear X hY;rintro e w1 (⟨a1,vs,s1,-,rfl,X,hY⟩|⟨rfl,hB⟩)
   rotate_left
   · go_wp2;exact⟨rfl,.inr ⟨rfl,hB⟩⟩
   dsimp only at X hY;go_wp2
   go_end0
   exact X.done hY
 · replace hY:dL RF.rd [.t,.s,.ps] _ l s0=Y:=hY;have c0:=X.cell 0 rfl;clear h3;go_wp2_with fail;refine(X.e_ jC RF.stk hY BJ IL (Flat.mono _ _) rfl rfl).mono ?_;clear X hY;rintro e w1 (⟨a1,vs,s1,-,rfl,X,hY⟩|⟨rfl,hB⟩)
   rotate_left
   · go_wp2;exact⟨rfl,.inr ⟨rfl,hB⟩⟩
   dsimp only at X hY;go_wp2_with fail;refine(X.e_ jC RF.stk hY nX D9 (Flat.mono _ _) rfl rfl).mono ?_;clear X hY;rintro e w2 (⟨a2,vs,s2,-,rfl,X,hY⟩|⟨rfl,hB⟩)
   rotate_left
   · go_wp2;exact⟨rfl,.inr ⟨rfl,hB⟩⟩
   dsimp only at X hY;go_wp2_with fail;refine(X.l_ jC RF.stk hY OC TD bK.mono rfl rfl).mono ?_;clear X hY;rintro e w3 (⟨a3,vs,s3,-,rfl,X,hY⟩|⟨rfl,hB⟩)
   rotate_left
   · go_wp2;exact⟨rfl,.inr ⟨rfl,hB⟩⟩
   dsimp only at X hY;go_wp2
   go_end0
   exact X.done hY
 · replace hY:dL RF.rd [.t] _ l s0=Y:=hY;have c0:=X.cell 0 rfl;clear h3;go_wp2_with fail;refine(X.e_ jC RF.stk hY BJ IL (Flat.mono _ _) rfl rfl).mono ?_;clear X hY;rintro e w1 (⟨a1,vs,s1,-,rfl,X,hY⟩|⟨rfl,hB⟩)
   rotate_left
   · go_wp2;exact⟨rfl,.inr ⟨rfl,hB⟩⟩
   dsimp only at X hY;go_wp2
   go_end0
   exact X.done hY
 · replace hY:dL RF.rd [.pv,.s,.t,.wr] _ l s0=Y:=hY;have c0:=X.cell 0 rfl;clear h3;go_wp2_with fail;refine(X.e_ jC RF.stk hY nX acH (Flat.mono _ _) rfl rfl).mono ?_;clear X hY;rintro e w1 (⟨a1,vs,s1,-,rfl,X,hY⟩|⟨rfl,hB⟩)
   rotate_left
   · go_wp2;exact⟨rfl,.inr ⟨rfl,hB⟩⟩
   dsimp only at X hY;go_wp2_with fail;refine(X.e_ jC RF.stk hY nX D9 (Flat.mono _ _) rfl rfl).mono ?_;clear X hY;rintro e w2 (⟨a2,vs,s2,-,rfl,X,hY⟩|⟨rfl,hB⟩)
   rotate_left
   · go_wp2;exact⟨rfl,.inr ⟨rfl,hB⟩⟩
   dsimp only at X hY;go_wp2_with fail;refine(X.e_ jC RF.stk hY BJ IL (Flat.mono _ _) rfl rfl).mono ?_;clear X hY;rintro e w3 (⟨a3,vs,s3,-,rfl,X,hY⟩|⟨rfl,hB⟩)
   rotate_left
   · go_wp2;exact⟨rfl,.inr ⟨rfl,hB⟩⟩
   dsimp only at X hY;go_wp2_with fail;refine(X.l_ jC RF.stk hY JO acK aF.mono rfl rfl).mono ?_;clear X hY;rintro e w4 (⟨a4,vs,s4,-,rfl,X,hY⟩|⟨rfl,hB⟩)
   rotate_left
   · go_wp2;exact⟨rfl,.inr ⟨rfl,hB⟩⟩
   dsimp only at X hY;go_wp2
   go_end0
   exact X.done hY
 · replace hY:dL RF.rd [.s,.pr] _ l s0=Y:=hY;have c0:=X.cell 0 rfl;clear h3;go_wp2_with fail;refine(X.e_ jC RF.stk hY nX D9 (Flat.mono _ _) rfl rfl).mono ?_;clear X hY;rintro e w1 (⟨a1,vs,s1,-,rfl,X,hY⟩|⟨rfl,hB⟩)
   rotate_left
   · go_wp2;exact⟨rfl,.inr ⟨rfl,hB⟩⟩
   dsimp only at X hY;go_wp2_with fail;refine(X.l_ jC RF.stk hY agG acL aF.mono rfl rfl).mono ?_;clear X hY;rintro e w2 (⟨a2,vs,s2,-,rfl,X,hY⟩|⟨rfl,hB⟩)
   rotate_left
   · go_wp2;exact⟨rfl,.inr ⟨rfl,hB⟩⟩
   dsimp only at X hY;go_wp2
   go_end0
   exact X.done hY
 · have hF:uU a0=[]:=by
    unfold uU
    repeat rw[if_neg (by assumption)]
   rw[hF]at hY;have hq:∀j:Int,¬a0=j->(a0==j)=false:=fun j h=>by simp[h]
   replace b1:=hq 1 b1;replace b2:=hq 2 b2;replace b4:=hq 4 b4;replace b5:=hq 5 b5;replace b6:=hq 6 b6;replace b7:=hq 7 b7;replace b8:=hq 8 b8;replace b9:=hq 9 b9;replace b10:=hq 10 b10;replace b11:=hq 11 b11;replace b12:=hq 12 b12;replace h3:=hq 3 h3;clear hq hF;have c0:w0.cell? ⟨b,0,none⟩=some (.int .i64 a0):=X.cell 0 rfl;go_wp2
   go_end0
   exact X.done hY
