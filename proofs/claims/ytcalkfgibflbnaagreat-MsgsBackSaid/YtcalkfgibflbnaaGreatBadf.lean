/- The walks of msgs.deal and msgs.walk of a coder that reads. -/
import Derived.Test.YtcalkfgibflbnaaGreatBade
namespace Go.Proofs.YtcalkfgibflbnaaGreat
set_option maxHeartbeats 32000000
set_option maxRecDepth 100000
set_option linter.unusedVariables false
open Go.RowKit Fl
attribute [local go_sem] dJ
section
variable {S H:Type} {K:Bx S H} {w0 w1 W:World} {g:Nat} {A:Option Addr} {n c:Nat} {l:List UInt8} {gc b:Nat} {x:S} {h:H} {s:RS} {Y:S×RS} {e:Ending}
theorem uh.base (G:K.Good) (t:aW w0 w1 g b) (gl:g<w0.heap.size) (bl:b<w0.heap.size) (E:uh K w1 g A n c l gc b Y e W):uh K w0 g A n c l gc b Y e W:=by
 rcases E with ⟨rfl,h,X⟩|⟨rfl,h1,h2,h3⟩
 · exact .inl ⟨rfl,h,X.cr,X.e,t.trans X.two,X.blk,G.on X.lo (fun _ _ _=>rfl) (Nat.le_refl _) t.size,X.ng,X.nc,X.ap,gl,bl⟩
 · exact .inr ⟨rfl,h1,t.trans h2,h3⟩
end
theorem WG (w:World) (g:Nat) (A:Option Addr) (n c:Nat) (l:List UInt8) (s:RS) (gc bx bm b:Nat) (cs:Array Value) (h:CR w g A n c l s gc) (hs:s.e=0) (D:lJ w A n g gc b 41 cs 8 [.int .i64 0]) (kx:aj w bx 84 #[.pointer (some ⟨gc,0,none⟩)]) (km:aj w bm 88 #[.pointer (some ⟨b,0,none⟩)])
 (hx1:bx≠g) (hx2:bx≠b) (hm1:bm≠g) (hm2:bm≠b):
 Calls Tryz.prog 130 #[.pointer (some ⟨bm,0,none⟩),.pointer (some ⟨bx,0,none⟩)] w (Ac bK 1 w g A n c l gc b 41 cs 8 (aS l s)):=by
 have x0:=cl (km.cell 0);have z0:w.cell? ⟨b,8,none⟩=some (.int .i64 0):=D.at0 rfl;have fx:=h.fix D;have hX:Below w.heap.size w (w.alloc (.cells #[.int .i64 0] 3)):=aJ;have bN:aj (w.alloc (.cells #[.int .i64 0] 3)) w.heap.size 3 #[.int .i64 0]:=aj.new _ _ _;have y1:(w.alloc (.cells #[.int .i64 0] 3)).cell? ⟨bx,0,none⟩=some (.pointer (some ⟨gc,0,none⟩)):=(kx.below hX kx.lt).cell 0;have DN:lJ (w.alloc (.cells #[.int .i64 0] 3)) A n g gc w.heap.size 3 #[.int .i64 0] 0 [.int .i64 0]:=⟨bN,IB rfl,by have:=fx.gl;omega,by have:=fx.cl;omega,fun a ha hn=>by have:=fx.al a ha hn;omega⟩;have hI:=jK _ g A n c l s gc w.heap.size 3 #[.int .i64 0] 0 (h.below hX) hs DN;have k1:=D.blk.below hX D.blk.lt;have km1:=km.below hX km.lt;have hbl:=D.blk.lt;have hml:=km.lt;have hx:=hX.size;generalize aS l s=Y at*;clear h bN DN km;go_enter Tryz.func130,Tryz.ntmps130;go_wp2_with fail;refine hI.mono ?_;rintro e w1 ⟨h1,t1,⟨e1,rfl,vs,l1,b1,hv,hok⟩|⟨e1,rfl,cs1,l1,b1⟩⟩;all_goals
  have EI:aW w w1 g b:=(aW.eU g b hX).beside t1 (Nat.le_refl _);have k2:aj w1 b 41 cs:=(t1.block b byOmega D.ng byOmega).trans k1
 rotate_left
 · go_wp2;exact⟨rfl,.inr ⟨e1,rfl,EI,cs,rfl,k2⟩⟩
 subst hv;have b2:aj w1 w.heap.size 3 #[.int .i64 Y.1]:=b1;have z2:=cl (b2.cell 0);have x2:w1.cell? ⟨bm,0,none⟩=some (.pointer (some ⟨b,0,none⟩)):=(show aj w1 bm 88 _ from (t1.block bm byOmega hm1 byOmega).trans km1).cell 0;have c2:w1.cell? ⟨b,8,none⟩=some (.int .i64 0):=(k2.cell 8).trans (D.has 0 _ rfl);have f2:=k2.frozen 8;go_wp2
 go_end0
 have hg:=jJ w1 b 8 (.int .i64 Y.1);exact .inl ⟨h1.laid hg D.ng D.nc D.ap,EI.trans (aW.right hg g),e1,rfl,[.int .i64 Y.1],rfl,k2.fB 8 _,rfl,hok⟩
theorem ag5 (k fr aG rg:Int) (t:Tx) (w:World) (g:Nat) (A:Option Addr) (n c:Nat) (l:List UInt8) (s:RS) (gc b:Nat) (Y:Mg×RS) (hk:1<=k/\k<=7) (X0:RM iw w w g A n c l gc b ⟨k,fr,aG,t,rg,0,0,iq,iq,false,0,0,[],[],[],[],[],[],nY⟩ ⟨Hd.nil,Hd.nil,Hd.nil,Hd.nil,Hd.nil,Hd.nil,Hd.nil,Hd.nil⟩ s) (hY:dL MF.rd (G5 k) ⟨k,fr,aG,t,rg,0,0,iq,iq,false,0,0,[],[],[],[],[],[],nY⟩ l s=Y):
 Calls Tryz.prog 83 #[.pointer (some ⟨gc,0,none⟩),.pointer (some ⟨b,0,none⟩)] w (uh iw w g A n c l gc b Y):=by
 have hmf:∀(fn:Fn) (first cap:Array Value) (w:World),(Instr.makeFunc fn first cap).run Tryz.prog w=.ok (.func fn first cap) w:=fun _ _ _ _=>rfl
 have hW:Below w.heap.size w ((w.alloc (.cells #[.pointer (some ⟨gc,0,none⟩)] 84)).alloc (.cells #[.pointer (some ⟨b,0,none⟩)] 88)):=aJ;have kx:aj ((w.alloc (.cells #[.pointer (some ⟨gc,0,none⟩)] 84)).alloc (.cells #[.pointer (some ⟨b,0,none⟩)] 88)) w.heap.size 84 #[.pointer (some ⟨gc,0,none⟩)]:=(aj.new _ _ _).alloc _;have km:aj ((w.alloc (.cells #[.pointer (some ⟨gc,0,none⟩)] 84)).alloc (.cells #[.pointer (some ⟨b,0,none⟩)] 88)) (w.heap.size+1) 88 #[.pointer (some ⟨b,0,none⟩)]:=aj.new' _ _ aA;have ok:=X0.lo.1;have X:=RM.start (K:=iw) (x:=⟨k,fr,aG,t,rg,0,0,iq,iq,false,0,0,[],[],[],[],[],[],nY⟩) (h:=⟨Hd.nil,Hd.nil,Hd.nil,Hd.nil,Hd.nil,Hd.nil,Hd.nil,Hd.nil⟩) bJ (X0.cr.below hW) X0.e (X0.blk.below hW X0.blk.lt) (fun w B=>⟨ok,(yE w B).2.1,⟨Sl.nil,Sl.nil,Sl.nil,Sl.nil,Sl.nil,Sl.nil,Sl.nil,Sl.nil⟩⟩) X0.ng X0.nc X0.ap;have hx1:w.heap.size≠g:=by have:=X0.gl;omega
 have hx2:w.heap.size≠b:=by have:=X0.bl;omega
 have hm1:w.heap.size+1≠g:=by have:=X0.gl;omega
 have hm2:w.heap.size+1≠b:=by have:=X0.bl;omega
 have HB:=au (fun e W (h:uh iw ((w.alloc (.cells #[.pointer (some ⟨gc,0,none⟩)] 84)).alloc (.cells #[.pointer (some ⟨b,0,none⟩)] 88)) g A n c l gc b Y e W)=>uh.base bJ (aW.eU g b hW) X0.gl X0.bl h);clear X0 hW ok;rcases ED hk with rfl|rfl|rfl|rfl|rfl|rfl|rfl
 all_goals
  go_enter Tryz.func83,Tryz.ntmps83;go_upto_region 1 with fail;generalize ((w.alloc (.cells #[.pointer (some ⟨gc,0,none⟩)] 84)).alloc (.cells #[.pointer (some ⟨b,0,none⟩)] 88))=w0 at*;generalize w.heap.size+1=bm at*;generalize w.heap.size=bx at*;have y:=kx.cell 0;have x:=km.cell 0;have z:=X.cell 0 rfl
 · replace hY:dL MF.rd [.ep,.s,.ks] _ l s=Y:=hY;go_wp2_with fail;go_still_tail 4,ah;replace X:=X.drew bJ;go_wp2_with fail;refine(X.e_ bJ MF.stk hY jK VO bK.mono rfl rfl).mono ?_;clear X hY y x z;rintro e w1 (⟨a1,vs,s1,-,rfl,X,hY⟩|⟨rfl,hB⟩)
   rotate_left
   · go_wp2;exact⟨rfl,HB.out _ _ (.inr ⟨rfl,hB⟩)⟩
   dsimp only at X hY;have y:=(X.keep kx hx1 hx2).cell 0;have x:=(X.keep km hm1 hm2).cell 0;go_wp2_with fail;go_still_tail 4,ah;replace X:=X.drew bJ;go_wp2_with fail;refine(X.e_ bJ MF.stk hY nX AO (Flat.mono _ _) rfl rfl).mono ?_;clear X hY y x;rintro e w2 (⟨a2,vs,s2,-,rfl,X,hY⟩|⟨rfl,hB⟩)
   rotate_left
   · go_wp2;exact⟨rfl,HB.out _ _ (.inr ⟨rfl,hB⟩)⟩
   dsimp only at X hY;have y:=(X.keep kx hx1 hx2).cell 0;have x:=(X.keep km hm1 hm2).cell 0;go_wp2_with fail;go_still_tail 6,ah;replace X:=X.drew bJ;go_wp2_with fail;refine(X.l_ bJ MF.stk hY Wj agf aO.mono rfl rfl).mono ?_;clear X hY y x;rintro e w3 (⟨a3,vs,s3,-,rfl,X,hY⟩|⟨rfl,hB⟩)
   rotate_left
   · go_wp2;exact⟨rfl,HB.out _ _ (.inr ⟨rfl,hB⟩)⟩
   dsimp only at X hY;have y:=(X.keep kx hx1 hx2).cell 0;have x:=(X.keep km hm1 hm2).cell 0;go_wp2
   go_end0
   exact HB.out _ _ (X.done hY)
 · replace hY:dL MF.rd [.cd,.s,.sn,.rs] _ l s=Y:=hY;go_wp2_with fail;refine(X.el bJ MF.stk hY rfl VP bK.mono (WG _ g A n c l _ gc bx bm b _ X.cr X.e (X.dst 8 [.int .i64 0] rfl) (X.keep kx hx1 hx2) (X.keep km hm1 hm2) hx1 hx2 hm1 hm2)).mono ?_;clear X hY y x z;rintro e w1 (⟨a1,vs,s1,-,rfl,X,hY⟩|⟨rfl,hB⟩)
   rotate_left
   · go_wp2;exact⟨rfl,HB.out _ _ (.inr ⟨rfl,hB⟩)⟩
   dsimp only at X hY;have y:=(X.keep kx hx1 hx2).cell 0;have x:=(X.keep km hm1 hm2).cell 0;go_wp2_with fail;go_still_tail 4,ah;replace X:=X.drew bJ;go_wp2_with fail;refine(X.e_ bJ MF.stk hY nX AO (Flat.mono _ _) rfl rfl).mono ?_;clear X hY y x;rintro e w2 (⟨a2,vs,s2,-,rfl,X,hY⟩|⟨rfl,hB⟩)
   rotate_left
   · go_wp2;exact⟨rfl,HB.out _ _ (.inr ⟨rfl,hB⟩)⟩
   dsimp only at X hY;have y:=(X.keep kx hx1 hx2).cell 0;have x:=(X.keep km hm1 hm2).cell 0;go_wp2_with fail;go_still_tail 6,ah;replace X:=X.drew bJ;go_wp2_with fail;refine(X.l_ bJ MF.stk hY Wh VR gI.mn rfl rfl).mono ?_;clear X hY y x;rintro e w3 (⟨a3,vs,s3,-,rfl,X,hY⟩|⟨rfl,hB⟩)
   rotate_left
   · go_wp2;exact⟨rfl,HB.out _ _ (.inr ⟨rfl,hB⟩)⟩
   dsimp only at X hY;have y:=(X.keep kx hx1 hx2).cell 0;have x:=(X.keep km hm1 hm2).cell 0;go_wp2_with fail;go_still_tail 6,ah;replace X:=X.drew bJ;go_wp2_with fail;refine(X.l_ bJ MF.stk hY Wi VU gX.mn rfl rfl).mono ?_;clear X hY y x;rintro e w4 (⟨a4,vs,s4,-,rfl,X,hY⟩|⟨rfl,hB⟩)
   rotate_left
   · go_wp2;exact⟨rfl,HB.out _ _ (.inr ⟨rfl,hB⟩)⟩
   dsimp only at X hY;have y:=(X.keep kx hx1 hx2).cell 0;have x:=(X.keep km hm1 hm2).cell 0;go_wp2
   go_end0
   exact HB.out _ _ (X.done hY)
 · replace hY:dL MF.rd [.ep,.s,.sn,.ws,.ps] _ l s=Y:=hY;go_wp2_with fail;go_still_tail 4,ah;replace X:=X.drew bJ;go_wp2_with fail;refine(X.e_ bJ MF.stk hY jK VO bK.mono rfl rfl).mono ?_;clear X hY y x z;rintro e w1 (⟨a1,vs,s1,-,rfl,X,hY⟩|⟨rfl,hB⟩)
   rotate_left
   · go_wp2;exact⟨rfl,HB.out _ _ (.inr ⟨rfl,hB⟩)⟩
   dsimp only at X hY;have y:=(X.keep kx hx1 hx2).cell 0;have x:=(X.keep km hm1 hm2).cell 0;go_wp2_with fail;go_still_tail 4,ah;replace X:=X.drew bJ;go_wp2_with fail;refine(X.e_ bJ MF.stk hY nX AO (Flat.mono _ _) rfl rfl).mono ?_;clear X hY y x;rintro e w2 (⟨a2,vs,s2,-,rfl,X,hY⟩|⟨rfl,hB⟩)
   rotate_left
   · go_wp2;exact⟨rfl,HB.out _ _ (.inr ⟨rfl,hB⟩)⟩
   dsimp only at X hY;have y:=(X.keep kx hx1 hx2).cell 0;have x:=(X.keep km hm1 hm2).cell 0;go_wp2_with fail;go_still_tail 6,ah;replace X:=X.drew bJ;go_wp2_with fail;refine(X.l_ bJ MF.stk hY Wh VR gI.mn rfl rfl).mono ?_;clear X hY y x;rintro e w3 (⟨a3,vs,s3,-,rfl,X,hY⟩|⟨rfl,hB⟩)
   rotate_left
   · go_wp2;exact⟨rfl,HB.out _ _ (.inr ⟨rfl,hB⟩)⟩
   dsimp only at X hY;have y:=(X.keep kx hx1 hx2).cell 0;have x:=(X.keep km hm1 hm2).cell 0;go_wp2_with fail;go_still_tail 6,ah;replace X:=X.drew bJ;go_wp2_with fail;refine(X.l_ bJ MF.stk hY JO VT aF.mono rfl rfl).mono ?_;clear X hY y x;rintro e w4 (⟨a4,vs,s4,-,rfl,X,hY⟩|⟨rfl,hB⟩)
   rotate_left
   · go_wp2;exact⟨rfl,HB.out _ _ (.inr ⟨rfl,hB⟩)⟩
   dsimp only at X hY;have y:=(X.keep kx hx1 hx2).cell 0;have x:=(X.keep km hm1 hm2).cell 0;go_wp2_with fail;go_still_tail 6,ah;replace X:=X.drew bJ;go_wp2_with fail;refine(X.l_ bJ MF.stk hY OC agh bK.mono rfl rfl).mono ?_;clear X hY y x;rintro e w5 (⟨a5,vs,s5,-,rfl,X,hY⟩|⟨rfl,hB⟩)
   rotate_left
   · go_wp2;exact⟨rfl,HB.out _ _ (.inr ⟨rfl,hB⟩)⟩
   dsimp only at X hY;have y:=(X.keep kx hx1 hx2).cell 0;have x:=(X.keep km hm1 hm2).cell 0;go_wp2
   go_end0
   exact HB.out _ _ (X.done hY)
 · replace hY:dL MF.rd [.cd,.s,.rs] _ l s=Y:=hY;go_wp2_with fail;refine(X.el bJ MF.stk hY rfl VP bK.mono (WG _ g A n c l _ gc bx bm b _ X.cr X.e (X.dst 8 [.int .i64 0] rfl) (X.keep kx hx1 hx2) (X.keep km hm1 hm2) hx1 hx2 hm1 hm2)).mono ?_;clear X hY y x z;rintro e w1 (⟨a1,vs,s1,-,rfl,X,hY⟩|⟨rfl,hB⟩)
   rotate_left
   · go_wp2;exact⟨rfl,HB.out _ _ (.inr ⟨rfl,hB⟩)⟩
   dsimp only at X hY;have y:=(X.keep kx hx1 hx2).cell 0;have x:=(X.keep km hm1 hm2).cell 0;go_wp2_with fail;go_still_tail 4,ah;replace X:=X.drew bJ;go_wp2_with fail;refine(X.e_ bJ MF.stk hY nX AO (Flat.mono _ _) rfl rfl).mono ?_;clear X hY y x;rintro e w2 (⟨a2,vs,s2,-,rfl,X,hY⟩|⟨rfl,hB⟩)
   rotate_left
   · go_wp2;exact⟨rfl,HB.out _ _ (.inr ⟨rfl,hB⟩)⟩
   dsimp only at X hY;have y:=(X.keep kx hx1 hx2).cell 0;have x:=(X.keep km hm1 hm2).cell 0;go_wp2_with fail;go_still_tail 6,ah;replace X:=X.drew bJ;go_wp2_with fail;refine(X.l_ bJ MF.stk hY Wi VU gX.mn rfl rfl).mono ?_;clear X hY y x;rintro e w3 (⟨a3,vs,s3,-,rfl,X,hY⟩|⟨rfl,hB⟩)
   rotate_left
   · go_wp2;exact⟨rfl,HB.out _ _ (.inr ⟨rfl,hB⟩)⟩
   dsimp only at X hY;have y:=(X.keep kx hx1 hx2).cell 0;have x:=(X.keep km hm1 hm2).cell 0;go_wp2
   go_end0
   exact HB.out _ _ (X.done hY)
 · replace hY:dL MF.rd [.cm,.s] _ l s=Y:=hY;go_wp2_with fail;go_still_tail 4,ah;replace X:=X.drew bJ;go_wp2_with fail;refine(X.e_ bJ MF.stk hY RI agc (Flat.mono _ _) rfl rfl).mono ?_;clear X hY y x z;rintro e w1 (⟨a1,vs,s1,-,rfl,X,hY⟩|⟨rfl,hB⟩)
   rotate_left
   · go_wp2;exact⟨rfl,HB.out _ _ (.inr ⟨rfl,hB⟩)⟩
   dsimp only at X hY;have y:=(X.keep kx hx1 hx2).cell 0;have x:=(X.keep km hm1 hm2).cell 0;go_wp2_with fail;go_still_tail 4,ah;replace X:=X.drew bJ;go_wp2_with fail;refine(X.e_ bJ MF.stk hY nX AO (Flat.mono _ _) rfl rfl).mono ?_;clear X hY y x;rintro e w2 (⟨a2,vs,s2,-,rfl,X,hY⟩|⟨rfl,hB⟩)
   rotate_left
   · go_wp2;exact⟨rfl,HB.out _ _ (.inr ⟨rfl,hB⟩)⟩
   dsimp only at X hY;have y:=(X.keep kx hx1 hx2).cell 0;have x:=(X.keep km hm1 hm2).cell 0;go_wp2
   go_end0
   exact HB.out _ _ (X.done hY)
 · replace hY:dL MF.rd [] _ l s=Y:=hY;go_wp2
   go_end0
   exact HB.out _ _ (X.done hY)
 · replace hY:dL MF.rd [] _ l s=Y:=hY;go_wp2
   go_end0
   exact HB.out _ _ (X.done hY)
theorem ag6 (w:World) (g:Nat) (A:Option Addr) (n c:Nat) (l:List UInt8) (s:RS) (gc b:Nat) (X0:RM iw w w g A n c l gc b ⟨0,0,0,sQ,0,0,0,iq,iq,false,0,0,[],[],[],[],[],[],nY⟩ ⟨Hd.nil,Hd.nil,Hd.nil,Hd.nil,Hd.nil,Hd.nil,Hd.nil,Hd.nil⟩ s) (WC:n<=100000000):
 Calls Tryz.prog 42 #[.pointer (some ⟨gc,0,none⟩),.pointer (some ⟨b,0,none⟩)] w (uh iw w g A n c l gc b (mG l s)):=by
 have hmf:∀(fn:Fn) (first cap:Array Value) (w:World),(Instr.makeFunc fn first cap).run Tryz.prog w=.ok (.func fn first cap) w:=fun _ _ _ _=>rfl
 obtain⟨Y,hYd⟩:∃Y,mG l s=Y:=⟨_,rfl⟩;rw[hYd];have hY:dL MF.rd (.k:: .fr:: .aG::uG (aS l s).1) ⟨0,0,0,sQ,0,0,0,iq,iq,false,0,0,[],[],[],[],[],[],nY⟩ l s=Y:=hYd;have hW:Below w.heap.size w (w.alloc (.cells #[.pointer (some ⟨gc,0,none⟩)] 84)):=aJ;have kx:aj (w.alloc (.cells #[.pointer (some ⟨gc,0,none⟩)] 84)) w.heap.size 84 #[.pointer (some ⟨gc,0,none⟩)]:=aj.new _ _ _;have X:=RM.start (K:=iw) (x:=⟨0,0,0,sQ,0,0,0,iq,iq,false,0,0,[],[],[],[],[],[],nY⟩) (h:=⟨Hd.nil,Hd.nil,Hd.nil,Hd.nil,Hd.nil,Hd.nil,Hd.nil,Hd.nil⟩) bJ (X0.cr.below hW) X0.e (X0.blk.below hW X0.blk.lt) (fun w B=>yE w B) X0.ng X0.nc X0.ap;have hx1:w.heap.size≠g:=by have:=X0.gl;omega
 have hx2:w.heap.size≠b:=by have:=X0.bl;omega
 have HB:=au (fun e W (h:uh iw (w.alloc (.cells #[.pointer (some ⟨gc,0,none⟩)] 84)) g A n c l gc b Y e W)=>uh.base bJ (aW.eU g b hW) X0.gl X0.bl h);clear X0 hW hYd;go_enter Tryz.func42,Tryz.ntmps42;go_upto_region 1 with fail;generalize (w.alloc (.cells #[.pointer (some ⟨gc,0,none⟩)] 84))=w0 at*;generalize w.heap.size=bx at*;have y:=kx.cell 0;go_still_tail 4,ah;replace X:=X.drew bJ;go_wp2_with fail;refine(X.e_ bJ MF.stk hY jK af9 bK.mono rfl rfl).mono ?_;clear X hY y;rintro e w1 (⟨a1,vs,s1,ha,rfl,X,hY⟩|⟨rfl,hB⟩)
 rotate_left
 · go_wp2;exact⟨rfl,HB.out _ _ (.inr ⟨rfl,hB⟩)⟩
 dsimp only at X hY;have y:=(X.keep kx hx1 hx2).cell 0;rw[<-ha]at hY;clear ha;go_wp2_with fail;go_still_tail 4,ah;replace X:=X.drew bJ;go_wp2_with fail;refine(X.e_ bJ MF.stk hY jK af' bK.mono rfl rfl).mono ?_;clear X hY y;rintro e w2 (⟨a2,vs,s2,-,rfl,X,hY⟩|⟨rfl,hB⟩)
 rotate_left
 · go_wp2;exact⟨rfl,HB.out _ _ (.inr ⟨rfl,hB⟩)⟩
 dsimp only at X hY;have y:=(X.keep kx hx1 hx2).cell 0;go_wp2_with fail;go_still_tail 4,ah;replace X:=X.drew bJ;go_wp2_with fail;refine(X.e_ bJ MF.stk hY jK aga bK.mono rfl rfl).mono ?_;clear X hY y;rintro e w3 (⟨a3,vs,s3,-,rfl,X,hY⟩|⟨rfl,hB⟩)
 rotate_left
 · go_wp2;exact⟨rfl,HB.out _ _ (.inr ⟨rfl,hB⟩)⟩
 dsimp only at X hY;have y:=(X.keep kx hx1 hx2).cell 0;rcases (by omega:(1<=a1/\a1<=7)∨a1=8∨a1=9∨a1=10∨a1=11∨a1=12∨a1=14∨(¬(1<=a1/\a1<=7)/\a1≠8/\a1≠9/\a1≠10/\a1≠11/\a1≠12/\a1≠14)) with hk|rfl|rfl|rfl|rfl|rfl|rfl|hk
 · rw[show uG a1=.t:: .rg::G5 a1 from if_pos hk]at hY;have HK:=au hk;rcases ED hk with rfl|rfl|rfl|rfl|rfl|rfl|rfl
   all_goals
    clear hk;have z:=X.cell 0 rfl;go_wp2_with fail;go_still_tail 4,ah;replace X:=X.drew bJ;go_wp2_with fail;refine(X.e_ bJ MF.stk hY BJ VN (Flat.mono _ _) rfl rfl).mono ?_;clear X hY y z;rintro e w4 (⟨a4,vs,s4,-,rfl,X,hY⟩|⟨rfl,hB⟩)
    rotate_left
    · go_wp2;exact⟨rfl,HB.out _ _ (.inr ⟨rfl,hB⟩)⟩
    dsimp only at X hY;have y:=(X.keep kx hx1 hx2).cell 0;go_wp2_with fail;go_still_tail 4,ah;replace X:=X.drew bJ;go_wp2_with fail;refine(X.e_ bJ MF.stk hY jK G6 bK.mono rfl rfl).mono ?_;clear X hY y;rintro e w5 (⟨a5,vs,s5,-,rfl,X,hY⟩|⟨rfl,hB⟩)
    rotate_left
    · go_wp2;exact⟨rfl,HB.out _ _ (.inr ⟨rfl,hB⟩)⟩
    dsimp only at X hY;have y:=(X.keep kx hx1 hx2).cell 0;have HB2:=au (fun e W (h:uh iw w5 g A n c l gc b Y e W)=>HB.out e W (uh.base bJ X.two X.gl X.bl h));have ok:=X.lo.1;have X5:=RM.start (K:=iw) (h:=⟨Hd.nil,Hd.nil,Hd.nil,Hd.nil,Hd.nil,Hd.nil,Hd.nil,Hd.nil⟩) bJ X.cr X.e X.blk (fun w B=>⟨ok,(yE w B).2.1,⟨Sl.nil,Sl.nil,Sl.nil,Sl.nil,Sl.nil,Sl.nil,Sl.nil,Sl.nil⟩⟩) X.ng X.nc X.ap;go_wp2_with fail;refine(ag5 _ _ _ _ _ w5 g A n c l s5 gc b Y HK.out X5 hY).mono ?_;clear X X5 hY y ok;rintro e w6 h6;rcases h6 with ⟨rfl,h6⟩|⟨rfl,h6⟩
    · go_wp2
      go_end0
      exact HB2.out _ _ (.inl ⟨rfl,h6⟩)
    · go_wp2;exact⟨rfl,HB2.out _ _ (.inr ⟨rfl,h6⟩)⟩
 · replace hY:dL MF.rd [.rg,.n,.mx,.s] _ l s3=Y:=hY;have z:=X.cell 0 rfl;go_wp2_with fail;go_still_tail 4,ah;replace X:=X.drew bJ;go_wp2_with fail;refine(X.e_ bJ MF.stk hY jK G6 bK.mono rfl rfl).mono ?_;clear X hY y z;rintro e w4 (⟨a4,vs,s4,-,rfl,X,hY⟩|⟨rfl,hB⟩)
   rotate_left
   · go_wp2;exact⟨rfl,HB.out _ _ (.inr ⟨rfl,hB⟩)⟩
   dsimp only at X hY;have y:=(X.keep kx hx1 hx2).cell 0;go_wp2_with fail;go_still_tail 4,ah;replace X:=X.drew bJ;go_wp2_with fail;refine(X.e_ bJ MF.stk hY jK VQ bK.mono rfl rfl).mono ?_;clear X hY y;rintro e w5 (⟨a5,vs,s5,-,rfl,X,hY⟩|⟨rfl,hB⟩)
   rotate_left
   · go_wp2;exact⟨rfl,HB.out _ _ (.inr ⟨rfl,hB⟩)⟩
   dsimp only at X hY;have y:=(X.keep kx hx1 hx2).cell 0;go_wp2_with fail;go_still_tail 4,ah;replace X:=X.drew bJ;go_wp2_with fail;refine(X.e_ bJ MF.stk hY jK agd bK.mono rfl rfl).mono ?_;clear X hY y;rintro e w6 (⟨a6,vs,s6,-,rfl,X,hY⟩|⟨rfl,hB⟩)
   rotate_left
   · go_wp2;exact⟨rfl,HB.out _ _ (.inr ⟨rfl,hB⟩)⟩
   dsimp only at X hY;have y:=(X.keep kx hx1 hx2).cell 0;go_wp2_with fail;go_still_tail 4,ah;replace X:=X.drew bJ;go_wp2_with fail;refine(X.e_ bJ MF.stk hY nX AO (Flat.mono _ _) rfl rfl).mono ?_;clear X hY y;rintro e w7 (⟨a7,vs,s7,-,rfl,X,hY⟩|⟨rfl,hB⟩)
   rotate_left
   · go_wp2;exact⟨rfl,HB.out _ _ (.inr ⟨rfl,hB⟩)⟩
   dsimp only at X hY;have y:=(X.keep kx hx1 hx2).cell 0;go_wp2
   go_end0
   exact HB.out _ _ (X.done hY)
 · replace hY:dL MF.rd [.rg,.n,.rc] _ l s3=Y:=hY;have z:=X.cell 0 rfl;go_wp2_with fail;go_still_tail 4,ah;replace X:=X.drew bJ;go_wp2_with fail;refine(X.e_ bJ MF.stk hY jK G6 bK.mono rfl rfl).mono ?_;clear X hY y z;rintro e w4 (⟨a4,vs,s4,-,rfl,X,hY⟩|⟨rfl,hB⟩)
   rotate_left
   · go_wp2;exact⟨rfl,HB.out _ _ (.inr ⟨rfl,hB⟩)⟩
   dsimp only at X hY;have y:=(X.keep kx hx1 hx2).cell 0;go_wp2_with fail;go_still_tail 4,ah;replace X:=X.drew bJ;go_wp2_with fail;refine(X.e_ bJ MF.stk hY jK VQ bK.mono rfl rfl).mono ?_;clear X hY y;rintro e w5 (⟨a5,vs,s5,-,rfl,X,hY⟩|⟨rfl,hB⟩)
   rotate_left
   · go_wp2;exact⟨rfl,HB.out _ _ (.inr ⟨rfl,hB⟩)⟩
   dsimp only at X hY;have y:=(X.keep kx hx1 hx2).cell 0;go_wp2_with fail;go_still_tail 5,ah;replace X:=X.drew bJ;go_wp2_with fail;refine(X.el bJ MF.stk hY rfl agi (jl.mono eX.mn) (ag4 _ g A n c l _ gc bx b _ _ 23 X.cr X.e (X.dst 23 [.slice none 0 0] rfl) (X.keep kx hx1 hx2) hx1 hx2 WC)).mono ?_;clear X hY y;rintro e w6 (⟨a6,vs,s6,-,rfl,X,hY⟩|⟨rfl,hB⟩)
   rotate_left
   · go_wp2;exact⟨rfl,HB.out _ _ (.inr ⟨rfl,hB⟩)⟩
   dsimp only at X hY;have y:=(X.keep kx hx1 hx2).cell 0;go_wp2
   go_end0
   exact HB.out _ _ (X.done hY)
 · replace hY:dL MF.rd [.rg,.st] _ l s3=Y:=hY;have z:=X.cell 0 rfl;go_wp2_with fail;go_still_tail 4,ah;replace X:=X.drew bJ;go_wp2_with fail;refine(X.e_ bJ MF.stk hY jK G6 bK.mono rfl rfl).mono ?_;clear X hY y z;rintro e w4 (⟨a4,vs,s4,-,rfl,X,hY⟩|⟨rfl,hB⟩)
   rotate_left
   · go_wp2;exact⟨rfl,HB.out _ _ (.inr ⟨rfl,hB⟩)⟩
   dsimp only at X hY;have y:=(X.keep kx hx1 hx2).cell 0;go_wp2_with fail;go_still_tail 4,ah;replace X:=X.drew bJ;go_wp2_with fail;refine(X.e_ bJ MF.stk hY Wn agj zO.mono rfl rfl).mono ?_;clear X hY y;rintro e w5 (⟨a5,vs,s5,-,rfl,X,hY⟩|⟨rfl,hB⟩)
   rotate_left
   · go_wp2;exact⟨rfl,HB.out _ _ (.inr ⟨rfl,hB⟩)⟩
   dsimp only at X hY;have y:=(X.keep kx hx1 hx2).cell 0;go_wp2
   go_end0
   exact HB.out _ _ (X.done hY)
 · replace hY:dL MF.rd [.rg] _ l s3=Y:=hY;have z:=X.cell 0 rfl;go_wp2_with fail;go_still_tail 4,ah;replace X:=X.drew bJ;go_wp2_with fail;refine(X.e_ bJ MF.stk hY jK G6 bK.mono rfl rfl).mono ?_;clear X hY y z;rintro e w4 (⟨a4,vs,s4,-,rfl,X,hY⟩|⟨rfl,hB⟩)
   rotate_left
   · go_wp2;exact⟨rfl,HB.out _ _ (.inr ⟨rfl,hB⟩)⟩
   dsimp only at X hY;have y:=(X.keep kx hx1 hx2).cell 0;go_wp2
   go_end0
   exact HB.out _ _ (X.done hY)
 · replace hY:dL MF.rd [.pv,.s,.t,.ws] _ l s3=Y:=hY;have z:=X.cell 0 rfl;go_wp2_with fail;go_still_tail 4,ah;replace X:=X.drew bJ;go_wp2_with fail;refine(X.e_ bJ MF.stk hY nX agb (Flat.mono _ _) rfl rfl).mono ?_;clear X hY y z;rintro e w4 (⟨a4,vs,s4,-,rfl,X,hY⟩|⟨rfl,hB⟩)
   rotate_left
   · go_wp2;exact⟨rfl,HB.out _ _ (.inr ⟨rfl,hB⟩)⟩
   dsimp only at X hY;have y:=(X.keep kx hx1 hx2).cell 0;go_wp2_with fail;go_still_tail 4,ah;replace X:=X.drew bJ;go_wp2_with fail;refine(X.e_ bJ MF.stk hY nX AO (Flat.mono _ _) rfl rfl).mono ?_;clear X hY y;rintro e w5 (⟨a5,vs,s5,-,rfl,X,hY⟩|⟨rfl,hB⟩)
   rotate_left
   · go_wp2;exact⟨rfl,HB.out _ _ (.inr ⟨rfl,hB⟩)⟩
   dsimp only at X hY;have y:=(X.keep kx hx1 hx2).cell 0;go_wp2_with fail;go_still_tail 4,ah;replace X:=X.drew bJ;go_wp2_with fail;refine(X.e_ bJ MF.stk hY BJ VN (Flat.mono _ _) rfl rfl).mono ?_;clear X hY y;rintro e w6 (⟨a6,vs,s6,-,rfl,X,hY⟩|⟨rfl,hB⟩)
   rotate_left
   · go_wp2;exact⟨rfl,HB.out _ _ (.inr ⟨rfl,hB⟩)⟩
   dsimp only at X hY;have y:=(X.keep kx hx1 hx2).cell 0;go_wp2_with fail;go_still_tail 6,ah;replace X:=X.drew bJ;go_wp2_with fail;refine(X.l_ bJ MF.stk hY JO VT aF.mono rfl rfl).mono ?_;clear X hY y;rintro e w7 (⟨a7,vs,s7,-,rfl,X,hY⟩|⟨rfl,hB⟩)
   rotate_left
   · go_wp2;exact⟨rfl,HB.out _ _ (.inr ⟨rfl,hB⟩)⟩
   dsimp only at X hY;have y:=(X.keep kx hx1 hx2).cell 0;go_wp2
   go_end0
   exact HB.out _ _ (X.done hY)
 · replace hY:dL MF.rd [.s] _ l s3=Y:=hY;have z:=X.cell 0 rfl;go_wp2_with fail;go_still_tail 4,ah;replace X:=X.drew bJ;go_wp2_with fail;refine(X.e_ bJ MF.stk hY nX AO (Flat.mono _ _) rfl rfl).mono ?_;clear X hY y z;rintro e w4 (⟨a4,vs,s4,-,rfl,X,hY⟩|⟨rfl,hB⟩)
   rotate_left
   · go_wp2;exact⟨rfl,HB.out _ _ (.inr ⟨rfl,hB⟩)⟩
   dsimp only at X hY;have y:=(X.keep kx hx1 hx2).cell 0;go_wp2
   go_end0
   exact HB.out _ _ (X.done hY)
 · have hF:uG a1=[]:=by
    unfold uG
    repeat rw[if_neg byOmega]
   rw[hF]at hY;have b1:(a1==1)=false:=ay;have b2:(a1==2)=false:=ay;have b3:(a1==3)=false:=ay;have b4:(a1==4)=false:=ay;have b5:(a1==5)=false:=ay;have b6:(a1==6)=false:=ay;have b7:(a1==7)=false:=ay;have b8:(a1==8)=false:=ay;have b9:(a1==9)=false:=ay;have b10:(a1==10)=false:=ay;have b11:(a1==11)=false:=ay;have b12:(a1==12)=false:=ay;have b14:(a1==14)=false:=ay;clear hk hF;have z:=X.cell 0 rfl;go_wp2
   go_end0
   exact HB.out _ _ (X.done hY)
