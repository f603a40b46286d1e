/- The walks of msgs.deal and msgs.walk of a coder that reads. -/
import Derived.Test.YtcalkfgibflbnaaGreatDadd
namespace Go.Proofs.YtcalkfgibflbnaaGreat
set_option maxHeartbeats 32000000
set_option maxRecDepth 100000
set_option linter.unusedVariables false
open Go.RowKit Fl
attribute [local go_sem] run_store_float
section
variable {S H:Type} {K:Bx S H} {w0 w1 W:World} {g:Nat} {A:Option Addr} {n c:Nat} {l:List UInt8} {gc b:Nat} {x:S} {h:H} {s:RS} {Y:S×RS} {e:Ending}
theorem REnd.base (G:K.Good) (t:Two2 w0 w1 g b) (gl:g<w0.heap.size) (bl:b<w0.heap.size) (E:REnd K w1 g A n c l gc b Y e W):REnd K w0 g A n c l gc b Y e W:=by
 rcases E with ⟨rfl,h,X⟩|⟨rfl,h1,h2,h3⟩
 · exact .inl ⟨rfl,h,X.cr,X.e,t.trans X.two,X.blk,G.on X.lo (fun _ _ _=>rfl) (Nat.le_refl _) t.size,X.ng,X.nc,X.ap,gl,bl⟩
 · exact .inr ⟨rfl,h1,t.trans h2,h3⟩
end
theorem rcNumber (w:World) (g:Nat) (A:Option Addr) (n c:Nat) (l:List UInt8) (s:RS) (gc bx bm b:Nat) (cs:Array Value) (h:CR w g A n c l s gc) (hs:s.e=0) (D:Dst w A n g gc b 41 cs 8 [.int .i64 0]) (kx:Blk w bx 84 #[.pointer (some ⟨gc,0,none⟩)]) (km:Blk w bm 88 #[.pointer (some ⟨b,0,none⟩)])
 (hx1:bx≠g) (hx2:bx≠b) (hm1:bm≠g) (hm2:bm≠b):
 Calls Tryz.prog 130 #[.pointer (some ⟨bm,0,none⟩),.pointer (some ⟨bx,0,none⟩)] w (RPostM NmRel 1 w g A n c l gc b 41 cs 8 (rInt l s)):=by
 have x0:=cl (km.cell 0)
 have z0:w.cell? ⟨b,8,none⟩=some (.int .i64 0):=D.at0 rfl
 have fx:=h.fix D
 have hX:Below w.heap.size w (w.alloc (.cells #[.int .i64 0] 3)):=by go_grown
 have bN:Blk (w.alloc (.cells #[.int .i64 0] 3)) w.heap.size 3 #[.int .i64 0]:=Blk.new _ _ _
 have y1:(w.alloc (.cells #[.int .i64 0] 3)).cell? ⟨bx,0,none⟩=some (.pointer (some ⟨gc,0,none⟩)):=(kx.below hX kx.lt).cell 0
 have DN:Dst (w.alloc (.cells #[.int .i64 0] 3)) A n g gc w.heap.size 3 #[.int .i64 0] 0 [.int .i64 0]:=⟨bN,hasOf rfl,by have:=fx.gl;omega,by have:=fx.cl;omega,fun a ha hn=>by have:=fx.al a ha hn;omega⟩
 have hI:=rcInt _ g A n c l s gc w.heap.size 3 #[.int .i64 0] 0 (h.below hX) hs DN
 have k1:=D.blk.below hX D.blk.lt
 have km1:=km.below hX km.lt
 have hbl:=D.blk.lt
 have hml:=km.lt
 have hx:=hX.size
 generalize rInt l s=Y at*
 clear h bN DN km
 go_enter Tryz.func130,Tryz.ntmps130
 go_wp2_with fail
 refine hI.mono ?_
 rintro e w1 ⟨h1,t1,⟨e1,rfl,vs,l1,b1,hv,hok⟩|⟨e1,rfl,cs1,l1,b1⟩⟩
 all_goals
  have t01:Two2 w w1 g b:=(Two2.ofBelow g b hX).beside t1 (Nat.le_refl _)
  have k2:Blk w1 b 41 cs:=(t1.block b (by omega) D.ng (by omega)).trans k1
 rotate_left
 · go_wp2
   exact⟨rfl,.inr ⟨e1,rfl,t01,cs,rfl,k2⟩⟩
 subst hv
 have b2:Blk w1 w.heap.size 3 #[.int .i64 Y.1]:=b1
 have z2:=cl (b2.cell 0)
 have x2:w1.cell? ⟨bm,0,none⟩=some (.pointer (some ⟨b,0,none⟩)):=(show Blk w1 bm 88 _ from (t1.block bm (by omega) hm1 (by omega)).trans km1).cell 0
 have c2:w1.cell? ⟨b,8,none⟩=some (.int .i64 0):=(k2.cell 8).trans (D.has 0 _ rfl)
 have f2:=k2.frozen 8
 go_wp2
 go_end0
 have hg:=grown_set w1 b 8 (.int .i64 Y.1)
 exact .inl ⟨h1.laid hg D.ng D.nc D.ap,t01.trans (Two2.right hg g),e1,rfl,[.int .i64 Y.1],rfl,k2.set_ 8 _,rfl,hok⟩
theorem rdeal_any (k fr ton rg:Int) (t:Tx) (w:World) (g:Nat) (A:Option Addr) (n c:Nat) (l:List UInt8) (s:RS) (gc b:Nat) (Y:Mg×RS) (hk:1≤k∧k≤7) (X0:RM mgK w w g A n c l gc b ⟨k,fr,ton,t,rg,0,0,zSp,zSp,false,0,0,[],[],[],[],[],[],zSt⟩ ⟨Hd.nil,Hd.nil,Hd.nil,Hd.nil,Hd.nil,Hd.nil,Hd.nil,Hd.nil⟩ s) (hY:rSeq MF.rd (dealF k) ⟨k,fr,ton,t,rg,0,0,zSp,zSp,false,0,0,[],[],[],[],[],[],zSt⟩ l s=Y):
 Calls Tryz.prog 83 #[.pointer (some ⟨gc,0,none⟩),.pointer (some ⟨b,0,none⟩)] w (REnd mgK w g A n c l gc b Y):=by
 have hmf:∀(fn:Fn) (first cap:Array Value) (w:World),(Instr.makeFunc fn first cap).run Tryz.prog w=.ok (.func fn first cap) w:=fun _ _ _ _=>rfl
 have hW:Below w.heap.size w ((w.alloc (.cells #[.pointer (some ⟨gc,0,none⟩)] 84)).alloc (.cells #[.pointer (some ⟨b,0,none⟩)] 88)):=by go_grown
 have kx:Blk ((w.alloc (.cells #[.pointer (some ⟨gc,0,none⟩)] 84)).alloc (.cells #[.pointer (some ⟨b,0,none⟩)] 88)) w.heap.size 84 #[.pointer (some ⟨gc,0,none⟩)]:=(Blk.new _ _ _).alloc _
 have km:Blk ((w.alloc (.cells #[.pointer (some ⟨gc,0,none⟩)] 84)).alloc (.cells #[.pointer (some ⟨b,0,none⟩)] 88)) (w.heap.size+1) 88 #[.pointer (some ⟨b,0,none⟩)]:=Blk.new' _ _ (by simp)
 have ok:=X0.lo.1
 have X:=RM.start (K:=mgK) (x:=⟨k,fr,ton,t,rg,0,0,zSp,zSp,false,0,0,[],[],[],[],[],[],zSt⟩) (h:=⟨Hd.nil,Hd.nil,Hd.nil,Hd.nil,Hd.nil,Hd.nil,Hd.nil,Hd.nil⟩) mgG (X0.cr.below hW) X0.e (X0.blk.below hW X0.blk.lt) (fun w B=>⟨ok,(mgNil w B).2.1,⟨Sl.nil,Sl.nil,Sl.nil,Sl.nil,Sl.nil,Sl.nil,Sl.nil,Sl.nil⟩⟩) X0.ng X0.nc X0.ap
 have hx1:w.heap.size≠g:=by have:=X0.gl;omega
 have hx2:w.heap.size≠b:=by have:=X0.bl;omega
 have hm1:w.heap.size+1≠g:=by have:=X0.gl;omega
 have hm2:w.heap.size+1≠b:=by have:=X0.bl;omega
 have HB:=Lib.hid (fun e W (h:REnd mgK ((w.alloc (.cells #[.pointer (some ⟨gc,0,none⟩)] 84)).alloc (.cells #[.pointer (some ⟨b,0,none⟩)] 88)) g A n c l gc b Y e W)=>REnd.base mgG (Two2.ofBelow g b hW) X0.gl X0.bl h)
 clear X0 hW ok
 rcases bit_k hk with rfl|rfl|rfl|rfl|rfl|rfl|rfl
 all_goals
  go_enter Tryz.func83,Tryz.ntmps83
  go_upto_region 1 with fail
  generalize ((w.alloc (.cells #[.pointer (some ⟨gc,0,none⟩)] 84)).alloc (.cells #[.pointer (some ⟨b,0,none⟩)] 88))=w0 at*
  generalize w.heap.size+1=bm at*
  generalize w.heap.size=bx at*
  have y:=kx.cell 0
  have x:=km.cell 0
  have z:=X.cell 0 rfl
 · replace hY:rSeq MF.rd [.ep,.s,.ks] _ l s=Y:=hY
   go_wp2_with fail
   go_still_tail 4,(by kernel_rfl)
   replace X:=X.drew mgG
   go_wp2_with fail
   refine(X.e_ mgG MF.stk hY rcInt mf_ep NmRel.mono rfl rfl).mono ?_
   clear X hY y x z
   rintro e w1 (⟨a1,vs,s1,-,rfl,X,hY⟩|⟨rfl,hB⟩)
   rotate_left
   · go_wp2
     exact⟨rfl,HB.out _ _ (.inr ⟨rfl,hB⟩)⟩
   dsimp only at X hY
   have y:=(X.keep kx hx1 hx2).cell 0
   have x:=(X.keep km hm1 hm2).cell 0
   go_wp2_with fail
   go_still_tail 4,(by kernel_rfl)
   replace X:=X.drew mgG
   go_wp2_with fail
   refine(X.e_ mgG MF.stk hY rcStamp mf_s (Flat.mono _ _) rfl rfl).mono ?_
   clear X hY y x
   rintro e w2 (⟨a2,vs,s2,-,rfl,X,hY⟩|⟨rfl,hB⟩)
   rotate_left
   · go_wp2
     exact⟨rfl,HB.out _ _ (.inr ⟨rfl,hB⟩)⟩
   dsimp only at X hY
   have y:=(X.keep kx hx1 hx2).cell 0
   have x:=(X.keep km hm1 hm2).cell 0
   go_wp2_with fail
   go_still_tail 6,(by kernel_rfl)
   replace X:=X.drew mgG
   go_wp2_with fail
   refine(X.l_ mgG MF.stk hY rlText mf_ks KyRel.mono rfl rfl).mono ?_
   clear X hY y x
   rintro e w3 (⟨a3,vs,s3,-,rfl,X,hY⟩|⟨rfl,hB⟩)
   rotate_left
   · go_wp2
     exact⟨rfl,HB.out _ _ (.inr ⟨rfl,hB⟩)⟩
   dsimp only at X hY
   have y:=(X.keep kx hx1 hx2).cell 0
   have x:=(X.keep km hm1 hm2).cell 0
   go_wp2
   go_end0
   exact HB.out _ _ (X.done hY)
 · replace hY:rSeq MF.rd [.cd,.s,.sn,.rs] _ l s=Y:=hY
   go_wp2_with fail
   refine(X.el mgG MF.stk hY rfl mf_cd NmRel.mono (rcNumber _ g A n c l _ gc bx bm b _ X.cr X.e (X.dst 8 [.int .i64 0] rfl) (X.keep kx hx1 hx2) (X.keep km hm1 hm2) hx1 hx2 hm1 hm2)).mono ?_
   clear X hY y x z
   rintro e w1 (⟨a1,vs,s1,-,rfl,X,hY⟩|⟨rfl,hB⟩)
   rotate_left
   · go_wp2
     exact⟨rfl,HB.out _ _ (.inr ⟨rfl,hB⟩)⟩
   dsimp only at X hY
   have y:=(X.keep kx hx1 hx2).cell 0
   have x:=(X.keep km hm1 hm2).cell 0
   go_wp2_with fail
   go_still_tail 4,(by kernel_rfl)
   replace X:=X.drew mgG
   go_wp2_with fail
   refine(X.e_ mgG MF.stk hY rcStamp mf_s (Flat.mono _ _) rfl rfl).mono ?_
   clear X hY y x
   rintro e w2 (⟨a2,vs,s2,-,rfl,X,hY⟩|⟨rfl,hB⟩)
   rotate_left
   · go_wp2
     exact⟨rfl,HB.out _ _ (.inr ⟨rfl,hB⟩)⟩
   dsimp only at X hY
   have y:=(X.keep kx hx1 hx2).cell 0
   have x:=(X.keep km hm1 hm2).cell 0
   go_wp2_with fail
   go_still_tail 6,(by kernel_rfl)
   replace X:=X.drew mgG
   go_wp2_with fail
   refine(X.l_ mgG MF.stk hY rlSeen mf_sn SnRel.mn rfl rfl).mono ?_
   clear X hY y x
   rintro e w3 (⟨a3,vs,s3,-,rfl,X,hY⟩|⟨rfl,hB⟩)
   rotate_left
   · go_wp2
     exact⟨rfl,HB.out _ _ (.inr ⟨rfl,hB⟩)⟩
   dsimp only at X hY
   have y:=(X.keep kx hx1 hx2).cell 0
   have x:=(X.keep km hm1 hm2).cell 0
   go_wp2_with fail
   go_still_tail 6,(by kernel_rfl)
   replace X:=X.drew mgG
   go_wp2_with fail
   refine(X.l_ mgG MF.stk hY rlRange mf_rs RgRel.mn rfl rfl).mono ?_
   clear X hY y x
   rintro e w4 (⟨a4,vs,s4,-,rfl,X,hY⟩|⟨rfl,hB⟩)
   rotate_left
   · go_wp2
     exact⟨rfl,HB.out _ _ (.inr ⟨rfl,hB⟩)⟩
   dsimp only at X hY
   have y:=(X.keep kx hx1 hx2).cell 0
   have x:=(X.keep km hm1 hm2).cell 0
   go_wp2
   go_end0
   exact HB.out _ _ (X.done hY)
 · replace hY:rSeq MF.rd [.ep,.s,.sn,.ws,.ps] _ l s=Y:=hY
   go_wp2_with fail
   go_still_tail 4,(by kernel_rfl)
   replace X:=X.drew mgG
   go_wp2_with fail
   refine(X.e_ mgG MF.stk hY rcInt mf_ep NmRel.mono rfl rfl).mono ?_
   clear X hY y x z
   rintro e w1 (⟨a1,vs,s1,-,rfl,X,hY⟩|⟨rfl,hB⟩)
   rotate_left
   · go_wp2
     exact⟨rfl,HB.out _ _ (.inr ⟨rfl,hB⟩)⟩
   dsimp only at X hY
   have y:=(X.keep kx hx1 hx2).cell 0
   have x:=(X.keep km hm1 hm2).cell 0
   go_wp2_with fail
   go_still_tail 4,(by kernel_rfl)
   replace X:=X.drew mgG
   go_wp2_with fail
   refine(X.e_ mgG MF.stk hY rcStamp mf_s (Flat.mono _ _) rfl rfl).mono ?_
   clear X hY y x
   rintro e w2 (⟨a2,vs,s2,-,rfl,X,hY⟩|⟨rfl,hB⟩)
   rotate_left
   · go_wp2
     exact⟨rfl,HB.out _ _ (.inr ⟨rfl,hB⟩)⟩
   dsimp only at X hY
   have y:=(X.keep kx hx1 hx2).cell 0
   have x:=(X.keep km hm1 hm2).cell 0
   go_wp2_with fail
   go_still_tail 6,(by kernel_rfl)
   replace X:=X.drew mgG
   go_wp2_with fail
   refine(X.l_ mgG MF.stk hY rlSeen mf_sn SnRel.mn rfl rfl).mono ?_
   clear X hY y x
   rintro e w3 (⟨a3,vs,s3,-,rfl,X,hY⟩|⟨rfl,hB⟩)
   rotate_left
   · go_wp2
     exact⟨rfl,HB.out _ _ (.inr ⟨rfl,hB⟩)⟩
   dsimp only at X hY
   have y:=(X.keep kx hx1 hx2).cell 0
   have x:=(X.keep km hm1 hm2).cell 0
   go_wp2_with fail
   go_still_tail 6,(by kernel_rfl)
   replace X:=X.drew mgG
   go_wp2_with fail
   refine(X.l_ mgG MF.stk hY rlWrite mf_ws WtRel.mono rfl rfl).mono ?_
   clear X hY y x
   rintro e w4 (⟨a4,vs,s4,-,rfl,X,hY⟩|⟨rfl,hB⟩)
   rotate_left
   · go_wp2
     exact⟨rfl,HB.out _ _ (.inr ⟨rfl,hB⟩)⟩
   dsimp only at X hY
   have y:=(X.keep kx hx1 hx2).cell 0
   have x:=(X.keep km hm1 hm2).cell 0
   go_wp2_with fail
   go_still_tail 6,(by kernel_rfl)
   replace X:=X.drew mgG
   go_wp2_with fail
   refine(X.l_ mgG MF.stk hY rlInt mf_ps NmRel.mono rfl rfl).mono ?_
   clear X hY y x
   rintro e w5 (⟨a5,vs,s5,-,rfl,X,hY⟩|⟨rfl,hB⟩)
   rotate_left
   · go_wp2
     exact⟨rfl,HB.out _ _ (.inr ⟨rfl,hB⟩)⟩
   dsimp only at X hY
   have y:=(X.keep kx hx1 hx2).cell 0
   have x:=(X.keep km hm1 hm2).cell 0
   go_wp2
   go_end0
   exact HB.out _ _ (X.done hY)
 · replace hY:rSeq MF.rd [.cd,.s,.rs] _ l s=Y:=hY
   go_wp2_with fail
   refine(X.el mgG MF.stk hY rfl mf_cd NmRel.mono (rcNumber _ g A n c l _ gc bx bm b _ X.cr X.e (X.dst 8 [.int .i64 0] rfl) (X.keep kx hx1 hx2) (X.keep km hm1 hm2) hx1 hx2 hm1 hm2)).mono ?_
   clear X hY y x z
   rintro e w1 (⟨a1,vs,s1,-,rfl,X,hY⟩|⟨rfl,hB⟩)
   rotate_left
   · go_wp2
     exact⟨rfl,HB.out _ _ (.inr ⟨rfl,hB⟩)⟩
   dsimp only at X hY
   have y:=(X.keep kx hx1 hx2).cell 0
   have x:=(X.keep km hm1 hm2).cell 0
   go_wp2_with fail
   go_still_tail 4,(by kernel_rfl)
   replace X:=X.drew mgG
   go_wp2_with fail
   refine(X.e_ mgG MF.stk hY rcStamp mf_s (Flat.mono _ _) rfl rfl).mono ?_
   clear X hY y x
   rintro e w2 (⟨a2,vs,s2,-,rfl,X,hY⟩|⟨rfl,hB⟩)
   rotate_left
   · go_wp2
     exact⟨rfl,HB.out _ _ (.inr ⟨rfl,hB⟩)⟩
   dsimp only at X hY
   have y:=(X.keep kx hx1 hx2).cell 0
   have x:=(X.keep km hm1 hm2).cell 0
   go_wp2_with fail
   go_still_tail 6,(by kernel_rfl)
   replace X:=X.drew mgG
   go_wp2_with fail
   refine(X.l_ mgG MF.stk hY rlRange mf_rs RgRel.mn rfl rfl).mono ?_
   clear X hY y x
   rintro e w3 (⟨a3,vs,s3,-,rfl,X,hY⟩|⟨rfl,hB⟩)
   rotate_left
   · go_wp2
     exact⟨rfl,HB.out _ _ (.inr ⟨rfl,hB⟩)⟩
   dsimp only at X hY
   have y:=(X.keep kx hx1 hx2).cell 0
   have x:=(X.keep km hm1 hm2).cell 0
   go_wp2
   go_end0
   exact HB.out _ _ (X.done hY)
 · replace hY:rSeq MF.rd [.cm,.s] _ l s=Y:=hY
   go_wp2_with fail
   go_still_tail 4,(by kernel_rfl)
   replace X:=X.drew mgG
   go_wp2_with fail
   refine(X.e_ mgG MF.stk hY rcFlag mf_cm (Flat.mono _ _) rfl rfl).mono ?_
   clear X hY y x z
   rintro e w1 (⟨a1,vs,s1,-,rfl,X,hY⟩|⟨rfl,hB⟩)
   rotate_left
   · go_wp2
     exact⟨rfl,HB.out _ _ (.inr ⟨rfl,hB⟩)⟩
   dsimp only at X hY
   have y:=(X.keep kx hx1 hx2).cell 0
   have x:=(X.keep km hm1 hm2).cell 0
   go_wp2_with fail
   go_still_tail 4,(by kernel_rfl)
   replace X:=X.drew mgG
   go_wp2_with fail
   refine(X.e_ mgG MF.stk hY rcStamp mf_s (Flat.mono _ _) rfl rfl).mono ?_
   clear X hY y x
   rintro e w2 (⟨a2,vs,s2,-,rfl,X,hY⟩|⟨rfl,hB⟩)
   rotate_left
   · go_wp2
     exact⟨rfl,HB.out _ _ (.inr ⟨rfl,hB⟩)⟩
   dsimp only at X hY
   have y:=(X.keep kx hx1 hx2).cell 0
   have x:=(X.keep km hm1 hm2).cell 0
   go_wp2
   go_end0
   exact HB.out _ _ (X.done hY)
 · replace hY:rSeq MF.rd [] _ l s=Y:=hY
   go_wp2
   go_end0
   exact HB.out _ _ (X.done hY)
 · replace hY:rSeq MF.rd [] _ l s=Y:=hY
   go_wp2
   go_end0
   exact HB.out _ _ (X.done hY)
theorem rmwalk_any (w:World) (g:Nat) (A:Option Addr) (n c:Nat) (l:List UInt8) (s:RS) (gc b:Nat) (X0:RM mgK w w g A n c l gc b ⟨0,0,0,zTx,0,0,0,zSp,zSp,false,0,0,[],[],[],[],[],[],zSt⟩ ⟨Hd.nil,Hd.nil,Hd.nil,Hd.nil,Hd.nil,Hd.nil,Hd.nil,Hd.nil⟩ s) (hn8:n≤100000000):
 Calls Tryz.prog 42 #[.pointer (some ⟨gc,0,none⟩),.pointer (some ⟨b,0,none⟩)] w (REnd mgK w g A n c l gc b (rMsg l s)):=by
 have hmf:∀(fn:Fn) (first cap:Array Value) (w:World),(Instr.makeFunc fn first cap).run Tryz.prog w=.ok (.func fn first cap) w:=fun _ _ _ _=>rfl
 obtain⟨Y,hYd⟩:∃Y,rMsg l s=Y:=⟨_,rfl⟩
 rw[hYd]
 have hY:rSeq MF.rd (.k:: .fr:: .ton::fieldF (rInt l s).1) ⟨0,0,0,zTx,0,0,0,zSp,zSp,false,0,0,[],[],[],[],[],[],zSt⟩ l s=Y:=hYd
 have hW:Below w.heap.size w (w.alloc (.cells #[.pointer (some ⟨gc,0,none⟩)] 84)):=by go_grown
 have kx:Blk (w.alloc (.cells #[.pointer (some ⟨gc,0,none⟩)] 84)) w.heap.size 84 #[.pointer (some ⟨gc,0,none⟩)]:=Blk.new _ _ _
 have X:=RM.start (K:=mgK) (x:=⟨0,0,0,zTx,0,0,0,zSp,zSp,false,0,0,[],[],[],[],[],[],zSt⟩) (h:=⟨Hd.nil,Hd.nil,Hd.nil,Hd.nil,Hd.nil,Hd.nil,Hd.nil,Hd.nil⟩) mgG (X0.cr.below hW) X0.e (X0.blk.below hW X0.blk.lt) (fun w B=>mgNil w B) X0.ng X0.nc X0.ap
 have hx1:w.heap.size≠g:=by have:=X0.gl;omega
 have hx2:w.heap.size≠b:=by have:=X0.bl;omega
 have HB:=Lib.hid (fun e W (h:REnd mgK (w.alloc (.cells #[.pointer (some ⟨gc,0,none⟩)] 84)) g A n c l gc b Y e W)=>REnd.base mgG (Two2.ofBelow g b hW) X0.gl X0.bl h)
 clear X0 hW hYd
 go_enter Tryz.func42,Tryz.ntmps42
 go_upto_region 1 with fail
 generalize (w.alloc (.cells #[.pointer (some ⟨gc,0,none⟩)] 84))=w0 at*
 generalize w.heap.size=bx at*
 have y:=kx.cell 0
 go_still_tail 4,(by kernel_rfl)
 replace X:=X.drew mgG
 go_wp2_with fail
 refine(X.e_ mgG MF.stk hY rcInt mf_k NmRel.mono rfl rfl).mono ?_
 clear X hY y
 rintro e w1 (⟨a1,vs,s1,ha,rfl,X,hY⟩|⟨rfl,hB⟩)
 rotate_left
 · go_wp2
   exact⟨rfl,HB.out _ _ (.inr ⟨rfl,hB⟩)⟩
 dsimp only at X hY
 have y:=(X.keep kx hx1 hx2).cell 0
 rw[←ha]at hY
 clear ha
 go_wp2_with fail
 go_still_tail 4,(by kernel_rfl)
 replace X:=X.drew mgG
 go_wp2_with fail
 refine(X.e_ mgG MF.stk hY rcInt mf_fr NmRel.mono rfl rfl).mono ?_
 clear X hY y
 rintro e w2 (⟨a2,vs,s2,-,rfl,X,hY⟩|⟨rfl,hB⟩)
 rotate_left
 · go_wp2
   exact⟨rfl,HB.out _ _ (.inr ⟨rfl,hB⟩)⟩
 dsimp only at X hY
 have y:=(X.keep kx hx1 hx2).cell 0
 go_wp2_with fail
 go_still_tail 4,(by kernel_rfl)
 replace X:=X.drew mgG
 go_wp2_with fail
 refine(X.e_ mgG MF.stk hY rcInt mf_ton NmRel.mono rfl rfl).mono ?_
 clear X hY y
 rintro e w3 (⟨a3,vs,s3,-,rfl,X,hY⟩|⟨rfl,hB⟩)
 rotate_left
 · go_wp2
   exact⟨rfl,HB.out _ _ (.inr ⟨rfl,hB⟩)⟩
 dsimp only at X hY
 have y:=(X.keep kx hx1 hx2).cell 0
 rcases (by omega:(1≤a1∧a1≤7)∨a1=8∨a1=9∨a1=10∨a1=11∨a1=12∨a1=14∨(¬(1≤a1∧a1≤7)∧a1≠8∧a1≠9∧a1≠10∧a1≠11∧a1≠12∧a1≠14)) with hk|rfl|rfl|rfl|rfl|rfl|rfl|hk
 · rw[show fieldF a1=.t:: .rg::dealF a1 from if_pos hk]at hY
   have HK:=Lib.hid hk
   rcases bit_k hk with rfl|rfl|rfl|rfl|rfl|rfl|rfl
   all_goals
    clear hk
    have z:=X.cell 0 rfl
    go_wp2_with fail
    go_still_tail 4,(by kernel_rfl)
    replace X:=X.drew mgG
    go_wp2_with fail
    refine(X.e_ mgG MF.stk hY rcTxn mf_t (Flat.mono _ _) rfl rfl).mono ?_
    clear X hY y z
    rintro e w4 (⟨a4,vs,s4,-,rfl,X,hY⟩|⟨rfl,hB⟩)
    rotate_left
    · go_wp2
      exact⟨rfl,HB.out _ _ (.inr ⟨rfl,hB⟩)⟩
    dsimp only at X hY
    have y:=(X.keep kx hx1 hx2).cell 0
    go_wp2_with fail
    go_still_tail 4,(by kernel_rfl)
    replace X:=X.drew mgG
    go_wp2_with fail
    refine(X.e_ mgG MF.stk hY rcInt mf_rg NmRel.mono rfl rfl).mono ?_
    clear X hY y
    rintro e w5 (⟨a5,vs,s5,-,rfl,X,hY⟩|⟨rfl,hB⟩)
    rotate_left
    · go_wp2
      exact⟨rfl,HB.out _ _ (.inr ⟨rfl,hB⟩)⟩
    dsimp only at X hY
    have y:=(X.keep kx hx1 hx2).cell 0
    have HB2:=Lib.hid (fun e W (h:REnd mgK w5 g A n c l gc b Y e W)=>HB.out e W (REnd.base mgG X.two X.gl X.bl h))
    have ok:=X.lo.1
    have X5:=RM.start (K:=mgK) (h:=⟨Hd.nil,Hd.nil,Hd.nil,Hd.nil,Hd.nil,Hd.nil,Hd.nil,Hd.nil⟩) mgG X.cr X.e X.blk (fun w B=>⟨ok,(mgNil w B).2.1,⟨Sl.nil,Sl.nil,Sl.nil,Sl.nil,Sl.nil,Sl.nil,Sl.nil,Sl.nil⟩⟩) X.ng X.nc X.ap
    go_wp2_with fail
    refine(rdeal_any _ _ _ _ _ w5 g A n c l s5 gc b Y HK.out X5 hY).mono ?_
    clear X X5 hY y ok
    rintro e w6 h6
    rcases h6 with ⟨rfl,h6⟩|⟨rfl,h6⟩
    · go_wp2
      go_end0
      exact HB2.out _ _ (.inl ⟨rfl,h6⟩)
    · go_wp2
      exact⟨rfl,HB2.out _ _ (.inr ⟨rfl,h6⟩)⟩
 · replace hY:rSeq MF.rd [.rg,.n,.mx,.s] _ l s3=Y:=hY
   have z:=X.cell 0 rfl
   go_wp2_with fail
   go_still_tail 4,(by kernel_rfl)
   replace X:=X.drew mgG
   go_wp2_with fail
   refine(X.e_ mgG MF.stk hY rcInt mf_rg NmRel.mono rfl rfl).mono ?_
   clear X hY y z
   rintro e w4 (⟨a4,vs,s4,-,rfl,X,hY⟩|⟨rfl,hB⟩)
   rotate_left
   · go_wp2
     exact⟨rfl,HB.out _ _ (.inr ⟨rfl,hB⟩)⟩
   dsimp only at X hY
   have y:=(X.keep kx hx1 hx2).cell 0
   go_wp2_with fail
   go_still_tail 4,(by kernel_rfl)
   replace X:=X.drew mgG
   go_wp2_with fail
   refine(X.e_ mgG MF.stk hY rcInt mf_n NmRel.mono rfl rfl).mono ?_
   clear X hY y
   rintro e w5 (⟨a5,vs,s5,-,rfl,X,hY⟩|⟨rfl,hB⟩)
   rotate_left
   · go_wp2
     exact⟨rfl,HB.out _ _ (.inr ⟨rfl,hB⟩)⟩
   dsimp only at X hY
   have y:=(X.keep kx hx1 hx2).cell 0
   go_wp2_with fail
   go_still_tail 4,(by kernel_rfl)
   replace X:=X.drew mgG
   go_wp2_with fail
   refine(X.e_ mgG MF.stk hY rcInt mf_mx NmRel.mono rfl rfl).mono ?_
   clear X hY y
   rintro e w6 (⟨a6,vs,s6,-,rfl,X,hY⟩|⟨rfl,hB⟩)
   rotate_left
   · go_wp2
     exact⟨rfl,HB.out _ _ (.inr ⟨rfl,hB⟩)⟩
   dsimp only at X hY
   have y:=(X.keep kx hx1 hx2).cell 0
   go_wp2_with fail
   go_still_tail 4,(by kernel_rfl)
   replace X:=X.drew mgG
   go_wp2_with fail
   refine(X.e_ mgG MF.stk hY rcStamp mf_s (Flat.mono _ _) rfl rfl).mono ?_
   clear X hY y
   rintro e w7 (⟨a7,vs,s7,-,rfl,X,hY⟩|⟨rfl,hB⟩)
   rotate_left
   · go_wp2
     exact⟨rfl,HB.out _ _ (.inr ⟨rfl,hB⟩)⟩
   dsimp only at X hY
   have y:=(X.keep kx hx1 hx2).cell 0
   go_wp2
   go_end0
   exact HB.out _ _ (X.done hY)
 · replace hY:rSeq MF.rd [.rg,.n,.rc] _ l s3=Y:=hY
   have z:=X.cell 0 rfl
   go_wp2_with fail
   go_still_tail 4,(by kernel_rfl)
   replace X:=X.drew mgG
   go_wp2_with fail
   refine(X.e_ mgG MF.stk hY rcInt mf_rg NmRel.mono rfl rfl).mono ?_
   clear X hY y z
   rintro e w4 (⟨a4,vs,s4,-,rfl,X,hY⟩|⟨rfl,hB⟩)
   rotate_left
   · go_wp2
     exact⟨rfl,HB.out _ _ (.inr ⟨rfl,hB⟩)⟩
   dsimp only at X hY
   have y:=(X.keep kx hx1 hx2).cell 0
   go_wp2_with fail
   go_still_tail 4,(by kernel_rfl)
   replace X:=X.drew mgG
   go_wp2_with fail
   refine(X.e_ mgG MF.stk hY rcInt mf_n NmRel.mono rfl rfl).mono ?_
   clear X hY y
   rintro e w5 (⟨a5,vs,s5,-,rfl,X,hY⟩|⟨rfl,hB⟩)
   rotate_left
   · go_wp2
     exact⟨rfl,HB.out _ _ (.inr ⟨rfl,hB⟩)⟩
   dsimp only at X hY
   have y:=(X.keep kx hx1 hx2).cell 0
   go_wp2_with fail
   go_still_tail 5,(by kernel_rfl)
   replace X:=X.drew mgG
   go_wp2_with fail
   refine(X.el mgG MF.stk hY rfl mf_rc (LsRel.mono RmRel.mn) (rlRec _ g A n c l _ gc bx b _ _ 23 X.cr X.e (X.dst 23 [.slice none 0 0] rfl) (X.keep kx hx1 hx2) hx1 hx2 hn8)).mono ?_
   clear X hY y
   rintro e w6 (⟨a6,vs,s6,-,rfl,X,hY⟩|⟨rfl,hB⟩)
   rotate_left
   · go_wp2
     exact⟨rfl,HB.out _ _ (.inr ⟨rfl,hB⟩)⟩
   dsimp only at X hY
   have y:=(X.keep kx hx1 hx2).cell 0
   go_wp2
   go_end0
   exact HB.out _ _ (X.done hY)
 · replace hY:rSeq MF.rd [.rg,.st] _ l s3=Y:=hY
   have z:=X.cell 0 rfl
   go_wp2_with fail
   go_still_tail 4,(by kernel_rfl)
   replace X:=X.drew mgG
   go_wp2_with fail
   refine(X.e_ mgG MF.stk hY rcInt mf_rg NmRel.mono rfl rfl).mono ?_
   clear X hY y z
   rintro e w4 (⟨a4,vs,s4,-,rfl,X,hY⟩|⟨rfl,hB⟩)
   rotate_left
   · go_wp2
     exact⟨rfl,HB.out _ _ (.inr ⟨rfl,hB⟩)⟩
   dsimp only at X hY
   have y:=(X.keep kx hx1 hx2).cell 0
   go_wp2_with fail
   go_still_tail 4,(by kernel_rfl)
   replace X:=X.drew mgG
   go_wp2_with fail
   refine(X.e_ mgG MF.stk hY rcState mf_st SttRel.mono rfl rfl).mono ?_
   clear X hY y
   rintro e w5 (⟨a5,vs,s5,-,rfl,X,hY⟩|⟨rfl,hB⟩)
   rotate_left
   · go_wp2
     exact⟨rfl,HB.out _ _ (.inr ⟨rfl,hB⟩)⟩
   dsimp only at X hY
   have y:=(X.keep kx hx1 hx2).cell 0
   go_wp2
   go_end0
   exact HB.out _ _ (X.done hY)
 · replace hY:rSeq MF.rd [.rg] _ l s3=Y:=hY
   have z:=X.cell 0 rfl
   go_wp2_with fail
   go_still_tail 4,(by kernel_rfl)
   replace X:=X.drew mgG
   go_wp2_with fail
   refine(X.e_ mgG MF.stk hY rcInt mf_rg NmRel.mono rfl rfl).mono ?_
   clear X hY y z
   rintro e w4 (⟨a4,vs,s4,-,rfl,X,hY⟩|⟨rfl,hB⟩)
   rotate_left
   · go_wp2
     exact⟨rfl,HB.out _ _ (.inr ⟨rfl,hB⟩)⟩
   dsimp only at X hY
   have y:=(X.keep kx hx1 hx2).cell 0
   go_wp2
   go_end0
   exact HB.out _ _ (X.done hY)
 · replace hY:rSeq MF.rd [.pv,.s,.t,.ws] _ l s3=Y:=hY
   have z:=X.cell 0 rfl
   go_wp2_with fail
   go_still_tail 4,(by kernel_rfl)
   replace X:=X.drew mgG
   go_wp2_with fail
   refine(X.e_ mgG MF.stk hY rcStamp mf_pv (Flat.mono _ _) rfl rfl).mono ?_
   clear X hY y z
   rintro e w4 (⟨a4,vs,s4,-,rfl,X,hY⟩|⟨rfl,hB⟩)
   rotate_left
   · go_wp2
     exact⟨rfl,HB.out _ _ (.inr ⟨rfl,hB⟩)⟩
   dsimp only at X hY
   have y:=(X.keep kx hx1 hx2).cell 0
   go_wp2_with fail
   go_still_tail 4,(by kernel_rfl)
   replace X:=X.drew mgG
   go_wp2_with fail
   refine(X.e_ mgG MF.stk hY rcStamp mf_s (Flat.mono _ _) rfl rfl).mono ?_
   clear X hY y
   rintro e w5 (⟨a5,vs,s5,-,rfl,X,hY⟩|⟨rfl,hB⟩)
   rotate_left
   · go_wp2
     exact⟨rfl,HB.out _ _ (.inr ⟨rfl,hB⟩)⟩
   dsimp only at X hY
   have y:=(X.keep kx hx1 hx2).cell 0
   go_wp2_with fail
   go_still_tail 4,(by kernel_rfl)
   replace X:=X.drew mgG
   go_wp2_with fail
   refine(X.e_ mgG MF.stk hY rcTxn mf_t (Flat.mono _ _) rfl rfl).mono ?_
   clear X hY y
   rintro e w6 (⟨a6,vs,s6,-,rfl,X,hY⟩|⟨rfl,hB⟩)
   rotate_left
   · go_wp2
     exact⟨rfl,HB.out _ _ (.inr ⟨rfl,hB⟩)⟩
   dsimp only at X hY
   have y:=(X.keep kx hx1 hx2).cell 0
   go_wp2_with fail
   go_still_tail 6,(by kernel_rfl)
   replace X:=X.drew mgG
   go_wp2_with fail
   refine(X.l_ mgG MF.stk hY rlWrite mf_ws WtRel.mono rfl rfl).mono ?_
   clear X hY y
   rintro e w7 (⟨a7,vs,s7,-,rfl,X,hY⟩|⟨rfl,hB⟩)
   rotate_left
   · go_wp2
     exact⟨rfl,HB.out _ _ (.inr ⟨rfl,hB⟩)⟩
   dsimp only at X hY
   have y:=(X.keep kx hx1 hx2).cell 0
   go_wp2
   go_end0
   exact HB.out _ _ (X.done hY)
 · replace hY:rSeq MF.rd [.s] _ l s3=Y:=hY
   have z:=X.cell 0 rfl
   go_wp2_with fail
   go_still_tail 4,(by kernel_rfl)
   replace X:=X.drew mgG
   go_wp2_with fail
   refine(X.e_ mgG MF.stk hY rcStamp mf_s (Flat.mono _ _) rfl rfl).mono ?_
   clear X hY y z
   rintro e w4 (⟨a4,vs,s4,-,rfl,X,hY⟩|⟨rfl,hB⟩)
   rotate_left
   · go_wp2
     exact⟨rfl,HB.out _ _ (.inr ⟨rfl,hB⟩)⟩
   dsimp only at X hY
   have y:=(X.keep kx hx1 hx2).cell 0
   go_wp2
   go_end0
   exact HB.out _ _ (X.done hY)
 · have hF:fieldF a1=[]:=by
    unfold fieldF
    repeat rw[if_neg (by omega)]
   rw[hF]at hY
   have b1:(a1==1)=false:=by simp;omega
   have b2:(a1==2)=false:=by simp;omega
   have b3:(a1==3)=false:=by simp;omega
   have b4:(a1==4)=false:=by simp;omega
   have b5:(a1==5)=false:=by simp;omega
   have b6:(a1==6)=false:=by simp;omega
   have b7:(a1==7)=false:=by simp;omega
   have b8:(a1==8)=false:=by simp;omega
   have b9:(a1==9)=false:=by simp;omega
   have b10:(a1==10)=false:=by simp;omega
   have b11:(a1==11)=false:=by simp;omega
   have b12:(a1==12)=false:=by simp;omega
   have b14:(a1==14)=false:=by simp;omega
   clear hk hF
   have z:=X.cell 0 rfl
   go_wp2
   go_end0
   exact HB.out _ _ (X.done hY)
end Go.Proofs.YtcalkfgibflbnaaGreat
