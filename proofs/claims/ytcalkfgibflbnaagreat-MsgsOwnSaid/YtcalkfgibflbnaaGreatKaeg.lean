/- The walks of msgs.deal and msgs.walk of a coder that writes; msgs.Encode. -/
import Derived.Test.YtcalkfgibflbnaaGreatKaab
import Derived.Test.YtcalkfgibflbnaaGreatKaba
import Derived.Test.YtcalkfgibflbnaaGreatKada
namespace Go.Proofs.YtcalkfgibflbnaaGreat
set_option maxHeartbeats 32000000
set_option maxRecDepth 100000
set_option linter.unusedVariables false
open Go.RowKit Fl
attribute [local go_sem] run_store_float
structure WM (w0:World) (v0:Value) (T:List UInt8) (k:Int) (q:Option Nat) (w:World) (B g:Nat) (v:Value) (bs:List UInt8) (gc bx gr:Nat) (m:Mg) (h:Hm) (suf:List UInt8):Prop where
 s:WS w B g v bs gc bx gr m h
 f:Foot w0 w g v0 v
 q:∀b,q=some b→Blk w b 88 #[.pointer (some ⟨gr,0,none⟩)]∧Apt w g v b
 k:m.k=k
 e:bs++suf=T
 n:T.length+10≤1000000000000
def WPost (w0:World) (v0:Value) (T:List UInt8) (k:Int) (q:Option Nat) (B g gc bx gr:Nat) (m:Mg) (h:Hm) (suf:List UInt8):Ending→World→Prop:=fun e w=>
 e=.returned (.tuple #[])∧∃v bs,WM w0 v0 T k q w B g v bs gc bx gr m h suf∧w.cell? ⟨bx,0,none⟩=some (.pointer (some ⟨gc,0,none⟩))∧w.cell? ⟨gr,0,none⟩=some (.int .i64 k)
section
variable {w0 w:World} {v0 v:Value} {T bs more suf:List UInt8} {k:Int} {q:Option Nat} {B g gc bx gr:Nat} {m:Mg} {h:Hm}
theorem WM.y (X:WM w0 v0 T k q w B g v bs gc bx gr m h suf):w.cell? ⟨bx,0,none⟩=some (.pointer (some ⟨gc,0,none⟩)):=X.s.kx.cell 0
theorem WM.z (X:WM w0 v0 T k q w B g v bs gc bx gr m h suf):w.cell? ⟨gr,0,none⟩=some (.int .i64 k):=by rw[←X.k];exact X.s.km.cell 0
theorem WM.drew (X:WM w0 v0 T k q w B g v bs gc bx gr m h suf):WM w0 v0 T k q w.drew B g v bs gc bx gr m h suf:=by
 have D:Below w.heap.size w w.drew:=(Below.refl _ _).drew
 exact⟨X.s.below D,X.f.trans (Foot.ofBelow g v D),fun b e=>⟨(X.q b e).1,(X.q b e).2⟩,X.k,X.e,X.n⟩
theorem WM.go {F:Nat} {vs:Array Value} (X:WM w0 v0 T k q w B g v bs gc bx gr m h (more++suf)) (H:bs.length+more.length+10≤1000000000000→Calls Tryz.prog F vs w (CPost w B g v bs gc more)):
 Calls Tryz.prog F vs w (WPost w0 v0 T k q B g gc bx gr m h suf):=by
 have n:=X.n
 rw[←X.e]at n
 simp only[List.length_append]at n
 refine(H (by omega)).mono ?_
 rintro e w1 ⟨rfl,v1,hc,hf⟩
 have Y:WM w0 v0 T k q w1 B g v1 (bs++more) gc bx gr m h suf:=⟨X.s.step hc hf,X.f.trans hf,fun b e=>⟨(hf.heap (X.q b e).2).trans (X.q b e).1,hf.apt (X.q b e).2⟩,X.k,by rw[List.append_assoc];exact X.e,X.n⟩
 exact⟨rfl,v1,_,Y,Y.y,Y.z⟩
theorem WM.int {n:Int} (X:WM w0 v0 T k q w B g v bs gc bx gr m h (encI n++suf)) (o:Nat) (ok:i64ok n) (e:((m.vals h).toList.drop o).take 1=[.int .i64 n]:=by rfl):
 Calls Tryz.prog 81 #[.pointer (some ⟨gc,0,none⟩),.pointer (some ⟨gr,o,none⟩)] w (WPost w0 v0 T k q B g gc bx gr m h suf):=
 X.go fun hl=>wcInt n _ B g v bs gc ⟨gr,o,none⟩ _ X.s.c X.s.am rfl (X.s.km.at_ o [.int .i64 n] e) ⟨rfl,ok⟩ hl
theorem WM.sp {a:Sp} (X:WM w0 v0 T k q w B g v bs gc bx gr m h (encSp a++suf)) (o:Nat) (ok:a.ok) (e:((m.vals h).toList.drop o).take 3=[.int .i64 a.w,.int .i64 a.l,.int .i64 a.n]:=by rfl):
 Calls Tryz.prog 84 #[.pointer (some ⟨gc,0,none⟩),.pointer (some ⟨gr,o,none⟩)] w (WPost w0 v0 T k q B g gc bx gr m h suf):=
 X.go fun hl=>wcStamp a _ B g v bs gc ⟨gr,o,none⟩ _ X.s.c X.s.am rfl (X.s.km.at_ o [.int .i64 a.w,.int .i64 a.l,.int .i64 a.n] e) ⟨rfl,ok⟩ hl
theorem WM.fin {b0:List UInt8} (X:WM w0 v0 T k q w B g v bs gc bx gr m h []) (e:T=b0++more):CPost w0 B g v0 b0 gc more (.returned (.tuple #[])) w:=
 ⟨rfl,v,by rw[←e,←X.e,List.append_nil];exact X.s.c,X.f⟩
theorem WM.start {L:List UInt8} (hc:CW w B g v bs gc) (hp:Apt w g v gr) (hb:Blk w gr 41 (m.vals h)) (lo:MgLo w B m h) (hk:m.k=k) (hl:bs.length+L.length+10≤1000000000000) (e:T=bs++L):
 WM w v T k none (w.alloc (.cells #[.pointer (some ⟨gc,0,none⟩)] 84)) B g v bs gc w.heap.size gr m h L:=
 ⟨WS.start hc hp hb lo,Foot.ofBelow g v (by go_grown),fun b e=>(by cases e),hk,e.symm,by rw[e,List.length_append];exact hl⟩
theorem WM.box (X:WM w0 v0 T k none w B g v bs gc bx gr m h suf):
 WM w0 v0 T k (some w.heap.size) (w.alloc (.cells #[.pointer (some ⟨gr,0,none⟩)] 88)) B g v bs gc bx gr m h suf:=by
 have hX:Below w.heap.size w (w.alloc (.cells #[.pointer (some ⟨gr,0,none⟩)] 88)):=by go_grown
 refine⟨X.s.below hX,X.f.trans (Foot.ofBelow g v hX),fun b e=>?_,X.k,X.e,X.n⟩
 cases e
 exact⟨Blk.new _ _ _,⟨by simp,by have:=X.s.c.wr.lt;omega,fun e=>by have:=X.s.c.wr.own_lt _ e.symm;omega⟩⟩
end
theorem wcNumber (m:Mg) (h:Hm) (w:World) (B g:Nat) (v:Value) (bs:List UInt8) (gc bx bm gr:Nat) (S:WS w B g v bs gc bx gr m h) (kb:Blk w bm 88 #[.pointer (some ⟨gr,0,none⟩)]) (ab:Apt w g v bm) (ok:i64ok m.cd) (hlen:bs.length+(encI m.cd).length+10≤1000000000000):
 Calls Tryz.prog 130 #[.pointer (some ⟨bm,0,none⟩),.pointer (some ⟨bx,0,none⟩)] w (CPost w B g v bs gc (encI m.cd)):=by
 have x0:=cl (kb.cell 0)
 have y0:=cl (S.kx.cell 0)
 have z0:=cl (S.km.cell 8)
 have hX:Below w.heap.size w (w.alloc (.cells #[.int .i64 m.cd] 3)):=by go_grown
 have S1:=S.below hX
 have bN:Blk (w.alloc (.cells #[.int .i64 m.cd] 3)) w.heap.size 3 #[.int .i64 m.cd]:=Blk.new _ _ _
 have aN:Apt (w.alloc (.cells #[.int .i64 m.cd] 3)) g v w.heap.size:=⟨by simp,by have:=S.c.wr.lt;omega,fun e=>by have:=S.c.wr.own_lt _ e.symm;omega⟩
 have F1:=Foot.ofBelow g v hX
 have kb1:Blk (w.alloc (.cells #[.int .i64 m.cd] 3)) bm 88 #[.pointer (some ⟨gr,0,none⟩)]:=kb.below hX kb.lt
 have ab1:Apt (w.alloc (.cells #[.int .i64 m.cd] 3)) g v bm:=⟨Nat.lt_of_lt_of_le ab.1 hX.size,ab.2⟩
 have y1:=cl (S1.kx.cell 0)
 clear S kb ab hX
 go_enter Tryz.func130,Tryz.ntmps130
 go_wp2_with fail
 refine(wcInt m.cd _ B g v bs gc ⟨w.heap.size,0,none⟩ _ S1.c aN rfl (bN.at_ 0 [.int .i64 m.cd]) ⟨rfl,ok⟩ hlen).mono ?_
 rintro e w2 ⟨rfl,v2,hc2,hf2⟩
 have S2:=S1.step hc2 hf2
 have x2:w2.cell? ⟨bm,0,none⟩=some (.pointer (some ⟨gr,0,none⟩)):=(show Blk w2 bm 88 _ from (hf2.heap ab1).trans kb1).cell 0
 have n2:w2.cell? ⟨w.heap.size,0,none⟩=some (.int .i64 m.cd):=(show Blk w2 w.heap.size 3 _ from (hf2.heap aN).trans bN).cell 0
 have z2:=cl (S2.km.cell 8)
 have f2:=S2.km.frozen 8
 have hs:=setCell_same (i:=8) S2.km (show (m.vals h)[8]?=some (.int .i64 m.cd) from rfl)
 have HS:=Lib.hid hs
 clear hs
 go_wp2
 go_end0
 rw[HS.out]
 exact⟨rfl,v2,S2.c,F1.trans hf2⟩
def encDeal (m:Mg):List UInt8:=
 if m.k=1 then encI m.ep++(encSp m.s++(encLs encKy m.ks)) else
 if m.k=2 then encI m.cd++(encSp m.s++(encLs encSn m.sn++(encLs encRg m.rs))) else
 if m.k=3 then encI m.ep++(encSp m.s++(encLs encSn m.sn++(encLs encWt m.ws++(encLs encI m.ps)))) else
 if m.k=4 then encI m.cd++(encSp m.s++(encLs encRg m.rs)) else
 if m.k=5 then encB m.cm++(encSp m.s) else
 []
theorem bit_k {k:Int} (h:1≤k∧k≤7):k=1∨k=2∨k=3∨k=4∨k=5∨k=6∨k=7:=by omega
theorem mdealW (m:Mg) (h:Hm) (w:World) (B g:Nat) (v:Value) (bs:List UInt8) (gc gr:Nat) (hk:1≤m.k∧m.k≤7) (hc:CW w B g v bs gc) (hp:Apt w g v gr) (hb:Blk w gr 41 (m.vals h)) (ok:m.ok) (i:MgLo w B m h) (cp:h.caps)
 (hlen:bs.length+(encDeal m).length+10≤1000000000000):
 Calls Tryz.prog 83 #[.pointer (some ⟨gc,0,none⟩),.pointer (some ⟨gr,0,none⟩)] w (CPost w B g v bs gc (encDeal m)):=by
 have hmf:∀(fn:Fn) (first cap:Array Value) (w:World),(Instr.makeFunc fn first cap).run Tryz.prog w=.ok (.func fn first cap) w:=fun _ _ _ _=>rfl
 obtain⟨T,hT⟩:∃T,T=bs++encDeal m:=⟨_,rfl⟩
 rcases bit_k hk with e|e|e|e|e|e|e
 all_goals
  have X:=(WM.start hc hp hb i e hlen hT).box
  have HT:=Lib.hid hT
  replace e:=Lib.hid e
  clear hc hp hb i hlen hk hT
  go_enter Tryz.func83,Tryz.ntmps83
  go_upto_region 1 with fail
  generalize ((w.alloc (.cells #[.pointer (some ⟨gc,0,none⟩)] 84)).alloc (.cells #[.pointer (some ⟨gr,0,none⟩)] 88))=w0 at*
  have hbm:(w.alloc (.cells #[.pointer (some ⟨gc,0,none⟩)] 84)).heap.size=w.heap.size+1:=by simp
  rw[hbm]at X
  clear hbm
  generalize w.heap.size+1=bm at*
  generalize w.heap.size=bx at*
  have y:=X.y
  have z:=X.z
 · rw[show encDeal m=encI m.ep++(encSp m.s++(encLs encKy m.ks++([]))) from by unfold encDeal;simp[e.out]]at X
   clear e
   have x:=(X.q _ rfl).1.cell 0
   go_wp2_with fail
   go_still_tail 4,(by kernel_rfl)
   replace X:=X.drew
   go_wp2_with fail
   refine(have Y:=X;Y.int 7 ok.ep).mono ?_
   clear X y z x
   rintro e w1 ⟨rfl,v1,b1,X,y,z⟩
   have x:=(X.q _ rfl).1.cell 0
   go_wp2_with fail
   go_still_tail 4,(by kernel_rfl)
   replace X:=X.drew
   go_wp2_with fail
   refine(have Y:=X;Y.sp 9 ok.s).mono ?_
   clear X y z x
   rintro e w1 ⟨rfl,v1,b1,X,y,z⟩
   have x:=(X.q _ rfl).1.cell 0
   go_wp2_with fail
   go_still_tail 6,(by kernel_rfl)
   replace X:=X.drew
   go_wp2_with fail
   refine(have Y:=X;Y.go fun hl=>wlText m.ks h.a.A h.a.n h.a.c _ B g _ _ gc ⟨gr,18,none⟩ Y.s.c Y.s.am (Y.s.km.cell 18) (Nat.le_trans cp.a.1 cp.a.2) Y.s.lo.ks hl).mono ?_
   clear X y z x
   rintro e w1 ⟨rfl,v1,b1,X,y,z⟩
   have x:=(X.q _ rfl).1.cell 0
   go_wp2
   go_end0
   exact X.fin HT.out
 · rw[show encDeal m=encI m.cd++(encSp m.s++(encLs encSn m.sn++(encLs encRg m.rs++([])))) from by unfold encDeal;simp[e.out]]at X
   clear e
   have x:=(X.q _ rfl).1.cell 0
   go_wp2_with fail
   refine(have Y:=X;Y.go fun hl=>wcNumber m h _ B g _ _ gc bx bm gr Y.s (Y.q _ rfl).1 (Y.q _ rfl).2 ok.cd hl).mono ?_
   clear X y z x
   rintro e w1 ⟨rfl,v1,b1,X,y,z⟩
   have x:=(X.q _ rfl).1.cell 0
   go_wp2_with fail
   go_still_tail 4,(by kernel_rfl)
   replace X:=X.drew
   go_wp2_with fail
   refine(have Y:=X;Y.sp 9 ok.s).mono ?_
   clear X y z x
   rintro e w1 ⟨rfl,v1,b1,X,y,z⟩
   have x:=(X.q _ rfl).1.cell 0
   go_wp2_with fail
   go_still_tail 6,(by kernel_rfl)
   replace X:=X.drew
   go_wp2_with fail
   refine(have Y:=X;Y.go fun hl=>wlSeen m.sn h.b.A h.b.n h.b.c _ B g _ _ gc ⟨gr,19,none⟩ Y.s.c Y.s.am (Y.s.km.cell 19) (Nat.le_trans cp.b.1 cp.b.2) Y.s.lo.sn hl).mono ?_
   clear X y z x
   rintro e w1 ⟨rfl,v1,b1,X,y,z⟩
   have x:=(X.q _ rfl).1.cell 0
   go_wp2_with fail
   go_still_tail 6,(by kernel_rfl)
   replace X:=X.drew
   go_wp2_with fail
   refine(have Y:=X;Y.go fun hl=>wlRange m.rs h.e.A h.e.n h.e.c _ B g _ _ gc ⟨gr,22,none⟩ Y.s.c Y.s.am (Y.s.km.cell 22) (Nat.le_trans cp.e.1 cp.e.2) Y.s.lo.rs hl).mono ?_
   clear X y z x
   rintro e w1 ⟨rfl,v1,b1,X,y,z⟩
   have x:=(X.q _ rfl).1.cell 0
   go_wp2
   go_end0
   exact X.fin HT.out
 · rw[show encDeal m=encI m.ep++(encSp m.s++(encLs encSn m.sn++(encLs encWt m.ws++(encLs encI m.ps++([]))))) from by unfold encDeal;simp[e.out]]at X
   clear e
   have x:=(X.q _ rfl).1.cell 0
   go_wp2_with fail
   go_still_tail 4,(by kernel_rfl)
   replace X:=X.drew
   go_wp2_with fail
   refine(have Y:=X;Y.int 7 ok.ep).mono ?_
   clear X y z x
   rintro e w1 ⟨rfl,v1,b1,X,y,z⟩
   have x:=(X.q _ rfl).1.cell 0
   go_wp2_with fail
   go_still_tail 4,(by kernel_rfl)
   replace X:=X.drew
   go_wp2_with fail
   refine(have Y:=X;Y.sp 9 ok.s).mono ?_
   clear X y z x
   rintro e w1 ⟨rfl,v1,b1,X,y,z⟩
   have x:=(X.q _ rfl).1.cell 0
   go_wp2_with fail
   go_still_tail 6,(by kernel_rfl)
   replace X:=X.drew
   go_wp2_with fail
   refine(have Y:=X;Y.go fun hl=>wlSeen m.sn h.b.A h.b.n h.b.c _ B g _ _ gc ⟨gr,19,none⟩ Y.s.c Y.s.am (Y.s.km.cell 19) (Nat.le_trans cp.b.1 cp.b.2) Y.s.lo.sn hl).mono ?_
   clear X y z x
   rintro e w1 ⟨rfl,v1,b1,X,y,z⟩
   have x:=(X.q _ rfl).1.cell 0
   go_wp2_with fail
   go_still_tail 6,(by kernel_rfl)
   replace X:=X.drew
   go_wp2_with fail
   refine(have Y:=X;Y.go fun hl=>wlWrite m.ws h.c.A h.c.n h.c.c _ B g _ _ gc ⟨gr,20,none⟩ Y.s.c Y.s.am (Y.s.km.cell 20) (Nat.le_trans cp.c.1 cp.c.2) Y.s.lo.ws hl).mono ?_
   clear X y z x
   rintro e w1 ⟨rfl,v1,b1,X,y,z⟩
   have x:=(X.q _ rfl).1.cell 0
   go_wp2_with fail
   go_still_tail 6,(by kernel_rfl)
   replace X:=X.drew
   go_wp2_with fail
   refine(have Y:=X;Y.go fun hl=>wlInt m.ps h.d.A h.d.n h.d.c _ B g _ _ gc ⟨gr,21,none⟩ Y.s.c Y.s.am (Y.s.km.cell 21) (Nat.le_trans cp.d.1 cp.d.2) Y.s.lo.ps hl).mono ?_
   clear X y z x
   rintro e w1 ⟨rfl,v1,b1,X,y,z⟩
   have x:=(X.q _ rfl).1.cell 0
   go_wp2
   go_end0
   exact X.fin HT.out
 · rw[show encDeal m=encI m.cd++(encSp m.s++(encLs encRg m.rs++([]))) from by unfold encDeal;simp[e.out]]at X
   clear e
   have x:=(X.q _ rfl).1.cell 0
   go_wp2_with fail
   refine(have Y:=X;Y.go fun hl=>wcNumber m h _ B g _ _ gc bx bm gr Y.s (Y.q _ rfl).1 (Y.q _ rfl).2 ok.cd hl).mono ?_
   clear X y z x
   rintro e w1 ⟨rfl,v1,b1,X,y,z⟩
   have x:=(X.q _ rfl).1.cell 0
   go_wp2_with fail
   go_still_tail 4,(by kernel_rfl)
   replace X:=X.drew
   go_wp2_with fail
   refine(have Y:=X;Y.sp 9 ok.s).mono ?_
   clear X y z x
   rintro e w1 ⟨rfl,v1,b1,X,y,z⟩
   have x:=(X.q _ rfl).1.cell 0
   go_wp2_with fail
   go_still_tail 6,(by kernel_rfl)
   replace X:=X.drew
   go_wp2_with fail
   refine(have Y:=X;Y.go fun hl=>wlRange m.rs h.e.A h.e.n h.e.c _ B g _ _ gc ⟨gr,22,none⟩ Y.s.c Y.s.am (Y.s.km.cell 22) (Nat.le_trans cp.e.1 cp.e.2) Y.s.lo.rs hl).mono ?_
   clear X y z x
   rintro e w1 ⟨rfl,v1,b1,X,y,z⟩
   have x:=(X.q _ rfl).1.cell 0
   go_wp2
   go_end0
   exact X.fin HT.out
 · rw[show encDeal m=encB m.cm++(encSp m.s++([])) from by unfold encDeal;simp[e.out]]at X
   clear e
   have x:=(X.q _ rfl).1.cell 0
   go_wp2_with fail
   go_still_tail 4,(by kernel_rfl)
   replace X:=X.drew
   go_wp2_with fail
   refine(have Y:=X;Y.go fun hl=>wcFlag m.cm _ B g _ _ gc ⟨gr,15,none⟩ _ Y.s.c Y.s.am rfl (Y.s.km.at_ 15 [.bool m.cm]) ⟨rfl,trivial⟩ hl).mono ?_
   clear X y z x
   rintro e w1 ⟨rfl,v1,b1,X,y,z⟩
   have x:=(X.q _ rfl).1.cell 0
   go_wp2_with fail
   go_still_tail 4,(by kernel_rfl)
   replace X:=X.drew
   go_wp2_with fail
   refine(have Y:=X;Y.sp 9 ok.s).mono ?_
   clear X y z x
   rintro e w1 ⟨rfl,v1,b1,X,y,z⟩
   have x:=(X.q _ rfl).1.cell 0
   go_wp2
   go_end0
   exact X.fin HT.out
 · rw[show encDeal m=[] from by unfold encDeal;simp[e.out]]at X
   clear e
   have x:=(X.q _ rfl).1.cell 0
   go_wp2
   go_end0
   exact X.fin HT.out
 · rw[show encDeal m=[] from by unfold encDeal;simp[e.out]]at X
   clear e
   have x:=(X.q _ rfl).1.cell 0
   go_wp2
   go_end0
   exact X.fin HT.out
def encMb (m:Mg):List UInt8:=
 if 1≤m.k∧m.k≤7 then encTx m.t++(encI m.rg++(encDeal m)) else
 if m.k=8 then encI m.rg++(encI m.n++(encI m.mx++(encSp m.s))) else
 if m.k=9 then encI m.rg++(encI m.n++(encLs encRm m.rc)) else
 if m.k=10 then encI m.rg++(encSt m.st) else
 if m.k=11 then encI m.rg else
 if m.k=12 then encSp m.pv++(encSp m.s++(encTx m.t++(encLs encWt m.ws))) else
 if m.k=14 then encSp m.s else
 []
def encMg (m:Mg):List UInt8:=encI m.k++(encI m.fr++(encI m.ton++encMb m))
theorem mwalkW (m:Mg) (h:Hm) (w:World) (B g:Nat) (v:Value) (bs:List UInt8) (gc gr:Nat) (hk:kindM m.k=true) (hc:CW w B g v bs gc) (hp:Apt w g v gr) (hb:Blk w gr 41 (m.vals h)) (ok:m.ok) (i:MgLo w B m h) (cp:h.caps) (pl:∀r∈m.rc,RcPl r)
 (hlen:bs.length+(encMg m).length+10≤1000000000000):
 Calls Tryz.prog 42 #[.pointer (some ⟨gc,0,none⟩),.pointer (some ⟨gr,0,none⟩)] w (CPost w B g v bs gc (encMg m)):=by
 have hk2:(1≤m.k∧m.k≤7)∨m.k=8∨m.k=9∨m.k=10∨m.k=11∨m.k=12∨m.k=13∨m.k=14:=by
  unfold kindM at hk
  rw[decide_eq_true_eq]at hk
  omega
 obtain⟨T,hT⟩:∃T,T=bs++encMg m:=⟨_,rfl⟩
 have X:=WM.start hc hp hb i rfl hlen hT
 have HT:=Lib.hid hT
 replace pl:=Lib.hid pl
 have hk3:=Lib.hid hk2
 clear hc hp hb i hlen hk hk2 hT
 go_enter Tryz.func42,Tryz.ntmps42
 go_upto_region 1 with fail
 generalize (w.alloc (.cells #[.pointer (some ⟨gc,0,none⟩)] 84))=w0 at*
 generalize w.heap.size=bx at*
 have y:=X.y
 have z:=X.z
 unfold encMg at X
 go_still_tail 4,(by kernel_rfl)
 replace X:=X.drew
 go_wp2_with fail
 refine(have Y:=X;Y.int 0 ok.k).mono ?_
 clear X y z
 rintro e w1 ⟨rfl,v1,b1,X,y,z⟩
 go_wp2_with fail
 go_still_tail 4,(by kernel_rfl)
 replace X:=X.drew
 go_wp2_with fail
 refine(have Y:=X;Y.int 1 ok.fr).mono ?_
 clear X y z
 rintro e w1 ⟨rfl,v1,b1,X,y,z⟩
 go_wp2_with fail
 go_still_tail 4,(by kernel_rfl)
 replace X:=X.drew
 go_wp2_with fail
 refine(have Y:=X;Y.int 2 ok.ton).mono ?_
 clear X y z
 rintro e w1 ⟨rfl,v1,b1,X,y,z⟩
 have hk4:=hk3.out
 clear z hk3
 rcases hk4 with hr|e|e|e|e|e|e|e
 · rw[show encMb m=encTx m.t++(encI m.rg++(encDeal m++([]))) from by unfold encMb;simp[hr]]at X
   replace hr:=Lib.hid hr
   rcases bit_k hr.out with e|e|e|e|e|e|e
   all_goals
    replace X:WM _ _ _ _ _ _ _ _ _ _ _ _ _ _ _ _:=⟨X.s,X.f,X.q,e,X.e,X.n⟩
    clear e
    have z:=X.z
    go_wp2_with fail
    go_still_tail 4,(by kernel_rfl)
    replace X:=X.drew
    go_wp2_with fail
    refine(have Y:=X;Y.go fun hl=>wcTxn m.t _ B g _ _ gc ⟨gr,3,none⟩ _ Y.s.c Y.s.am rfl (Y.s.km.at_ 3 [.int .i64 m.t.c,.int .i64 m.t.l,.int .i64 m.t.s]) ⟨rfl,ok.t⟩ hl).mono ?_
    clear X y z
    rintro e w1 ⟨rfl,v1,b1,X,y,z⟩
    go_wp2_with fail
    go_still_tail 4,(by kernel_rfl)
    replace X:=X.drew
    go_wp2_with fail
    refine(have Y:=X;Y.int 6 ok.rg).mono ?_
    clear X y z
    rintro e w1 ⟨rfl,v1,b1,X,y,z⟩
    go_wp2_with fail
    refine(have Y:=X;Y.go fun hl=>mdealW m h _ B g _ _ gc gr hr.out Y.s.c Y.s.am Y.s.km ok Y.s.lo cp hl).mono ?_
    clear X y z
    rintro e w1 ⟨rfl,v1,b1,X,y,z⟩
    go_wp2
    go_end0
    exact X.fin HT.out
 · rw[show encMb m=encI m.rg++(encI m.n++(encI m.mx++(encSp m.s++([])))) from by unfold encMb;simp[e]]at X
   replace X:WM _ _ _ 8 _ _ _ _ _ _ _ _ _ _ _ _:=⟨X.s,X.f,X.q,e,X.e,X.n⟩
   clear e
   have z:=X.z
   go_wp2_with fail
   go_still_tail 4,(by kernel_rfl)
   replace X:=X.drew
   go_wp2_with fail
   refine(have Y:=X;Y.int 6 ok.rg).mono ?_
   clear X y z
   rintro e w1 ⟨rfl,v1,b1,X,y,z⟩
   go_wp2_with fail
   go_still_tail 4,(by kernel_rfl)
   replace X:=X.drew
   go_wp2_with fail
   refine(have Y:=X;Y.int 16 ok.n).mono ?_
   clear X y z
   rintro e w1 ⟨rfl,v1,b1,X,y,z⟩
   go_wp2_with fail
   go_still_tail 4,(by kernel_rfl)
   replace X:=X.drew
   go_wp2_with fail
   refine(have Y:=X;Y.int 17 ok.mx).mono ?_
   clear X y z
   rintro e w1 ⟨rfl,v1,b1,X,y,z⟩
   go_wp2_with fail
   go_still_tail 4,(by kernel_rfl)
   replace X:=X.drew
   go_wp2_with fail
   refine(have Y:=X;Y.sp 9 ok.s).mono ?_
   clear X y z
   rintro e w1 ⟨rfl,v1,b1,X,y,z⟩
   go_wp2
   go_end0
   exact X.fin HT.out
 · rw[show encMb m=encI m.rg++(encI m.n++(encLs encRm m.rc++([]))) from by unfold encMb;simp[e]]at X
   replace X:WM _ _ _ 9 _ _ _ _ _ _ _ _ _ _ _ _:=⟨X.s,X.f,X.q,e,X.e,X.n⟩
   clear e
   have z:=X.z
   go_wp2_with fail
   go_still_tail 4,(by kernel_rfl)
   replace X:=X.drew
   go_wp2_with fail
   refine(have Y:=X;Y.int 6 ok.rg).mono ?_
   clear X y z
   rintro e w1 ⟨rfl,v1,b1,X,y,z⟩
   go_wp2_with fail
   go_still_tail 4,(by kernel_rfl)
   replace X:=X.drew
   go_wp2_with fail
   refine(have Y:=X;Y.int 16 ok.n).mono ?_
   clear X y z
   rintro e w1 ⟨rfl,v1,b1,X,y,z⟩
   go_wp2_with fail
   go_still_tail 5,(by kernel_rfl)
   replace X:=X.drew
   go_wp2_with fail
   refine(have Y:=X;Y.go fun hl=>wlRec m.rc h.f.A h.f.n h.f.c _ B g _ _ gc bx ⟨gr,23,none⟩ pl.out Y.s.kx Y.s.ax Y.s.c Y.s.am (Y.s.km.cell 23) (Nat.le_trans cp.f.1 cp.f.2) Y.s.lo.rc hl).mono ?_
   clear X y z
   rintro e w1 ⟨rfl,v1,b1,X,y,z⟩
   go_wp2
   go_end0
   exact X.fin HT.out
 · rw[show encMb m=encI m.rg++(encSt m.st++([])) from by unfold encMb;simp[e]]at X
   replace X:WM _ _ _ 10 _ _ _ _ _ _ _ _ _ _ _ _:=⟨X.s,X.f,X.q,e,X.e,X.n⟩
   clear e
   have z:=X.z
   go_wp2_with fail
   go_still_tail 4,(by kernel_rfl)
   replace X:=X.drew
   go_wp2_with fail
   refine(have Y:=X;Y.int 6 ok.rg).mono ?_
   clear X y z
   rintro e w1 ⟨rfl,v1,b1,X,y,z⟩
   go_wp2_with fail
   go_still_tail 4,(by kernel_rfl)
   replace X:=X.drew
   go_wp2_with fail
   refine(have Y:=X;Y.go fun hl=>wcState m.st _ B g _ _ gc ⟨gr,24,none⟩ _ Y.s.c Y.s.am rfl (Y.s.km.at_ 24 (m.st.arr (.slice h.g.A h.g.n h.g.c) (.slice h.i.A h.i.n h.i.c)).toList) ⟨_,_,rfl,ok.sr,ok.sf,ok.sc,⟨h.g.A,h.g.n,h.g.c,rfl,cp.g.1,cp.g.2,Y.s.lo.hs⟩,h.i.A,h.i.n,h.i.c,rfl,cp.i.1,cp.i.2,Y.s.lo.pn⟩ hl).mono ?_
   clear X y z
   rintro e w1 ⟨rfl,v1,b1,X,y,z⟩
   go_wp2
   go_end0
   exact X.fin HT.out
 · rw[show encMb m=encI m.rg++([]) from by unfold encMb;simp[e]]at X
   replace X:WM _ _ _ 11 _ _ _ _ _ _ _ _ _ _ _ _:=⟨X.s,X.f,X.q,e,X.e,X.n⟩
   clear e
   have z:=X.z
   go_wp2_with fail
   go_still_tail 4,(by kernel_rfl)
   replace X:=X.drew
   go_wp2_with fail
   refine(have Y:=X;Y.int 6 ok.rg).mono ?_
   clear X y z
   rintro e w1 ⟨rfl,v1,b1,X,y,z⟩
   go_wp2
   go_end0
   exact X.fin HT.out
 · rw[show encMb m=encSp m.pv++(encSp m.s++(encTx m.t++(encLs encWt m.ws++([])))) from by unfold encMb;simp[e]]at X
   replace X:WM _ _ _ 12 _ _ _ _ _ _ _ _ _ _ _ _:=⟨X.s,X.f,X.q,e,X.e,X.n⟩
   clear e
   have z:=X.z
   go_wp2_with fail
   go_still_tail 4,(by kernel_rfl)
   replace X:=X.drew
   go_wp2_with fail
   refine(have Y:=X;Y.sp 12 ok.pv).mono ?_
   clear X y z
   rintro e w1 ⟨rfl,v1,b1,X,y,z⟩
   go_wp2_with fail
   go_still_tail 4,(by kernel_rfl)
   replace X:=X.drew
   go_wp2_with fail
   refine(have Y:=X;Y.sp 9 ok.s).mono ?_
   clear X y z
   rintro e w1 ⟨rfl,v1,b1,X,y,z⟩
   go_wp2_with fail
   go_still_tail 4,(by kernel_rfl)
   replace X:=X.drew
   go_wp2_with fail
   refine(have Y:=X;Y.go fun hl=>wcTxn m.t _ B g _ _ gc ⟨gr,3,none⟩ _ Y.s.c Y.s.am rfl (Y.s.km.at_ 3 [.int .i64 m.t.c,.int .i64 m.t.l,.int .i64 m.t.s]) ⟨rfl,ok.t⟩ hl).mono ?_
   clear X y z
   rintro e w1 ⟨rfl,v1,b1,X,y,z⟩
   go_wp2_with fail
   go_still_tail 6,(by kernel_rfl)
   replace X:=X.drew
   go_wp2_with fail
   refine(have Y:=X;Y.go fun hl=>wlWrite m.ws h.c.A h.c.n h.c.c _ B g _ _ gc ⟨gr,20,none⟩ Y.s.c Y.s.am (Y.s.km.cell 20) (Nat.le_trans cp.c.1 cp.c.2) Y.s.lo.ws hl).mono ?_
   clear X y z
   rintro e w1 ⟨rfl,v1,b1,X,y,z⟩
   go_wp2
   go_end0
   exact X.fin HT.out
 · rw[show encMb m=[] from by unfold encMb;simp[e]]at X
   replace X:WM _ _ _ 13 _ _ _ _ _ _ _ _ _ _ _ _:=⟨X.s,X.f,X.q,e,X.e,X.n⟩
   clear e
   have z:=X.z
   go_wp2
   go_end0
   exact X.fin HT.out
 · rw[show encMb m=encSp m.s++([]) from by unfold encMb;simp[e]]at X
   replace X:WM _ _ _ 14 _ _ _ _ _ _ _ _ _ _ _ _:=⟨X.s,X.f,X.q,e,X.e,X.n⟩
   clear e
   have z:=X.z
   go_wp2_with fail
   go_still_tail 4,(by kernel_rfl)
   replace X:=X.drew
   go_wp2_with fail
   refine(have Y:=X;Y.sp 9 ok.s).mono ?_
   clear X y z
   rintro e w1 ⟨rfl,v1,b1,X,y,z⟩
   go_wp2
   go_end0
   exact X.fin HT.out
theorem mencode_any (m:Mg) (h:Hm) (w:World) (ok:m.ok) (i:MgLo w w.heap.size m h) (cp:h.caps) (sm:MgSm m h) (pl:∀r∈m.rc,RcPl r) (hlen:(encMg m).length+10≤1000000000000):
 Calls Tryz.prog 16 #[.agg (m.vals h)] w (RowE w (mencOut m (encMg m)) (mencE m (encMg m))):=
 mencode_of m h w (encMg m) ok i sm pl (fun hm w' B g v gc gr hc hp hb lo=>mwalkW m h w' B g v [] gc gr (by
  cases hq:kindM m.k
  · unfold mayM at hm;rw[hq]at hm;cases hm
  · rfl) hc hp hb ok lo cp pl (by simpa using hlen)) hlen
end Go.Proofs.YtcalkfgibflbnaaGreat
