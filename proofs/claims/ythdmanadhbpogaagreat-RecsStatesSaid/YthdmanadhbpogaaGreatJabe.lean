/- The walk of a coder that reads a record. -/
import Derived.Test.YthdmanadhbpogaaGreatJaab
import Derived.Test.YthdmanadhbpogaaGreatJaac
import Derived.Test.YthdmanadhbpogaaGreatJaba
import Derived.Test.YthdmanadhbpogaaGreatJabd
namespace Go.Proofs.YthdmanadhbpogaaGreat
set_option maxHeartbeats 4000000
set_option maxRecDepth 100000
set_option linter.unusedVariables false
open Go.RowKit Fl
attribute [local go_sem] run_store_float
abbrev zSp:Sp:=⟨0,0,0⟩
abbrev zTx:Tx:=⟨0,0,0⟩
abbrev zSt:Stt:=⟨⟨0,0,0,0⟩,⟨0,0,0⟩,⟨0,0,0⟩,[],[]⟩
abbrev zRec:Array Value:=#[.int .i64 0,.int .i64 0,.int .i64 0,.int .i64 0,.int .i64 0,.int .i64 0,.int .i64 0,.int .i64 0,.int .i64 0,.int .i64 0,.bool false,.int .i64 0,.float .f64 0,.slice none 0 0,.slice none 0 0,.slice none 0 0,.slice none 0 0,.int .i64 0,.int .i64 0,.float .f64 0,.float .f64 0,.int .i64 0,.int .i64 0,.int .i64 0,.int .i64 0,.int .i64 0,.int .i64 0,.slice none 0 0,.slice none 0 0]
theorem i64z:i64ok 0:=by unfold i64ok;omega
theorem zSp_ok:zSp.ok:=⟨i64z,i64z,i64z⟩
theorem zTx_ok:zTx.ok:=⟨i64z,i64z,i64z⟩
theorem zRg_ok:zSt.r.ok:=⟨i64z,i64z,(by show 0<_;omega),(by show 0<_;omega)⟩
theorem capZ:(0:Nat)≤0∧0≤maxLen:=⟨Nat.le_refl _,Nat.zero_le _⟩
def RcRel:Rel Rc:=fun w B cs r=>∃h:Hds,cs=(r.vals h).toList∧r.ok∧h.caps∧RcLo w B r h
theorem has_of {cs:Array Value} {j:Nat} {y:List Value} (hy:(cs.toList.drop j).take y.length=y):∀q u,y[q]?=some u→cs[j+q]?=some u:=fun q u hq=>by
 rw[←hy,List.getElem?_take]at hq
 split at hq
 · rw[List.getElem?_drop,Array.getElem?_toList]at hq
   exact hq
 · cases hq
theorem Dst.at_ {w w1:World} {A:Option Addr} {n g gc b i:Nat} {t:TypeId} {cs cs1:Array Value} {z:List Value} (h:Dst w A n g gc b t cs i z) (hk:Blk w1 b t cs1) (j:Nat) (y:List Value) (hy:(cs1.toList.drop j).take y.length=y):Dst w1 A n g gc b t cs1 j y:=
 ⟨hk,fun q u hq=>has_of hy q u hq,h.ng,h.nc,h.ap⟩
theorem Inn.on1 {w w1:World} {vs:List Value} {a:Stt} (h:Inn SttRel (rng w.heap.size w1.heap.size) w1 vs a) {lo hi:Nat} (h1:lo≤w.heap.size) (h2:w1.heap.size≤hi):Inn SttRel (rng lo hi) w1 vs a:=by
 obtain⟨x,y,e,a1,a2,a3,h4,h5⟩:=h
 have hk:∀p u,p.block<w1.heap.size→(only (rng w.heap.size w1.heap.size) w1).cell? p=some u→(only (rng lo hi) w1).cell? p=some u:=fun p u _ hc=>by
  obtain⟨hk,hw⟩:=only_cell hc
  rw[rng_iff]at hk
  rw[only_cell_in (rng_iff.2 ⟨by omega,by omega⟩)];exact hw
 exact⟨x,y,e,a1,a2,a3,h4.mono HsRel.mono hk,h5.mono PnRel.mono hk⟩
theorem rBody_1 (l:List UInt8) (s0:RS):rBody 1 l s0=(⟨1,zTx,zSp,zSp,false,0,0,[],[],[],[],(rSt l s0).1⟩,(rSt l s0).2):=by
 unfold rBody
 rw[if_pos (by decide)]
theorem rBody_2 (l:List UInt8) (s0:RS):rBody 2 l s0=(⟨2,zTx,zSp,zSp,false,(rInt l s0).1,0,[],[],[],[],zSt⟩,(rInt l s0).2):=by
 unfold rBody
 rw[if_neg (by decide),if_pos (by decide)]
theorem rBody_4 (l:List UInt8) (s0:RS):rBody 4 l s0=(⟨4,(rTx l s0).1,(rSp l (rFlag l (rTx l s0).2).2).1,zSp,(rFlag l (rTx l s0).2).1,0,0,[],[],[],[],zSt⟩,(rSp l (rFlag l (rTx l s0).2).2).2):=by
 unfold rBody
 rw[if_neg (by decide),if_neg (by decide),if_neg (by decide),if_pos (by decide)]
 rfl
theorem rBody_5 (l:List UInt8) (s0:RS):rBody 5 l s0=(⟨5,zTx,(rSp l s0).1,zSp,false,0,0,[],[],[],[],zSt⟩,(rSp l s0).2):=by
 unfold rBody
 rw[if_neg (by decide),if_neg (by decide),if_neg (by decide),if_neg (by decide),if_pos (by decide)]
theorem rBody_6 (l:List UInt8) (s0:RS):rBody 6 l s0=(⟨6,zTx,(rSp l (rInt l (rFloat l s0).2).2).1,zSp,false,(rInt l (rFloat l s0).2).1,(rFloat l s0).1,[],[],[],[],zSt⟩,(rSp l (rInt l (rFloat l s0).2).2).2):=by
 unfold rBody
 rw[if_neg (by decide),if_neg (by decide),if_neg (by decide),if_neg (by decide),if_neg (by decide),if_pos (by decide)]
 rfl
theorem rBody_7 (l:List UInt8) (s0:RS):rBody 7 l s0=(⟨7,zTx,zSp,zSp,false,(rInt l s0).1,0,[],[],[],[],zSt⟩,(rInt l s0).2):=by
 unfold rBody
 rw[if_neg (by decide),if_pos (by decide)]
theorem rBody_8 (l:List UInt8) (s0:RS):rBody 8 l s0=(⟨8,zTx,zSp,zSp,false,(rInt l s0).1,0,[],[],[],[],zSt⟩,(rInt l s0).2):=by
 unfold rBody
 rw[if_neg (by decide),if_pos (by decide)]
theorem rBody_9 (l:List UInt8) (s0:RS):rBody 9 l s0=(⟨9,(rTx l s0).1,(rSp l (rTx l s0).2).1,zSp,false,0,0,[],[],(rLs rInt l (rSp l (rTx l s0).2).2).1,[],zSt⟩,(rLs rInt l (rSp l (rTx l s0).2).2).2):=by
 unfold rBody
 rw[if_neg (by decide),if_neg (by decide),if_neg (by decide),if_neg (by decide),if_neg (by decide),if_neg (by decide),if_pos (by decide)]
 rfl
theorem rBody_10 (l:List UInt8) (s0:RS):rBody 10 l s0=(⟨10,(rTx l s0).1,zSp,zSp,false,0,0,[],[],[],[],zSt⟩,(rTx l s0).2):=by
 unfold rBody
 rw[if_neg (by decide),if_neg (by decide),if_neg (by decide),if_neg (by decide),if_neg (by decide),if_neg (by decide),if_neg (by decide),if_pos (by decide)]
theorem rBody_11 (l:List UInt8) (s0:RS):rBody 11 l s0=(⟨11,(rTx l (rSp l (rSp l s0).2).2).1,(rSp l (rSp l s0).2).1,(rSp l s0).1,false,0,0,[],(rLs rWt l (rTx l (rSp l (rSp l s0).2).2).2).1,[],[],zSt⟩,(rLs rWt l (rTx l (rSp l (rSp l s0).2).2).2).2):=by
 unfold rBody
 rw[if_neg (by decide),if_neg (by decide),if_neg (by decide),if_neg (by decide),if_neg (by decide),if_neg (by decide),if_neg (by decide),if_neg (by decide),if_pos (by decide)]
 rfl
theorem rBody_12 (l:List UInt8) (s0:RS):rBody 12 l s0=(⟨12,zTx,(rSp l s0).1,zSp,false,0,0,[],[],[],(rLs rWt l (rSp l s0).2).1,zSt⟩,(rLs rWt l (rSp l s0).2).2):=by
 unfold rBody
 rw[if_neg (by decide),if_neg (by decide),if_neg (by decide),if_neg (by decide),if_neg (by decide),if_neg (by decide),if_neg (by decide),if_neg (by decide),if_neg (by decide),if_pos (by decide)]
 rfl
theorem rBody_3 (l:List UInt8) (s0:RS):rBody 3 l s0=(⟨3,(rPn l s0).1.t,(rPn l s0).1.s,zSp,false,0,0,(rPn l s0).1.r,(rPn l s0).1.w,(rLs rInt l (rPn l s0).2).1,[],zSt⟩,(rLs rInt l (rPn l s0).2).2):=by
 unfold rBody
 rw[if_neg (by decide),if_neg (by decide),if_pos (by decide)]
 rfl
theorem Two2.beside {w w5 w6:World} {g b gp:Nat} (h:Two2 w w5 g b) (k:Two2 w5 w6 g gp) (hg:w.heap.size≤gp):Two2 w w6 g b:=
 ⟨k.os.trans h.os,k.tape.trans h.tape,k.output.trans h.output,Nat.le_trans h.size k.size,fun i hi h1 h2=>(k.block i (Nat.lt_of_lt_of_le hi h.size) h1 (by omega)).trans (h.block i hi h1 h2)⟩
theorem walkR_1K (w:World) (g:Nat) (A:Option Addr) (n c:Nat) (l:List UInt8) (s s0:RS) (gc b:Nat) (hc:CR w g A n c l s gc) (hs:s.e=0) (D:Dst w A n g gc b 38 zRec 0 []) (hx:rInt l s=(1,s0)):
 Calls Tryz.prog 61 #[.pointer (some ⟨gc,0,none⟩),.pointer (some ⟨b,0,none⟩)] w (RPost RcRel 29 w g A n c l gc b 38 zRec 0 (rRc l s)):=by
 have gl:=hc.rd.blk.lt
 have bl:=D.blk.lt
 have HR:=Lib.hid (show rRc l s=rBody 1 l s0 by unfold rRc;rw[hx])
 have hI:=rcInt w g A n c l s gc b 38 zRec 0 hc hs (D.at_ D.blk 0 [.int .i64 0] rfl)
 rw[hx]at hI
 rw[HR.out,rBody_1]
 clear hx
 go_enter Tryz.func61,Tryz.ntmps61
 go_wp2_with fail
 refine hI.mono ?_
 rintro e w0 ⟨h0,t0,⟨e0,rfl,v0,l0,k0,⟨rfl,-⟩⟩|⟨e0,rfl,cs0,l0,k0⟩⟩
 rotate_left
 · go_wp2
   exact⟨rfl,RPost.bad (s':=s0) (rSt_stk l _ e0) e0 h0 t0 l0 k0⟩
 clear l0 hI
 replace k0:Blk w0 b 38 #[.int .i64 1,.int .i64 0,.int .i64 0,.int .i64 0,.int .i64 0,.int .i64 0,.int .i64 0,.int .i64 0,.int .i64 0,.int .i64 0,.bool false,.int .i64 0,.float .f64 0,.slice none 0 0,.slice none 0 0,.slice none 0 0,.slice none 0 0,.int .i64 0,.int .i64 0,.float .f64 0,.float .f64 0,.int .i64 0,.int .i64 0,.int .i64 0,.int .i64 0,.int .i64 0,.int .i64 0,.slice none 0 0,.slice none 0 0]:=k0
 have c0:=cl (k0.cell 0)
 go_wp2_with fail
 refine(rcState w0 g A n c l s0 gc b 38 _ 17 h0 e0 (D.at_ k0 17 [.int .i64 0,.int .i64 0,.float .f64 0,.float .f64 0,.int .i64 0,.int .i64 0,.int .i64 0,.int .i64 0,.int .i64 0,.int .i64 0,.slice none 0 0,.slice none 0 0] rfl)).mono ?_
 rintro e w1 ⟨h1,t1,⟨e1,rfl,v1,l1,k1,n1⟩|⟨e1,rfl,cs1,l1,k1⟩⟩
 rotate_left
 · go_wp2
   exact⟨rfl,RPost.bad (s':=(rSt l s0).2) rfl e1 h1 (t0.trans t1) (l1.trans rfl) k1⟩
 have q1:=n1
 obtain⟨u1,u2,rfl,-⟩:=q1
 replace k1:Blk w1 b 38 #[.int .i64 1,.int .i64 0,.int .i64 0,.int .i64 0,.int .i64 0,.int .i64 0,.int .i64 0,.int .i64 0,.int .i64 0,.int .i64 0,.bool false,.int .i64 0,.float .f64 0,.slice none 0 0,.slice none 0 0,.slice none 0 0,.slice none 0 0,.int .i64 (rSt l s0).1.r.id,.int .i64 (rSt l s0).1.r.ep,.float .f64 (rSt l s0).1.r.lo,.float .f64 (rSt l s0).1.r.hi,.int .i64 (rSt l s0).1.f.w,.int .i64 (rSt l s0).1.f.l,.int .i64 (rSt l s0).1.f.n,.int .i64 (rSt l s0).1.c.w,.int .i64 (rSt l s0).1.c.l,.int .i64 (rSt l s0).1.c.n,u1,u2]:=by simpa only[put,List.setIfInBounds_toArray,List.set_cons_succ,List.set_cons_zero,Nat.reduceAdd] using k1
 clear l1
 go_wp2
 go_end0
 have hgl:g<w1.heap.size:=h1.rd.blk.lt
 obtain⟨x1,x2,hx,ok1,ok2,ok3,⟨P1,m1,d1,rfl,y1,z1,o1⟩,P2,m2,d2,rfl,y2,z2,o2⟩:=n1.on1 (lo:=w.heap.size) (hi:=w1.heap.size) (by have:=t0.size;have:=t1.size;omega) (by have:=t0.size;have:=t1.size;omega)
 simp only[List.cons.injEq,and_true,true_and]at hx
 obtain⟨rfl,rfl⟩:=hx
 have kF:Blk w1 b 38 (put zRec 0 [.int .i64 1,.int .i64 0,.int .i64 0,.int .i64 0,.int .i64 0,.int .i64 0,.int .i64 0,.int .i64 0,.int .i64 0,.int .i64 0,.bool false,.int .i64 0,.float .f64 0,.slice none 0 0,.slice none 0 0,.slice none 0 0,.slice none 0 0,.int .i64 (rSt l s0).1.r.id,.int .i64 (rSt l s0).1.r.ep,.float .f64 (rSt l s0).1.r.lo,.float .f64 (rSt l s0).1.r.hi,.int .i64 (rSt l s0).1.f.w,.int .i64 (rSt l s0).1.f.l,.int .i64 (rSt l s0).1.f.n,.int .i64 (rSt l s0).1.c.w,.int .i64 (rSt l s0).1.c.l,.int .i64 (rSt l s0).1.c.n,.slice P1 m1 d1,.slice P2 m2 d2]):=by rw[put_all _ zRec (by rfl)];exact k1
 have okF:Rc.ok ⟨1,zTx,zSp,zSp,false,0,0,[],[],[],[],(rSt l s0).1⟩:=⟨(by unfold i64ok;omega:i64ok 1),zTx_ok,zSp_ok,zSp_ok,i64z,(by show 0<_;omega),ok1,ok2,ok3⟩
 have loF:RcLo (only (rng w.heap.size w1.heap.size) w1) w1.heap.size ⟨1,zTx,zSp,zSp,false,0,0,[],[],[],[],(rSt l s0).1⟩ ⟨Hd.nil,Hd.nil,Hd.nil,Hd.nil,⟨P1,m1,d1⟩,⟨P2,m2,d2⟩⟩:=⟨Sl.nil,Sl.nil,Sl.nil,Sl.nil,o1,o2,(Nat.zero_le _),(Nat.zero_le _),(Nat.zero_le _),(Nat.zero_le _),(Nat.le_trans y1 z1),(Nat.le_trans y2 z2)⟩
 exact⟨h1,(t0.trans t1),.inl ⟨e1,rfl,_,rfl,kF,⟨⟨Hd.nil,Hd.nil,Hd.nil,Hd.nil,⟨P1,m1,d1⟩,⟨P2,m2,d2⟩⟩,rfl,okF,⟨capZ,capZ,capZ,capZ,⟨y1,z1⟩,⟨y2,z2⟩⟩,loF⟩⟩⟩
theorem walkR_2K (w:World) (g:Nat) (A:Option Addr) (n c:Nat) (l:List UInt8) (s s0:RS) (gc b:Nat) (hc:CR w g A n c l s gc) (hs:s.e=0) (D:Dst w A n g gc b 38 zRec 0 []) (hx:rInt l s=(2,s0)):
 Calls Tryz.prog 61 #[.pointer (some ⟨gc,0,none⟩),.pointer (some ⟨b,0,none⟩)] w (RPost RcRel 29 w g A n c l gc b 38 zRec 0 (rRc l s)):=by
 have gl:=hc.rd.blk.lt
 have bl:=D.blk.lt
 have HR:=Lib.hid (show rRc l s=rBody 2 l s0 by unfold rRc;rw[hx])
 have hI:=rcInt w g A n c l s gc b 38 zRec 0 hc hs (D.at_ D.blk 0 [.int .i64 0] rfl)
 rw[hx]at hI
 rw[HR.out,rBody_2]
 clear hx
 go_enter Tryz.func61,Tryz.ntmps61
 go_wp2_with fail
 refine hI.mono ?_
 rintro e w0 ⟨h0,t0,⟨e0,rfl,v0,l0,k0,⟨rfl,-⟩⟩|⟨e0,rfl,cs0,l0,k0⟩⟩
 rotate_left
 · go_wp2
   exact⟨rfl,RPost.bad (s':=s0) (rInt_stk l _ e0) e0 h0 t0 l0 k0⟩
 clear l0 hI
 replace k0:Blk w0 b 38 #[.int .i64 2,.int .i64 0,.int .i64 0,.int .i64 0,.int .i64 0,.int .i64 0,.int .i64 0,.int .i64 0,.int .i64 0,.int .i64 0,.bool false,.int .i64 0,.float .f64 0,.slice none 0 0,.slice none 0 0,.slice none 0 0,.slice none 0 0,.int .i64 0,.int .i64 0,.float .f64 0,.float .f64 0,.int .i64 0,.int .i64 0,.int .i64 0,.int .i64 0,.int .i64 0,.int .i64 0,.slice none 0 0,.slice none 0 0]:=k0
 have c0:=cl (k0.cell 0)
 go_wp2_with fail
 refine(rcInt w0 g A n c l s0 gc b 38 _ 11 h0 e0 (D.at_ k0 11 [.int .i64 0] rfl)).mono ?_
 rintro e w1 ⟨h1,t1,⟨e1,rfl,v1,l1,k1,n1⟩|⟨e1,rfl,cs1,l1,k1⟩⟩
 rotate_left
 · go_wp2
   exact⟨rfl,RPost.bad (s':=(rInt l s0).2) rfl e1 h1 (t0.trans t1) (l1.trans rfl) k1⟩
 obtain⟨rfl,o1⟩:=n1
 replace k1:Blk w1 b 38 #[.int .i64 2,.int .i64 0,.int .i64 0,.int .i64 0,.int .i64 0,.int .i64 0,.int .i64 0,.int .i64 0,.int .i64 0,.int .i64 0,.bool false,.int .i64 (rInt l s0).1,.float .f64 0,.slice none 0 0,.slice none 0 0,.slice none 0 0,.slice none 0 0,.int .i64 0,.int .i64 0,.float .f64 0,.float .f64 0,.int .i64 0,.int .i64 0,.int .i64 0,.int .i64 0,.int .i64 0,.int .i64 0,.slice none 0 0,.slice none 0 0]:=k1
 clear l1
 go_wp2
 go_end0
 have hgl:g<w1.heap.size:=h1.rd.blk.lt
 have kF:Blk w1 b 38 (put zRec 0 [.int .i64 2,.int .i64 0,.int .i64 0,.int .i64 0,.int .i64 0,.int .i64 0,.int .i64 0,.int .i64 0,.int .i64 0,.int .i64 0,.bool false,.int .i64 (rInt l s0).1,.float .f64 0,.slice none 0 0,.slice none 0 0,.slice none 0 0,.slice none 0 0,.int .i64 0,.int .i64 0,.float .f64 0,.float .f64 0,.int .i64 0,.int .i64 0,.int .i64 0,.int .i64 0,.int .i64 0,.int .i64 0,.slice none 0 0,.slice none 0 0]):=by rw[put_all _ zRec (by rfl)];exact k1
 have okF:Rc.ok ⟨2,zTx,zSp,zSp,false,(rInt l s0).1,0,[],[],[],[],zSt⟩:=⟨(by unfold i64ok;omega:i64ok 2),zTx_ok,zSp_ok,zSp_ok,o1,(by show 0<_;omega),zRg_ok,zSp_ok,zSp_ok⟩
 have loF:RcLo (only (rng w.heap.size w1.heap.size) w1) w1.heap.size ⟨2,zTx,zSp,zSp,false,(rInt l s0).1,0,[],[],[],[],zSt⟩ ⟨Hd.nil,Hd.nil,Hd.nil,Hd.nil,Hd.nil,Hd.nil⟩:=⟨Sl.nil,Sl.nil,Sl.nil,Sl.nil,Sl.nil,Sl.nil,(Nat.zero_le _),(Nat.zero_le _),(Nat.zero_le _),(Nat.zero_le _),(Nat.zero_le _),(Nat.zero_le _)⟩
 exact⟨h1,(t0.trans t1),.inl ⟨e1,rfl,_,rfl,kF,⟨⟨Hd.nil,Hd.nil,Hd.nil,Hd.nil,Hd.nil,Hd.nil⟩,rfl,okF,⟨capZ,capZ,capZ,capZ,capZ,capZ⟩,loF⟩⟩⟩
theorem walkR_4K (w:World) (g:Nat) (A:Option Addr) (n c:Nat) (l:List UInt8) (s s0:RS) (gc b:Nat) (hc:CR w g A n c l s gc) (hs:s.e=0) (D:Dst w A n g gc b 38 zRec 0 []) (hx:rInt l s=(4,s0)):
 Calls Tryz.prog 61 #[.pointer (some ⟨gc,0,none⟩),.pointer (some ⟨b,0,none⟩)] w (RPost RcRel 29 w g A n c l gc b 38 zRec 0 (rRc l s)):=by
 have gl:=hc.rd.blk.lt
 have bl:=D.blk.lt
 have HR:=Lib.hid (show rRc l s=rBody 4 l s0 by unfold rRc;rw[hx])
 have hI:=rcInt w g A n c l s gc b 38 zRec 0 hc hs (D.at_ D.blk 0 [.int .i64 0] rfl)
 rw[hx]at hI
 rw[HR.out,rBody_4]
 clear hx
 go_enter Tryz.func61,Tryz.ntmps61
 go_wp2_with fail
 refine hI.mono ?_
 rintro e w0 ⟨h0,t0,⟨e0,rfl,v0,l0,k0,⟨rfl,-⟩⟩|⟨e0,rfl,cs0,l0,k0⟩⟩
 rotate_left
 · go_wp2
   exact⟨rfl,RPost.bad (s':=s0) ((rTwo_stk (mk:=fun _ _=>()) (rTwo_stk (mk:=fun _ _=>()) rTx_stk rFlag_stk) rSp_stk) l _ e0) e0 h0 t0 l0 k0⟩
 clear l0 hI
 replace k0:Blk w0 b 38 #[.int .i64 4,.int .i64 0,.int .i64 0,.int .i64 0,.int .i64 0,.int .i64 0,.int .i64 0,.int .i64 0,.int .i64 0,.int .i64 0,.bool false,.int .i64 0,.float .f64 0,.slice none 0 0,.slice none 0 0,.slice none 0 0,.slice none 0 0,.int .i64 0,.int .i64 0,.float .f64 0,.float .f64 0,.int .i64 0,.int .i64 0,.int .i64 0,.int .i64 0,.int .i64 0,.int .i64 0,.slice none 0 0,.slice none 0 0]:=k0
 have c0:=cl (k0.cell 0)
 go_wp2_with fail
 refine(rcTxn w0 g A n c l s0 gc b 38 _ 1 h0 e0 (D.at_ k0 1 [.int .i64 0,.int .i64 0,.int .i64 0] rfl)).mono ?_
 rintro e w1 ⟨h1,t1,⟨e1,rfl,v1,l1,k1,n1⟩|⟨e1,rfl,cs1,l1,k1⟩⟩
 rotate_left
 · go_wp2
   exact⟨rfl,RPost.bad (s':=(rTx l s0).2) ((rTwo_stk (mk:=fun _ _=>()) rFlag_stk rSp_stk) l _ e1) e1 h1 (t0.trans t1) (l1.trans rfl) k1⟩
 obtain⟨rfl,o1⟩:=n1
 replace k1:Blk w1 b 38 #[.int .i64 4,.int .i64 (rTx l s0).1.c,.int .i64 (rTx l s0).1.l,.int .i64 (rTx l s0).1.s,.int .i64 0,.int .i64 0,.int .i64 0,.int .i64 0,.int .i64 0,.int .i64 0,.bool false,.int .i64 0,.float .f64 0,.slice none 0 0,.slice none 0 0,.slice none 0 0,.slice none 0 0,.int .i64 0,.int .i64 0,.float .f64 0,.float .f64 0,.int .i64 0,.int .i64 0,.int .i64 0,.int .i64 0,.int .i64 0,.int .i64 0,.slice none 0 0,.slice none 0 0]:=k1
 clear l1
 go_wp2_with fail
 refine(rcFlag w1 g A n c l (rTx l s0).2 gc b 38 _ 10 h1 e1 (D.at_ k1 10 [.bool false] rfl)).mono ?_
 rintro e w2 ⟨h2,t2,⟨e2,rfl,v2,l2,k2,n2⟩|⟨e2,rfl,cs2,l2,k2⟩⟩
 rotate_left
 · go_wp2
   exact⟨rfl,RPost.bad (s':=(rFlag l (rTx l s0).2).2) (rSp_stk l _ e2) e2 h2 ((t0.trans t1).trans t2) (l2.trans rfl) k2⟩
 obtain⟨rfl,o2⟩:=n2
 replace k2:Blk w2 b 38 #[.int .i64 4,.int .i64 (rTx l s0).1.c,.int .i64 (rTx l s0).1.l,.int .i64 (rTx l s0).1.s,.int .i64 0,.int .i64 0,.int .i64 0,.int .i64 0,.int .i64 0,.int .i64 0,.bool (rFlag l (rTx l s0).2).1,.int .i64 0,.float .f64 0,.slice none 0 0,.slice none 0 0,.slice none 0 0,.slice none 0 0,.int .i64 0,.int .i64 0,.float .f64 0,.float .f64 0,.int .i64 0,.int .i64 0,.int .i64 0,.int .i64 0,.int .i64 0,.int .i64 0,.slice none 0 0,.slice none 0 0]:=k2
 clear l2
 go_wp2_with fail
 refine(rcStamp w2 g A n c l (rFlag l (rTx l s0).2).2 gc b 38 _ 4 h2 e2 (D.at_ k2 4 [.int .i64 0,.int .i64 0,.int .i64 0] rfl)).mono ?_
 rintro e w3 ⟨h3,t3,⟨e3,rfl,v3,l3,k3,n3⟩|⟨e3,rfl,cs3,l3,k3⟩⟩
 rotate_left
 · go_wp2
   exact⟨rfl,RPost.bad (s':=(rSp l (rFlag l (rTx l s0).2).2).2) rfl e3 h3 (((t0.trans t1).trans t2).trans t3) (l3.trans rfl) k3⟩
 obtain⟨rfl,o3⟩:=n3
 replace k3:Blk w3 b 38 #[.int .i64 4,.int .i64 (rTx l s0).1.c,.int .i64 (rTx l s0).1.l,.int .i64 (rTx l s0).1.s,.int .i64 (rSp l (rFlag l (rTx l s0).2).2).1.w,.int .i64 (rSp l (rFlag l (rTx l s0).2).2).1.l,.int .i64 (rSp l (rFlag l (rTx l s0).2).2).1.n,.int .i64 0,.int .i64 0,.int .i64 0,.bool (rFlag l (rTx l s0).2).1,.int .i64 0,.float .f64 0,.slice none 0 0,.slice none 0 0,.slice none 0 0,.slice none 0 0,.int .i64 0,.int .i64 0,.float .f64 0,.float .f64 0,.int .i64 0,.int .i64 0,.int .i64 0,.int .i64 0,.int .i64 0,.int .i64 0,.slice none 0 0,.slice none 0 0]:=k3
 clear l3
 go_wp2
 go_end0
 have hgl:g<w3.heap.size:=h3.rd.blk.lt
 have kF:Blk w3 b 38 (put zRec 0 [.int .i64 4,.int .i64 (rTx l s0).1.c,.int .i64 (rTx l s0).1.l,.int .i64 (rTx l s0).1.s,.int .i64 (rSp l (rFlag l (rTx l s0).2).2).1.w,.int .i64 (rSp l (rFlag l (rTx l s0).2).2).1.l,.int .i64 (rSp l (rFlag l (rTx l s0).2).2).1.n,.int .i64 0,.int .i64 0,.int .i64 0,.bool (rFlag l (rTx l s0).2).1,.int .i64 0,.float .f64 0,.slice none 0 0,.slice none 0 0,.slice none 0 0,.slice none 0 0,.int .i64 0,.int .i64 0,.float .f64 0,.float .f64 0,.int .i64 0,.int .i64 0,.int .i64 0,.int .i64 0,.int .i64 0,.int .i64 0,.slice none 0 0,.slice none 0 0]):=by rw[put_all _ zRec (by rfl)];exact k3
 have okF:Rc.ok ⟨4,(rTx l s0).1,(rSp l (rFlag l (rTx l s0).2).2).1,zSp,(rFlag l (rTx l s0).2).1,0,0,[],[],[],[],zSt⟩:=⟨(by unfold i64ok;omega:i64ok 4),o1,o3,zSp_ok,i64z,(by show 0<_;omega),zRg_ok,zSp_ok,zSp_ok⟩
 have loF:RcLo (only (rng w.heap.size w3.heap.size) w3) w3.heap.size ⟨4,(rTx l s0).1,(rSp l (rFlag l (rTx l s0).2).2).1,zSp,(rFlag l (rTx l s0).2).1,0,0,[],[],[],[],zSt⟩ ⟨Hd.nil,Hd.nil,Hd.nil,Hd.nil,Hd.nil,Hd.nil⟩:=⟨Sl.nil,Sl.nil,Sl.nil,Sl.nil,Sl.nil,Sl.nil,(Nat.zero_le _),(Nat.zero_le _),(Nat.zero_le _),(Nat.zero_le _),(Nat.zero_le _),(Nat.zero_le _)⟩
 exact⟨h3,(((t0.trans t1).trans t2).trans t3),.inl ⟨e3,rfl,_,rfl,kF,⟨⟨Hd.nil,Hd.nil,Hd.nil,Hd.nil,Hd.nil,Hd.nil⟩,rfl,okF,⟨capZ,capZ,capZ,capZ,capZ,capZ⟩,loF⟩⟩⟩
theorem walkR_5K (w:World) (g:Nat) (A:Option Addr) (n c:Nat) (l:List UInt8) (s s0:RS) (gc b:Nat) (hc:CR w g A n c l s gc) (hs:s.e=0) (D:Dst w A n g gc b 38 zRec 0 []) (hx:rInt l s=(5,s0)):
 Calls Tryz.prog 61 #[.pointer (some ⟨gc,0,none⟩),.pointer (some ⟨b,0,none⟩)] w (RPost RcRel 29 w g A n c l gc b 38 zRec 0 (rRc l s)):=by
 have gl:=hc.rd.blk.lt
 have bl:=D.blk.lt
 have HR:=Lib.hid (show rRc l s=rBody 5 l s0 by unfold rRc;rw[hx])
 have hI:=rcInt w g A n c l s gc b 38 zRec 0 hc hs (D.at_ D.blk 0 [.int .i64 0] rfl)
 rw[hx]at hI
 rw[HR.out,rBody_5]
 clear hx
 go_enter Tryz.func61,Tryz.ntmps61
 go_wp2_with fail
 refine hI.mono ?_
 rintro e w0 ⟨h0,t0,⟨e0,rfl,v0,l0,k0,⟨rfl,-⟩⟩|⟨e0,rfl,cs0,l0,k0⟩⟩
 rotate_left
 · go_wp2
   exact⟨rfl,RPost.bad (s':=s0) (rSp_stk l _ e0) e0 h0 t0 l0 k0⟩
 clear l0 hI
 replace k0:Blk w0 b 38 #[.int .i64 5,.int .i64 0,.int .i64 0,.int .i64 0,.int .i64 0,.int .i64 0,.int .i64 0,.int .i64 0,.int .i64 0,.int .i64 0,.bool false,.int .i64 0,.float .f64 0,.slice none 0 0,.slice none 0 0,.slice none 0 0,.slice none 0 0,.int .i64 0,.int .i64 0,.float .f64 0,.float .f64 0,.int .i64 0,.int .i64 0,.int .i64 0,.int .i64 0,.int .i64 0,.int .i64 0,.slice none 0 0,.slice none 0 0]:=k0
 have c0:=cl (k0.cell 0)
 go_wp2_with fail
 refine(rcStamp w0 g A n c l s0 gc b 38 _ 4 h0 e0 (D.at_ k0 4 [.int .i64 0,.int .i64 0,.int .i64 0] rfl)).mono ?_
 rintro e w1 ⟨h1,t1,⟨e1,rfl,v1,l1,k1,n1⟩|⟨e1,rfl,cs1,l1,k1⟩⟩
 rotate_left
 · go_wp2
   exact⟨rfl,RPost.bad (s':=(rSp l s0).2) rfl e1 h1 (t0.trans t1) (l1.trans rfl) k1⟩
 obtain⟨rfl,o1⟩:=n1
 replace k1:Blk w1 b 38 #[.int .i64 5,.int .i64 0,.int .i64 0,.int .i64 0,.int .i64 (rSp l s0).1.w,.int .i64 (rSp l s0).1.l,.int .i64 (rSp l s0).1.n,.int .i64 0,.int .i64 0,.int .i64 0,.bool false,.int .i64 0,.float .f64 0,.slice none 0 0,.slice none 0 0,.slice none 0 0,.slice none 0 0,.int .i64 0,.int .i64 0,.float .f64 0,.float .f64 0,.int .i64 0,.int .i64 0,.int .i64 0,.int .i64 0,.int .i64 0,.int .i64 0,.slice none 0 0,.slice none 0 0]:=k1
 clear l1
 go_wp2
 go_end0
 have hgl:g<w1.heap.size:=h1.rd.blk.lt
 have kF:Blk w1 b 38 (put zRec 0 [.int .i64 5,.int .i64 0,.int .i64 0,.int .i64 0,.int .i64 (rSp l s0).1.w,.int .i64 (rSp l s0).1.l,.int .i64 (rSp l s0).1.n,.int .i64 0,.int .i64 0,.int .i64 0,.bool false,.int .i64 0,.float .f64 0,.slice none 0 0,.slice none 0 0,.slice none 0 0,.slice none 0 0,.int .i64 0,.int .i64 0,.float .f64 0,.float .f64 0,.int .i64 0,.int .i64 0,.int .i64 0,.int .i64 0,.int .i64 0,.int .i64 0,.slice none 0 0,.slice none 0 0]):=by rw[put_all _ zRec (by rfl)];exact k1
 have okF:Rc.ok ⟨5,zTx,(rSp l s0).1,zSp,false,0,0,[],[],[],[],zSt⟩:=⟨(by unfold i64ok;omega:i64ok 5),zTx_ok,o1,zSp_ok,i64z,(by show 0<_;omega),zRg_ok,zSp_ok,zSp_ok⟩
 have loF:RcLo (only (rng w.heap.size w1.heap.size) w1) w1.heap.size ⟨5,zTx,(rSp l s0).1,zSp,false,0,0,[],[],[],[],zSt⟩ ⟨Hd.nil,Hd.nil,Hd.nil,Hd.nil,Hd.nil,Hd.nil⟩:=⟨Sl.nil,Sl.nil,Sl.nil,Sl.nil,Sl.nil,Sl.nil,(Nat.zero_le _),(Nat.zero_le _),(Nat.zero_le _),(Nat.zero_le _),(Nat.zero_le _),(Nat.zero_le _)⟩
 exact⟨h1,(t0.trans t1),.inl ⟨e1,rfl,_,rfl,kF,⟨⟨Hd.nil,Hd.nil,Hd.nil,Hd.nil,Hd.nil,Hd.nil⟩,rfl,okF,⟨capZ,capZ,capZ,capZ,capZ,capZ⟩,loF⟩⟩⟩
theorem walkR_6K (w:World) (g:Nat) (A:Option Addr) (n c:Nat) (l:List UInt8) (s s0:RS) (gc b:Nat) (hc:CR w g A n c l s gc) (hs:s.e=0) (D:Dst w A n g gc b 38 zRec 0 []) (hx:rInt l s=(6,s0)):
 Calls Tryz.prog 61 #[.pointer (some ⟨gc,0,none⟩),.pointer (some ⟨b,0,none⟩)] w (RPost RcRel 29 w g A n c l gc b 38 zRec 0 (rRc l s)):=by
 have gl:=hc.rd.blk.lt
 have bl:=D.blk.lt
 have HR:=Lib.hid (show rRc l s=rBody 6 l s0 by unfold rRc;rw[hx])
 have hI:=rcInt w g A n c l s gc b 38 zRec 0 hc hs (D.at_ D.blk 0 [.int .i64 0] rfl)
 rw[hx]at hI
 rw[HR.out,rBody_6]
 clear hx
 go_enter Tryz.func61,Tryz.ntmps61
 go_wp2_with fail
 refine hI.mono ?_
 rintro e w0 ⟨h0,t0,⟨e0,rfl,v0,l0,k0,⟨rfl,-⟩⟩|⟨e0,rfl,cs0,l0,k0⟩⟩
 rotate_left
 · go_wp2
   exact⟨rfl,RPost.bad (s':=s0) ((rTwo_stk (mk:=fun _ _=>()) (rTwo_stk (mk:=fun _ _=>()) rFloat_stk rInt_stk) rSp_stk) l _ e0) e0 h0 t0 l0 k0⟩
 clear l0 hI
 replace k0:Blk w0 b 38 #[.int .i64 6,.int .i64 0,.int .i64 0,.int .i64 0,.int .i64 0,.int .i64 0,.int .i64 0,.int .i64 0,.int .i64 0,.int .i64 0,.bool false,.int .i64 0,.float .f64 0,.slice none 0 0,.slice none 0 0,.slice none 0 0,.slice none 0 0,.int .i64 0,.int .i64 0,.float .f64 0,.float .f64 0,.int .i64 0,.int .i64 0,.int .i64 0,.int .i64 0,.int .i64 0,.int .i64 0,.slice none 0 0,.slice none 0 0]:=k0
 have c0:=cl (k0.cell 0)
 go_wp2_with fail
 refine(rcFloat w0 g A n c l s0 gc b 38 _ 12 h0 e0 (D.at_ k0 12 [.float .f64 0] rfl)).mono ?_
 rintro e w1 ⟨h1,t1,⟨e1,rfl,v1,l1,k1,n1⟩|⟨e1,rfl,cs1,l1,k1⟩⟩
 rotate_left
 · go_wp2
   exact⟨rfl,RPost.bad (s':=(rFloat l s0).2) ((rTwo_stk (mk:=fun _ _=>()) rInt_stk rSp_stk) l _ e1) e1 h1 (t0.trans t1) (l1.trans rfl) k1⟩
 obtain⟨rfl,o1⟩:=n1
 replace k1:Blk w1 b 38 #[.int .i64 6,.int .i64 0,.int .i64 0,.int .i64 0,.int .i64 0,.int .i64 0,.int .i64 0,.int .i64 0,.int .i64 0,.int .i64 0,.bool false,.int .i64 0,.float .f64 (rFloat l s0).1,.slice none 0 0,.slice none 0 0,.slice none 0 0,.slice none 0 0,.int .i64 0,.int .i64 0,.float .f64 0,.float .f64 0,.int .i64 0,.int .i64 0,.int .i64 0,.int .i64 0,.int .i64 0,.int .i64 0,.slice none 0 0,.slice none 0 0]:=k1
 clear l1
 go_wp2_with fail
 refine(rcInt w1 g A n c l (rFloat l s0).2 gc b 38 _ 11 h1 e1 (D.at_ k1 11 [.int .i64 0] rfl)).mono ?_
 rintro e w2 ⟨h2,t2,⟨e2,rfl,v2,l2,k2,n2⟩|⟨e2,rfl,cs2,l2,k2⟩⟩
 rotate_left
 · go_wp2
   exact⟨rfl,RPost.bad (s':=(rInt l (rFloat l s0).2).2) (rSp_stk l _ e2) e2 h2 ((t0.trans t1).trans t2) (l2.trans rfl) k2⟩
 obtain⟨rfl,o2⟩:=n2
 replace k2:Blk w2 b 38 #[.int .i64 6,.int .i64 0,.int .i64 0,.int .i64 0,.int .i64 0,.int .i64 0,.int .i64 0,.int .i64 0,.int .i64 0,.int .i64 0,.bool false,.int .i64 (rInt l (rFloat l s0).2).1,.float .f64 (rFloat l s0).1,.slice none 0 0,.slice none 0 0,.slice none 0 0,.slice none 0 0,.int .i64 0,.int .i64 0,.float .f64 0,.float .f64 0,.int .i64 0,.int .i64 0,.int .i64 0,.int .i64 0,.int .i64 0,.int .i64 0,.slice none 0 0,.slice none 0 0]:=k2
 clear l2
 go_wp2_with fail
 refine(rcStamp w2 g A n c l (rInt l (rFloat l s0).2).2 gc b 38 _ 4 h2 e2 (D.at_ k2 4 [.int .i64 0,.int .i64 0,.int .i64 0] rfl)).mono ?_
 rintro e w3 ⟨h3,t3,⟨e3,rfl,v3,l3,k3,n3⟩|⟨e3,rfl,cs3,l3,k3⟩⟩
 rotate_left
 · go_wp2
   exact⟨rfl,RPost.bad (s':=(rSp l (rInt l (rFloat l s0).2).2).2) rfl e3 h3 (((t0.trans t1).trans t2).trans t3) (l3.trans rfl) k3⟩
 obtain⟨rfl,o3⟩:=n3
 replace k3:Blk w3 b 38 #[.int .i64 6,.int .i64 0,.int .i64 0,.int .i64 0,.int .i64 (rSp l (rInt l (rFloat l s0).2).2).1.w,.int .i64 (rSp l (rInt l (rFloat l s0).2).2).1.l,.int .i64 (rSp l (rInt l (rFloat l s0).2).2).1.n,.int .i64 0,.int .i64 0,.int .i64 0,.bool false,.int .i64 (rInt l (rFloat l s0).2).1,.float .f64 (rFloat l s0).1,.slice none 0 0,.slice none 0 0,.slice none 0 0,.slice none 0 0,.int .i64 0,.int .i64 0,.float .f64 0,.float .f64 0,.int .i64 0,.int .i64 0,.int .i64 0,.int .i64 0,.int .i64 0,.int .i64 0,.slice none 0 0,.slice none 0 0]:=k3
 clear l3
 go_wp2
 go_end0
 have hgl:g<w3.heap.size:=h3.rd.blk.lt
 have kF:Blk w3 b 38 (put zRec 0 [.int .i64 6,.int .i64 0,.int .i64 0,.int .i64 0,.int .i64 (rSp l (rInt l (rFloat l s0).2).2).1.w,.int .i64 (rSp l (rInt l (rFloat l s0).2).2).1.l,.int .i64 (rSp l (rInt l (rFloat l s0).2).2).1.n,.int .i64 0,.int .i64 0,.int .i64 0,.bool false,.int .i64 (rInt l (rFloat l s0).2).1,.float .f64 (rFloat l s0).1,.slice none 0 0,.slice none 0 0,.slice none 0 0,.slice none 0 0,.int .i64 0,.int .i64 0,.float .f64 0,.float .f64 0,.int .i64 0,.int .i64 0,.int .i64 0,.int .i64 0,.int .i64 0,.int .i64 0,.slice none 0 0,.slice none 0 0]):=by rw[put_all _ zRec (by rfl)];exact k3
 have okF:Rc.ok ⟨6,zTx,(rSp l (rInt l (rFloat l s0).2).2).1,zSp,false,(rInt l (rFloat l s0).2).1,(rFloat l s0).1,[],[],[],[],zSt⟩:=⟨(by unfold i64ok;omega:i64ok 6),zTx_ok,o3,zSp_ok,o2,o1,zRg_ok,zSp_ok,zSp_ok⟩
 have loF:RcLo (only (rng w.heap.size w3.heap.size) w3) w3.heap.size ⟨6,zTx,(rSp l (rInt l (rFloat l s0).2).2).1,zSp,false,(rInt l (rFloat l s0).2).1,(rFloat l s0).1,[],[],[],[],zSt⟩ ⟨Hd.nil,Hd.nil,Hd.nil,Hd.nil,Hd.nil,Hd.nil⟩:=⟨Sl.nil,Sl.nil,Sl.nil,Sl.nil,Sl.nil,Sl.nil,(Nat.zero_le _),(Nat.zero_le _),(Nat.zero_le _),(Nat.zero_le _),(Nat.zero_le _),(Nat.zero_le _)⟩
 exact⟨h3,(((t0.trans t1).trans t2).trans t3),.inl ⟨e3,rfl,_,rfl,kF,⟨⟨Hd.nil,Hd.nil,Hd.nil,Hd.nil,Hd.nil,Hd.nil⟩,rfl,okF,⟨capZ,capZ,capZ,capZ,capZ,capZ⟩,loF⟩⟩⟩
theorem walkR_7K (w:World) (g:Nat) (A:Option Addr) (n c:Nat) (l:List UInt8) (s s0:RS) (gc b:Nat) (hc:CR w g A n c l s gc) (hs:s.e=0) (D:Dst w A n g gc b 38 zRec 0 []) (hx:rInt l s=(7,s0)):
 Calls Tryz.prog 61 #[.pointer (some ⟨gc,0,none⟩),.pointer (some ⟨b,0,none⟩)] w (RPost RcRel 29 w g A n c l gc b 38 zRec 0 (rRc l s)):=by
 have gl:=hc.rd.blk.lt
 have bl:=D.blk.lt
 have HR:=Lib.hid (show rRc l s=rBody 7 l s0 by unfold rRc;rw[hx])
 have hI:=rcInt w g A n c l s gc b 38 zRec 0 hc hs (D.at_ D.blk 0 [.int .i64 0] rfl)
 rw[hx]at hI
 rw[HR.out,rBody_7]
 clear hx
 go_enter Tryz.func61,Tryz.ntmps61
 go_wp2_with fail
 refine hI.mono ?_
 rintro e w0 ⟨h0,t0,⟨e0,rfl,v0,l0,k0,⟨rfl,-⟩⟩|⟨e0,rfl,cs0,l0,k0⟩⟩
 rotate_left
 · go_wp2
   exact⟨rfl,RPost.bad (s':=s0) (rInt_stk l _ e0) e0 h0 t0 l0 k0⟩
 clear l0 hI
 replace k0:Blk w0 b 38 #[.int .i64 7,.int .i64 0,.int .i64 0,.int .i64 0,.int .i64 0,.int .i64 0,.int .i64 0,.int .i64 0,.int .i64 0,.int .i64 0,.bool false,.int .i64 0,.float .f64 0,.slice none 0 0,.slice none 0 0,.slice none 0 0,.slice none 0 0,.int .i64 0,.int .i64 0,.float .f64 0,.float .f64 0,.int .i64 0,.int .i64 0,.int .i64 0,.int .i64 0,.int .i64 0,.int .i64 0,.slice none 0 0,.slice none 0 0]:=k0
 have c0:=cl (k0.cell 0)
 go_wp2_with fail
 refine(rcInt w0 g A n c l s0 gc b 38 _ 11 h0 e0 (D.at_ k0 11 [.int .i64 0] rfl)).mono ?_
 rintro e w1 ⟨h1,t1,⟨e1,rfl,v1,l1,k1,n1⟩|⟨e1,rfl,cs1,l1,k1⟩⟩
 rotate_left
 · go_wp2
   exact⟨rfl,RPost.bad (s':=(rInt l s0).2) rfl e1 h1 (t0.trans t1) (l1.trans rfl) k1⟩
 obtain⟨rfl,o1⟩:=n1
 replace k1:Blk w1 b 38 #[.int .i64 7,.int .i64 0,.int .i64 0,.int .i64 0,.int .i64 0,.int .i64 0,.int .i64 0,.int .i64 0,.int .i64 0,.int .i64 0,.bool false,.int .i64 (rInt l s0).1,.float .f64 0,.slice none 0 0,.slice none 0 0,.slice none 0 0,.slice none 0 0,.int .i64 0,.int .i64 0,.float .f64 0,.float .f64 0,.int .i64 0,.int .i64 0,.int .i64 0,.int .i64 0,.int .i64 0,.int .i64 0,.slice none 0 0,.slice none 0 0]:=k1
 clear l1
 go_wp2
 go_end0
 have hgl:g<w1.heap.size:=h1.rd.blk.lt
 have kF:Blk w1 b 38 (put zRec 0 [.int .i64 7,.int .i64 0,.int .i64 0,.int .i64 0,.int .i64 0,.int .i64 0,.int .i64 0,.int .i64 0,.int .i64 0,.int .i64 0,.bool false,.int .i64 (rInt l s0).1,.float .f64 0,.slice none 0 0,.slice none 0 0,.slice none 0 0,.slice none 0 0,.int .i64 0,.int .i64 0,.float .f64 0,.float .f64 0,.int .i64 0,.int .i64 0,.int .i64 0,.int .i64 0,.int .i64 0,.int .i64 0,.slice none 0 0,.slice none 0 0]):=by rw[put_all _ zRec (by rfl)];exact k1
 have okF:Rc.ok ⟨7,zTx,zSp,zSp,false,(rInt l s0).1,0,[],[],[],[],zSt⟩:=⟨(by unfold i64ok;omega:i64ok 7),zTx_ok,zSp_ok,zSp_ok,o1,(by show 0<_;omega),zRg_ok,zSp_ok,zSp_ok⟩
 have loF:RcLo (only (rng w.heap.size w1.heap.size) w1) w1.heap.size ⟨7,zTx,zSp,zSp,false,(rInt l s0).1,0,[],[],[],[],zSt⟩ ⟨Hd.nil,Hd.nil,Hd.nil,Hd.nil,Hd.nil,Hd.nil⟩:=⟨Sl.nil,Sl.nil,Sl.nil,Sl.nil,Sl.nil,Sl.nil,(Nat.zero_le _),(Nat.zero_le _),(Nat.zero_le _),(Nat.zero_le _),(Nat.zero_le _),(Nat.zero_le _)⟩
 exact⟨h1,(t0.trans t1),.inl ⟨e1,rfl,_,rfl,kF,⟨⟨Hd.nil,Hd.nil,Hd.nil,Hd.nil,Hd.nil,Hd.nil⟩,rfl,okF,⟨capZ,capZ,capZ,capZ,capZ,capZ⟩,loF⟩⟩⟩
theorem walkR_8K (w:World) (g:Nat) (A:Option Addr) (n c:Nat) (l:List UInt8) (s s0:RS) (gc b:Nat) (hc:CR w g A n c l s gc) (hs:s.e=0) (D:Dst w A n g gc b 38 zRec 0 []) (hx:rInt l s=(8,s0)):
 Calls Tryz.prog 61 #[.pointer (some ⟨gc,0,none⟩),.pointer (some ⟨b,0,none⟩)] w (RPost RcRel 29 w g A n c l gc b 38 zRec 0 (rRc l s)):=by
 have gl:=hc.rd.blk.lt
 have bl:=D.blk.lt
 have HR:=Lib.hid (show rRc l s=rBody 8 l s0 by unfold rRc;rw[hx])
 have hI:=rcInt w g A n c l s gc b 38 zRec 0 hc hs (D.at_ D.blk 0 [.int .i64 0] rfl)
 rw[hx]at hI
 rw[HR.out,rBody_8]
 clear hx
 go_enter Tryz.func61,Tryz.ntmps61
 go_wp2_with fail
 refine hI.mono ?_
 rintro e w0 ⟨h0,t0,⟨e0,rfl,v0,l0,k0,⟨rfl,-⟩⟩|⟨e0,rfl,cs0,l0,k0⟩⟩
 rotate_left
 · go_wp2
   exact⟨rfl,RPost.bad (s':=s0) (rInt_stk l _ e0) e0 h0 t0 l0 k0⟩
 clear l0 hI
 replace k0:Blk w0 b 38 #[.int .i64 8,.int .i64 0,.int .i64 0,.int .i64 0,.int .i64 0,.int .i64 0,.int .i64 0,.int .i64 0,.int .i64 0,.int .i64 0,.bool false,.int .i64 0,.float .f64 0,.slice none 0 0,.slice none 0 0,.slice none 0 0,.slice none 0 0,.int .i64 0,.int .i64 0,.float .f64 0,.float .f64 0,.int .i64 0,.int .i64 0,.int .i64 0,.int .i64 0,.int .i64 0,.int .i64 0,.slice none 0 0,.slice none 0 0]:=k0
 have c0:=cl (k0.cell 0)
 go_wp2_with fail
 refine(rcInt w0 g A n c l s0 gc b 38 _ 11 h0 e0 (D.at_ k0 11 [.int .i64 0] rfl)).mono ?_
 rintro e w1 ⟨h1,t1,⟨e1,rfl,v1,l1,k1,n1⟩|⟨e1,rfl,cs1,l1,k1⟩⟩
 rotate_left
 · go_wp2
   exact⟨rfl,RPost.bad (s':=(rInt l s0).2) rfl e1 h1 (t0.trans t1) (l1.trans rfl) k1⟩
 obtain⟨rfl,o1⟩:=n1
 replace k1:Blk w1 b 38 #[.int .i64 8,.int .i64 0,.int .i64 0,.int .i64 0,.int .i64 0,.int .i64 0,.int .i64 0,.int .i64 0,.int .i64 0,.int .i64 0,.bool false,.int .i64 (rInt l s0).1,.float .f64 0,.slice none 0 0,.slice none 0 0,.slice none 0 0,.slice none 0 0,.int .i64 0,.int .i64 0,.float .f64 0,.float .f64 0,.int .i64 0,.int .i64 0,.int .i64 0,.int .i64 0,.int .i64 0,.int .i64 0,.slice none 0 0,.slice none 0 0]:=k1
 clear l1
 go_wp2
 go_end0
 have hgl:g<w1.heap.size:=h1.rd.blk.lt
 have kF:Blk w1 b 38 (put zRec 0 [.int .i64 8,.int .i64 0,.int .i64 0,.int .i64 0,.int .i64 0,.int .i64 0,.int .i64 0,.int .i64 0,.int .i64 0,.int .i64 0,.bool false,.int .i64 (rInt l s0).1,.float .f64 0,.slice none 0 0,.slice none 0 0,.slice none 0 0,.slice none 0 0,.int .i64 0,.int .i64 0,.float .f64 0,.float .f64 0,.int .i64 0,.int .i64 0,.int .i64 0,.int .i64 0,.int .i64 0,.int .i64 0,.slice none 0 0,.slice none 0 0]):=by rw[put_all _ zRec (by rfl)];exact k1
 have okF:Rc.ok ⟨8,zTx,zSp,zSp,false,(rInt l s0).1,0,[],[],[],[],zSt⟩:=⟨(by unfold i64ok;omega:i64ok 8),zTx_ok,zSp_ok,zSp_ok,o1,(by show 0<_;omega),zRg_ok,zSp_ok,zSp_ok⟩
 have loF:RcLo (only (rng w.heap.size w1.heap.size) w1) w1.heap.size ⟨8,zTx,zSp,zSp,false,(rInt l s0).1,0,[],[],[],[],zSt⟩ ⟨Hd.nil,Hd.nil,Hd.nil,Hd.nil,Hd.nil,Hd.nil⟩:=⟨Sl.nil,Sl.nil,Sl.nil,Sl.nil,Sl.nil,Sl.nil,(Nat.zero_le _),(Nat.zero_le _),(Nat.zero_le _),(Nat.zero_le _),(Nat.zero_le _),(Nat.zero_le _)⟩
 exact⟨h1,(t0.trans t1),.inl ⟨e1,rfl,_,rfl,kF,⟨⟨Hd.nil,Hd.nil,Hd.nil,Hd.nil,Hd.nil,Hd.nil⟩,rfl,okF,⟨capZ,capZ,capZ,capZ,capZ,capZ⟩,loF⟩⟩⟩
theorem walkR_9K (w:World) (g:Nat) (A:Option Addr) (n c:Nat) (l:List UInt8) (s s0:RS) (gc b:Nat) (hc:CR w g A n c l s gc) (hs:s.e=0) (D:Dst w A n g gc b 38 zRec 0 []) (hx:rInt l s=(9,s0)):
 Calls Tryz.prog 61 #[.pointer (some ⟨gc,0,none⟩),.pointer (some ⟨b,0,none⟩)] w (RPost RcRel 29 w g A n c l gc b 38 zRec 0 (rRc l s)):=by
 have gl:=hc.rd.blk.lt
 have bl:=D.blk.lt
 have HR:=Lib.hid (show rRc l s=rBody 9 l s0 by unfold rRc;rw[hx])
 have hI:=rcInt w g A n c l s gc b 38 zRec 0 hc hs (D.at_ D.blk 0 [.int .i64 0] rfl)
 rw[hx]at hI
 rw[HR.out,rBody_9]
 clear hx
 go_enter Tryz.func61,Tryz.ntmps61
 go_wp2_with fail
 refine hI.mono ?_
 rintro e w0 ⟨h0,t0,⟨e0,rfl,v0,l0,k0,⟨rfl,-⟩⟩|⟨e0,rfl,cs0,l0,k0⟩⟩
 rotate_left
 · go_wp2
   exact⟨rfl,RPost.bad (s':=s0) ((rTwo_stk (mk:=fun _ _=>()) (rTwo_stk (mk:=fun _ _=>()) rTx_stk rSp_stk) (rLs_stk _)) l _ e0) e0 h0 t0 l0 k0⟩
 clear l0 hI
 replace k0:Blk w0 b 38 #[.int .i64 9,.int .i64 0,.int .i64 0,.int .i64 0,.int .i64 0,.int .i64 0,.int .i64 0,.int .i64 0,.int .i64 0,.int .i64 0,.bool false,.int .i64 0,.float .f64 0,.slice none 0 0,.slice none 0 0,.slice none 0 0,.slice none 0 0,.int .i64 0,.int .i64 0,.float .f64 0,.float .f64 0,.int .i64 0,.int .i64 0,.int .i64 0,.int .i64 0,.int .i64 0,.int .i64 0,.slice none 0 0,.slice none 0 0]:=k0
 have c0:=cl (k0.cell 0)
 go_wp2_with fail
 refine(rcTxn w0 g A n c l s0 gc b 38 _ 1 h0 e0 (D.at_ k0 1 [.int .i64 0,.int .i64 0,.int .i64 0] rfl)).mono ?_
 rintro e w1 ⟨h1,t1,⟨e1,rfl,v1,l1,k1,n1⟩|⟨e1,rfl,cs1,l1,k1⟩⟩
 rotate_left
 · go_wp2
   exact⟨rfl,RPost.bad (s':=(rTx l s0).2) ((rTwo_stk (mk:=fun _ _=>()) rSp_stk (rLs_stk _)) l _ e1) e1 h1 (t0.trans t1) (l1.trans rfl) k1⟩
 obtain⟨rfl,o1⟩:=n1
 replace k1:Blk w1 b 38 #[.int .i64 9,.int .i64 (rTx l s0).1.c,.int .i64 (rTx l s0).1.l,.int .i64 (rTx l s0).1.s,.int .i64 0,.int .i64 0,.int .i64 0,.int .i64 0,.int .i64 0,.int .i64 0,.bool false,.int .i64 0,.float .f64 0,.slice none 0 0,.slice none 0 0,.slice none 0 0,.slice none 0 0,.int .i64 0,.int .i64 0,.float .f64 0,.float .f64 0,.int .i64 0,.int .i64 0,.int .i64 0,.int .i64 0,.int .i64 0,.int .i64 0,.slice none 0 0,.slice none 0 0]:=k1
 clear l1
 go_wp2_with fail
 refine(rcStamp w1 g A n c l (rTx l s0).2 gc b 38 _ 4 h1 e1 (D.at_ k1 4 [.int .i64 0,.int .i64 0,.int .i64 0] rfl)).mono ?_
 rintro e w2 ⟨h2,t2,⟨e2,rfl,v2,l2,k2,n2⟩|⟨e2,rfl,cs2,l2,k2⟩⟩
 rotate_left
 · go_wp2
   exact⟨rfl,RPost.bad (s':=(rSp l (rTx l s0).2).2) ((rLs_stk _) l _ e2) e2 h2 ((t0.trans t1).trans t2) (l2.trans rfl) k2⟩
 obtain⟨rfl,o2⟩:=n2
 replace k2:Blk w2 b 38 #[.int .i64 9,.int .i64 (rTx l s0).1.c,.int .i64 (rTx l s0).1.l,.int .i64 (rTx l s0).1.s,.int .i64 (rSp l (rTx l s0).2).1.w,.int .i64 (rSp l (rTx l s0).2).1.l,.int .i64 (rSp l (rTx l s0).2).1.n,.int .i64 0,.int .i64 0,.int .i64 0,.bool false,.int .i64 0,.float .f64 0,.slice none 0 0,.slice none 0 0,.slice none 0 0,.slice none 0 0,.int .i64 0,.int .i64 0,.float .f64 0,.float .f64 0,.int .i64 0,.int .i64 0,.int .i64 0,.int .i64 0,.int .i64 0,.int .i64 0,.slice none 0 0,.slice none 0 0]:=k2
 clear l2
 go_wp2_with fail
 refine(rlInt w2 g A n c l (rSp l (rTx l s0).2).2 gc b 38 _ 15 h2 e2 (D.at_ k2 15 [.slice none 0 0] rfl)).mono ?_
 rintro e w3 ⟨h3,t3,⟨e3,rfl,v3,l3,k3,n3⟩|⟨e3,rfl,cs3,l3,k3⟩⟩
 rotate_left
 · go_wp2
   exact⟨rfl,RPost.bad (s':=(rLs rInt l (rSp l (rTx l s0).2).2).2) rfl e3 h3 (((t0.trans t1).trans t2).trans t3) (l3.trans rfl) k3⟩
 have q3:=n3
 obtain⟨u3,rfl,-⟩:=q3
 replace k3:Blk w3 b 38 #[.int .i64 9,.int .i64 (rTx l s0).1.c,.int .i64 (rTx l s0).1.l,.int .i64 (rTx l s0).1.s,.int .i64 (rSp l (rTx l s0).2).1.w,.int .i64 (rSp l (rTx l s0).2).1.l,.int .i64 (rSp l (rTx l s0).2).1.n,.int .i64 0,.int .i64 0,.int .i64 0,.bool false,.int .i64 0,.float .f64 0,.slice none 0 0,.slice none 0 0,u3,.slice none 0 0,.int .i64 0,.int .i64 0,.float .f64 0,.float .f64 0,.int .i64 0,.int .i64 0,.int .i64 0,.int .i64 0,.int .i64 0,.int .i64 0,.slice none 0 0,.slice none 0 0]:=k3
 clear l3
 go_wp2
 go_end0
 have hgl:g<w3.heap.size:=h3.rd.blk.lt
 obtain⟨x3,hx3,P3,m3,d3,rfl,y3,z3,o3⟩:=n3.on (LsRel.kept NmRel.kept) (LsRel.mono NmRel.mono) (Two2.refl _ g b) (by have:=t0.size;have:=t1.size;have:=t2.size;have:=t3.size;omega) (by have:=t0.size;have:=t1.size;have:=t2.size;have:=t3.size;omega) (lo:=w.heap.size) (hi:=w3.heap.size) (by have:=t0.size;have:=t1.size;have:=t2.size;have:=t3.size;omega) (by have:=t0.size;have:=t1.size;have:=t2.size;have:=t3.size;omega)
 obtain rfl:u3=_:=List.singleton_inj.1 hx3
 have kF:Blk w3 b 38 (put zRec 0 [.int .i64 9,.int .i64 (rTx l s0).1.c,.int .i64 (rTx l s0).1.l,.int .i64 (rTx l s0).1.s,.int .i64 (rSp l (rTx l s0).2).1.w,.int .i64 (rSp l (rTx l s0).2).1.l,.int .i64 (rSp l (rTx l s0).2).1.n,.int .i64 0,.int .i64 0,.int .i64 0,.bool false,.int .i64 0,.float .f64 0,.slice none 0 0,.slice none 0 0,.slice P3 m3 d3,.slice none 0 0,.int .i64 0,.int .i64 0,.float .f64 0,.float .f64 0,.int .i64 0,.int .i64 0,.int .i64 0,.int .i64 0,.int .i64 0,.int .i64 0,.slice none 0 0,.slice none 0 0]):=by rw[put_all _ zRec (by rfl)];exact k3
 have okF:Rc.ok ⟨9,(rTx l s0).1,(rSp l (rTx l s0).2).1,zSp,false,0,0,[],[],(rLs rInt l (rSp l (rTx l s0).2).2).1,[],zSt⟩:=⟨(by unfold i64ok;omega:i64ok 9),o1,o2,zSp_ok,i64z,(by show 0<_;omega),zRg_ok,zSp_ok,zSp_ok⟩
 have loF:RcLo (only (rng w.heap.size w3.heap.size) w3) w3.heap.size ⟨9,(rTx l s0).1,(rSp l (rTx l s0).2).1,zSp,false,0,0,[],[],(rLs rInt l (rSp l (rTx l s0).2).2).1,[],zSt⟩ ⟨Hd.nil,Hd.nil,⟨P3,m3,d3⟩,Hd.nil,Hd.nil,Hd.nil⟩:=⟨Sl.nil,Sl.nil,o3,Sl.nil,Sl.nil,Sl.nil,(Nat.zero_le _),(Nat.zero_le _),(Nat.le_trans y3 z3),(Nat.zero_le _),(Nat.zero_le _),(Nat.zero_le _)⟩
 exact⟨h3,(((t0.trans t1).trans t2).trans t3),.inl ⟨e3,rfl,_,rfl,kF,⟨⟨Hd.nil,Hd.nil,⟨P3,m3,d3⟩,Hd.nil,Hd.nil,Hd.nil⟩,rfl,okF,⟨capZ,capZ,⟨y3,z3⟩,capZ,capZ,capZ⟩,loF⟩⟩⟩
theorem walkR_10K (w:World) (g:Nat) (A:Option Addr) (n c:Nat) (l:List UInt8) (s s0:RS) (gc b:Nat) (hc:CR w g A n c l s gc) (hs:s.e=0) (D:Dst w A n g gc b 38 zRec 0 []) (hx:rInt l s=(10,s0)):
 Calls Tryz.prog 61 #[.pointer (some ⟨gc,0,none⟩),.pointer (some ⟨b,0,none⟩)] w (RPost RcRel 29 w g A n c l gc b 38 zRec 0 (rRc l s)):=by
 have gl:=hc.rd.blk.lt
 have bl:=D.blk.lt
 have HR:=Lib.hid (show rRc l s=rBody 10 l s0 by unfold rRc;rw[hx])
 have hI:=rcInt w g A n c l s gc b 38 zRec 0 hc hs (D.at_ D.blk 0 [.int .i64 0] rfl)
 rw[hx]at hI
 rw[HR.out,rBody_10]
 clear hx
 go_enter Tryz.func61,Tryz.ntmps61
 go_wp2_with fail
 refine hI.mono ?_
 rintro e w0 ⟨h0,t0,⟨e0,rfl,v0,l0,k0,⟨rfl,-⟩⟩|⟨e0,rfl,cs0,l0,k0⟩⟩
 rotate_left
 · go_wp2
   exact⟨rfl,RPost.bad (s':=s0) (rTx_stk l _ e0) e0 h0 t0 l0 k0⟩
 clear l0 hI
 replace k0:Blk w0 b 38 #[.int .i64 10,.int .i64 0,.int .i64 0,.int .i64 0,.int .i64 0,.int .i64 0,.int .i64 0,.int .i64 0,.int .i64 0,.int .i64 0,.bool false,.int .i64 0,.float .f64 0,.slice none 0 0,.slice none 0 0,.slice none 0 0,.slice none 0 0,.int .i64 0,.int .i64 0,.float .f64 0,.float .f64 0,.int .i64 0,.int .i64 0,.int .i64 0,.int .i64 0,.int .i64 0,.int .i64 0,.slice none 0 0,.slice none 0 0]:=k0
 have c0:=cl (k0.cell 0)
 go_wp2_with fail
 refine(rcTxn w0 g A n c l s0 gc b 38 _ 1 h0 e0 (D.at_ k0 1 [.int .i64 0,.int .i64 0,.int .i64 0] rfl)).mono ?_
 rintro e w1 ⟨h1,t1,⟨e1,rfl,v1,l1,k1,n1⟩|⟨e1,rfl,cs1,l1,k1⟩⟩
 rotate_left
 · go_wp2
   exact⟨rfl,RPost.bad (s':=(rTx l s0).2) rfl e1 h1 (t0.trans t1) (l1.trans rfl) k1⟩
 obtain⟨rfl,o1⟩:=n1
 replace k1:Blk w1 b 38 #[.int .i64 10,.int .i64 (rTx l s0).1.c,.int .i64 (rTx l s0).1.l,.int .i64 (rTx l s0).1.s,.int .i64 0,.int .i64 0,.int .i64 0,.int .i64 0,.int .i64 0,.int .i64 0,.bool false,.int .i64 0,.float .f64 0,.slice none 0 0,.slice none 0 0,.slice none 0 0,.slice none 0 0,.int .i64 0,.int .i64 0,.float .f64 0,.float .f64 0,.int .i64 0,.int .i64 0,.int .i64 0,.int .i64 0,.int .i64 0,.int .i64 0,.slice none 0 0,.slice none 0 0]:=k1
 clear l1
 go_wp2
 go_end0
 have hgl:g<w1.heap.size:=h1.rd.blk.lt
 have kF:Blk w1 b 38 (put zRec 0 [.int .i64 10,.int .i64 (rTx l s0).1.c,.int .i64 (rTx l s0).1.l,.int .i64 (rTx l s0).1.s,.int .i64 0,.int .i64 0,.int .i64 0,.int .i64 0,.int .i64 0,.int .i64 0,.bool false,.int .i64 0,.float .f64 0,.slice none 0 0,.slice none 0 0,.slice none 0 0,.slice none 0 0,.int .i64 0,.int .i64 0,.float .f64 0,.float .f64 0,.int .i64 0,.int .i64 0,.int .i64 0,.int .i64 0,.int .i64 0,.int .i64 0,.slice none 0 0,.slice none 0 0]):=by rw[put_all _ zRec (by rfl)];exact k1
 have okF:Rc.ok ⟨10,(rTx l s0).1,zSp,zSp,false,0,0,[],[],[],[],zSt⟩:=⟨(by unfold i64ok;omega:i64ok 10),o1,zSp_ok,zSp_ok,i64z,(by show 0<_;omega),zRg_ok,zSp_ok,zSp_ok⟩
 have loF:RcLo (only (rng w.heap.size w1.heap.size) w1) w1.heap.size ⟨10,(rTx l s0).1,zSp,zSp,false,0,0,[],[],[],[],zSt⟩ ⟨Hd.nil,Hd.nil,Hd.nil,Hd.nil,Hd.nil,Hd.nil⟩:=⟨Sl.nil,Sl.nil,Sl.nil,Sl.nil,Sl.nil,Sl.nil,(Nat.zero_le _),(Nat.zero_le _),(Nat.zero_le _),(Nat.zero_le _),(Nat.zero_le _),(Nat.zero_le _)⟩
 exact⟨h1,(t0.trans t1),.inl ⟨e1,rfl,_,rfl,kF,⟨⟨Hd.nil,Hd.nil,Hd.nil,Hd.nil,Hd.nil,Hd.nil⟩,rfl,okF,⟨capZ,capZ,capZ,capZ,capZ,capZ⟩,loF⟩⟩⟩
theorem walkR_11K (w:World) (g:Nat) (A:Option Addr) (n c:Nat) (l:List UInt8) (s s0:RS) (gc b:Nat) (hc:CR w g A n c l s gc) (hs:s.e=0) (D:Dst w A n g gc b 38 zRec 0 []) (hx:rInt l s=(11,s0)):
 Calls Tryz.prog 61 #[.pointer (some ⟨gc,0,none⟩),.pointer (some ⟨b,0,none⟩)] w (RPost RcRel 29 w g A n c l gc b 38 zRec 0 (rRc l s)):=by
 have gl:=hc.rd.blk.lt
 have bl:=D.blk.lt
 have HR:=Lib.hid (show rRc l s=rBody 11 l s0 by unfold rRc;rw[hx])
 have hI:=rcInt w g A n c l s gc b 38 zRec 0 hc hs (D.at_ D.blk 0 [.int .i64 0] rfl)
 rw[hx]at hI
 rw[HR.out,rBody_11]
 clear hx
 go_enter Tryz.func61,Tryz.ntmps61
 go_wp2_with fail
 refine hI.mono ?_
 rintro e w0 ⟨h0,t0,⟨e0,rfl,v0,l0,k0,⟨rfl,-⟩⟩|⟨e0,rfl,cs0,l0,k0⟩⟩
 rotate_left
 · go_wp2
   exact⟨rfl,RPost.bad (s':=s0) ((rTwo_stk (mk:=fun _ _=>()) (rTwo_stk (mk:=fun _ _=>()) (rTwo_stk (mk:=fun _ _=>()) rSp_stk rSp_stk) rTx_stk) (rLs_stk _)) l _ e0) e0 h0 t0 l0 k0⟩
 clear l0 hI
 replace k0:Blk w0 b 38 #[.int .i64 11,.int .i64 0,.int .i64 0,.int .i64 0,.int .i64 0,.int .i64 0,.int .i64 0,.int .i64 0,.int .i64 0,.int .i64 0,.bool false,.int .i64 0,.float .f64 0,.slice none 0 0,.slice none 0 0,.slice none 0 0,.slice none 0 0,.int .i64 0,.int .i64 0,.float .f64 0,.float .f64 0,.int .i64 0,.int .i64 0,.int .i64 0,.int .i64 0,.int .i64 0,.int .i64 0,.slice none 0 0,.slice none 0 0]:=k0
 have c0:=cl (k0.cell 0)
 go_wp2_with fail
 refine(rcStamp w0 g A n c l s0 gc b 38 _ 7 h0 e0 (D.at_ k0 7 [.int .i64 0,.int .i64 0,.int .i64 0] rfl)).mono ?_
 rintro e w1 ⟨h1,t1,⟨e1,rfl,v1,l1,k1,n1⟩|⟨e1,rfl,cs1,l1,k1⟩⟩
 rotate_left
 · go_wp2
   exact⟨rfl,RPost.bad (s':=(rSp l s0).2) ((rTwo_stk (mk:=fun _ _=>()) (rTwo_stk (mk:=fun _ _=>()) rSp_stk rTx_stk) (rLs_stk _)) l _ e1) e1 h1 (t0.trans t1) (l1.trans rfl) k1⟩
 obtain⟨rfl,o1⟩:=n1
 replace k1:Blk w1 b 38 #[.int .i64 11,.int .i64 0,.int .i64 0,.int .i64 0,.int .i64 0,.int .i64 0,.int .i64 0,.int .i64 (rSp l s0).1.w,.int .i64 (rSp l s0).1.l,.int .i64 (rSp l s0).1.n,.bool false,.int .i64 0,.float .f64 0,.slice none 0 0,.slice none 0 0,.slice none 0 0,.slice none 0 0,.int .i64 0,.int .i64 0,.float .f64 0,.float .f64 0,.int .i64 0,.int .i64 0,.int .i64 0,.int .i64 0,.int .i64 0,.int .i64 0,.slice none 0 0,.slice none 0 0]:=k1
 clear l1
 go_wp2_with fail
 refine(rcStamp w1 g A n c l (rSp l s0).2 gc b 38 _ 4 h1 e1 (D.at_ k1 4 [.int .i64 0,.int .i64 0,.int .i64 0] rfl)).mono ?_
 rintro e w2 ⟨h2,t2,⟨e2,rfl,v2,l2,k2,n2⟩|⟨e2,rfl,cs2,l2,k2⟩⟩
 rotate_left
 · go_wp2
   exact⟨rfl,RPost.bad (s':=(rSp l (rSp l s0).2).2) ((rTwo_stk (mk:=fun _ _=>()) rTx_stk (rLs_stk _)) l _ e2) e2 h2 ((t0.trans t1).trans t2) (l2.trans rfl) k2⟩
 obtain⟨rfl,o2⟩:=n2
 replace k2:Blk w2 b 38 #[.int .i64 11,.int .i64 0,.int .i64 0,.int .i64 0,.int .i64 (rSp l (rSp l s0).2).1.w,.int .i64 (rSp l (rSp l s0).2).1.l,.int .i64 (rSp l (rSp l s0).2).1.n,.int .i64 (rSp l s0).1.w,.int .i64 (rSp l s0).1.l,.int .i64 (rSp l s0).1.n,.bool false,.int .i64 0,.float .f64 0,.slice none 0 0,.slice none 0 0,.slice none 0 0,.slice none 0 0,.int .i64 0,.int .i64 0,.float .f64 0,.float .f64 0,.int .i64 0,.int .i64 0,.int .i64 0,.int .i64 0,.int .i64 0,.int .i64 0,.slice none 0 0,.slice none 0 0]:=k2
 clear l2
 go_wp2_with fail
 refine(rcTxn w2 g A n c l (rSp l (rSp l s0).2).2 gc b 38 _ 1 h2 e2 (D.at_ k2 1 [.int .i64 0,.int .i64 0,.int .i64 0] rfl)).mono ?_
 rintro e w3 ⟨h3,t3,⟨e3,rfl,v3,l3,k3,n3⟩|⟨e3,rfl,cs3,l3,k3⟩⟩
 rotate_left
 · go_wp2
   exact⟨rfl,RPost.bad (s':=(rTx l (rSp l (rSp l s0).2).2).2) ((rLs_stk _) l _ e3) e3 h3 (((t0.trans t1).trans t2).trans t3) (l3.trans rfl) k3⟩
 obtain⟨rfl,o3⟩:=n3
 replace k3:Blk w3 b 38 #[.int .i64 11,.int .i64 (rTx l (rSp l (rSp l s0).2).2).1.c,.int .i64 (rTx l (rSp l (rSp l s0).2).2).1.l,.int .i64 (rTx l (rSp l (rSp l s0).2).2).1.s,.int .i64 (rSp l (rSp l s0).2).1.w,.int .i64 (rSp l (rSp l s0).2).1.l,.int .i64 (rSp l (rSp l s0).2).1.n,.int .i64 (rSp l s0).1.w,.int .i64 (rSp l s0).1.l,.int .i64 (rSp l s0).1.n,.bool false,.int .i64 0,.float .f64 0,.slice none 0 0,.slice none 0 0,.slice none 0 0,.slice none 0 0,.int .i64 0,.int .i64 0,.float .f64 0,.float .f64 0,.int .i64 0,.int .i64 0,.int .i64 0,.int .i64 0,.int .i64 0,.int .i64 0,.slice none 0 0,.slice none 0 0]:=k3
 clear l3
 go_wp2_with fail
 refine(rlWrite w3 g A n c l (rTx l (rSp l (rSp l s0).2).2).2 gc b 38 _ 14 h3 e3 (D.at_ k3 14 [.slice none 0 0] rfl)).mono ?_
 rintro e w4 ⟨h4,t4,⟨e4,rfl,v4,l4,k4,n4⟩|⟨e4,rfl,cs4,l4,k4⟩⟩
 rotate_left
 · go_wp2
   exact⟨rfl,RPost.bad (s':=(rLs rWt l (rTx l (rSp l (rSp l s0).2).2).2).2) rfl e4 h4 ((((t0.trans t1).trans t2).trans t3).trans t4) (l4.trans rfl) k4⟩
 have q4:=n4
 obtain⟨u4,rfl,-⟩:=q4
 replace k4:Blk w4 b 38 #[.int .i64 11,.int .i64 (rTx l (rSp l (rSp l s0).2).2).1.c,.int .i64 (rTx l (rSp l (rSp l s0).2).2).1.l,.int .i64 (rTx l (rSp l (rSp l s0).2).2).1.s,.int .i64 (rSp l (rSp l s0).2).1.w,.int .i64 (rSp l (rSp l s0).2).1.l,.int .i64 (rSp l (rSp l s0).2).1.n,.int .i64 (rSp l s0).1.w,.int .i64 (rSp l s0).1.l,.int .i64 (rSp l s0).1.n,.bool false,.int .i64 0,.float .f64 0,.slice none 0 0,u4,.slice none 0 0,.slice none 0 0,.int .i64 0,.int .i64 0,.float .f64 0,.float .f64 0,.int .i64 0,.int .i64 0,.int .i64 0,.int .i64 0,.int .i64 0,.int .i64 0,.slice none 0 0,.slice none 0 0]:=k4
 clear l4
 go_wp2
 go_end0
 have hgl:g<w4.heap.size:=h4.rd.blk.lt
 obtain⟨x4,hx4,P4,m4,d4,rfl,y4,z4,o4⟩:=n4.on (LsRel.kept WtRel.kept) (LsRel.mono WtRel.mono) (Two2.refl _ g b) (by have:=t0.size;have:=t1.size;have:=t2.size;have:=t3.size;have:=t4.size;omega) (by have:=t0.size;have:=t1.size;have:=t2.size;have:=t3.size;have:=t4.size;omega) (lo:=w.heap.size) (hi:=w4.heap.size) (by have:=t0.size;have:=t1.size;have:=t2.size;have:=t3.size;have:=t4.size;omega) (by have:=t0.size;have:=t1.size;have:=t2.size;have:=t3.size;have:=t4.size;omega)
 obtain rfl:u4=_:=List.singleton_inj.1 hx4
 have kF:Blk w4 b 38 (put zRec 0 [.int .i64 11,.int .i64 (rTx l (rSp l (rSp l s0).2).2).1.c,.int .i64 (rTx l (rSp l (rSp l s0).2).2).1.l,.int .i64 (rTx l (rSp l (rSp l s0).2).2).1.s,.int .i64 (rSp l (rSp l s0).2).1.w,.int .i64 (rSp l (rSp l s0).2).1.l,.int .i64 (rSp l (rSp l s0).2).1.n,.int .i64 (rSp l s0).1.w,.int .i64 (rSp l s0).1.l,.int .i64 (rSp l s0).1.n,.bool false,.int .i64 0,.float .f64 0,.slice none 0 0,.slice P4 m4 d4,.slice none 0 0,.slice none 0 0,.int .i64 0,.int .i64 0,.float .f64 0,.float .f64 0,.int .i64 0,.int .i64 0,.int .i64 0,.int .i64 0,.int .i64 0,.int .i64 0,.slice none 0 0,.slice none 0 0]):=by rw[put_all _ zRec (by rfl)];exact k4
 have okF:Rc.ok ⟨11,(rTx l (rSp l (rSp l s0).2).2).1,(rSp l (rSp l s0).2).1,(rSp l s0).1,false,0,0,[],(rLs rWt l (rTx l (rSp l (rSp l s0).2).2).2).1,[],[],zSt⟩:=⟨(by unfold i64ok;omega:i64ok 11),o3,o2,o1,i64z,(by show 0<_;omega),zRg_ok,zSp_ok,zSp_ok⟩
 have loF:RcLo (only (rng w.heap.size w4.heap.size) w4) w4.heap.size ⟨11,(rTx l (rSp l (rSp l s0).2).2).1,(rSp l (rSp l s0).2).1,(rSp l s0).1,false,0,0,[],(rLs rWt l (rTx l (rSp l (rSp l s0).2).2).2).1,[],[],zSt⟩ ⟨Hd.nil,⟨P4,m4,d4⟩,Hd.nil,Hd.nil,Hd.nil,Hd.nil⟩:=⟨Sl.nil,o4,Sl.nil,Sl.nil,Sl.nil,Sl.nil,(Nat.zero_le _),(Nat.le_trans y4 z4),(Nat.zero_le _),(Nat.zero_le _),(Nat.zero_le _),(Nat.zero_le _)⟩
 exact⟨h4,((((t0.trans t1).trans t2).trans t3).trans t4),.inl ⟨e4,rfl,_,rfl,kF,⟨⟨Hd.nil,⟨P4,m4,d4⟩,Hd.nil,Hd.nil,Hd.nil,Hd.nil⟩,rfl,okF,⟨capZ,⟨y4,z4⟩,capZ,capZ,capZ,capZ⟩,loF⟩⟩⟩
theorem walkR_12K (w:World) (g:Nat) (A:Option Addr) (n c:Nat) (l:List UInt8) (s s0:RS) (gc b:Nat) (hc:CR w g A n c l s gc) (hs:s.e=0) (D:Dst w A n g gc b 38 zRec 0 []) (hx:rInt l s=(12,s0)):
 Calls Tryz.prog 61 #[.pointer (some ⟨gc,0,none⟩),.pointer (some ⟨b,0,none⟩)] w (RPost RcRel 29 w g A n c l gc b 38 zRec 0 (rRc l s)):=by
 have gl:=hc.rd.blk.lt
 have bl:=D.blk.lt
 have HR:=Lib.hid (show rRc l s=rBody 12 l s0 by unfold rRc;rw[hx])
 have hI:=rcInt w g A n c l s gc b 38 zRec 0 hc hs (D.at_ D.blk 0 [.int .i64 0] rfl)
 rw[hx]at hI
 rw[HR.out,rBody_12]
 clear hx
 go_enter Tryz.func61,Tryz.ntmps61
 go_wp2_with fail
 refine hI.mono ?_
 rintro e w0 ⟨h0,t0,⟨e0,rfl,v0,l0,k0,⟨rfl,-⟩⟩|⟨e0,rfl,cs0,l0,k0⟩⟩
 rotate_left
 · go_wp2
   exact⟨rfl,RPost.bad (s':=s0) ((rTwo_stk (mk:=fun _ _=>()) rSp_stk (rLs_stk _)) l _ e0) e0 h0 t0 l0 k0⟩
 clear l0 hI
 replace k0:Blk w0 b 38 #[.int .i64 12,.int .i64 0,.int .i64 0,.int .i64 0,.int .i64 0,.int .i64 0,.int .i64 0,.int .i64 0,.int .i64 0,.int .i64 0,.bool false,.int .i64 0,.float .f64 0,.slice none 0 0,.slice none 0 0,.slice none 0 0,.slice none 0 0,.int .i64 0,.int .i64 0,.float .f64 0,.float .f64 0,.int .i64 0,.int .i64 0,.int .i64 0,.int .i64 0,.int .i64 0,.int .i64 0,.slice none 0 0,.slice none 0 0]:=k0
 have c0:=cl (k0.cell 0)
 go_wp2_with fail
 refine(rcStamp w0 g A n c l s0 gc b 38 _ 4 h0 e0 (D.at_ k0 4 [.int .i64 0,.int .i64 0,.int .i64 0] rfl)).mono ?_
 rintro e w1 ⟨h1,t1,⟨e1,rfl,v1,l1,k1,n1⟩|⟨e1,rfl,cs1,l1,k1⟩⟩
 rotate_left
 · go_wp2
   exact⟨rfl,RPost.bad (s':=(rSp l s0).2) ((rLs_stk _) l _ e1) e1 h1 (t0.trans t1) (l1.trans rfl) k1⟩
 obtain⟨rfl,o1⟩:=n1
 replace k1:Blk w1 b 38 #[.int .i64 12,.int .i64 0,.int .i64 0,.int .i64 0,.int .i64 (rSp l s0).1.w,.int .i64 (rSp l s0).1.l,.int .i64 (rSp l s0).1.n,.int .i64 0,.int .i64 0,.int .i64 0,.bool false,.int .i64 0,.float .f64 0,.slice none 0 0,.slice none 0 0,.slice none 0 0,.slice none 0 0,.int .i64 0,.int .i64 0,.float .f64 0,.float .f64 0,.int .i64 0,.int .i64 0,.int .i64 0,.int .i64 0,.int .i64 0,.int .i64 0,.slice none 0 0,.slice none 0 0]:=k1
 clear l1
 go_wp2_with fail
 refine(rlPair w1 g A n c l (rSp l s0).2 gc b 38 _ 16 h1 e1 (D.at_ k1 16 [.slice none 0 0] rfl)).mono ?_
 rintro e w2 ⟨h2,t2,⟨e2,rfl,v2,l2,k2,n2⟩|⟨e2,rfl,cs2,l2,k2⟩⟩
 rotate_left
 · go_wp2
   exact⟨rfl,RPost.bad (s':=(rLs rWt l (rSp l s0).2).2) rfl e2 h2 ((t0.trans t1).trans t2) (l2.trans rfl) k2⟩
 have q2:=n2
 obtain⟨u2,rfl,-⟩:=q2
 replace k2:Blk w2 b 38 #[.int .i64 12,.int .i64 0,.int .i64 0,.int .i64 0,.int .i64 (rSp l s0).1.w,.int .i64 (rSp l s0).1.l,.int .i64 (rSp l s0).1.n,.int .i64 0,.int .i64 0,.int .i64 0,.bool false,.int .i64 0,.float .f64 0,.slice none 0 0,.slice none 0 0,.slice none 0 0,u2,.int .i64 0,.int .i64 0,.float .f64 0,.float .f64 0,.int .i64 0,.int .i64 0,.int .i64 0,.int .i64 0,.int .i64 0,.int .i64 0,.slice none 0 0,.slice none 0 0]:=k2
 clear l2
 go_wp2
 go_end0
 have hgl:g<w2.heap.size:=h2.rd.blk.lt
 obtain⟨x2,hx2,P2,m2,d2,rfl,y2,z2,o2⟩:=n2.on (LsRel.kept WtRel.kept) (LsRel.mono WtRel.mono) (Two2.refl _ g b) (by have:=t0.size;have:=t1.size;have:=t2.size;omega) (by have:=t0.size;have:=t1.size;have:=t2.size;omega) (lo:=w.heap.size) (hi:=w2.heap.size) (by have:=t0.size;have:=t1.size;have:=t2.size;omega) (by have:=t0.size;have:=t1.size;have:=t2.size;omega)
 obtain rfl:u2=_:=List.singleton_inj.1 hx2
 have kF:Blk w2 b 38 (put zRec 0 [.int .i64 12,.int .i64 0,.int .i64 0,.int .i64 0,.int .i64 (rSp l s0).1.w,.int .i64 (rSp l s0).1.l,.int .i64 (rSp l s0).1.n,.int .i64 0,.int .i64 0,.int .i64 0,.bool false,.int .i64 0,.float .f64 0,.slice none 0 0,.slice none 0 0,.slice none 0 0,.slice P2 m2 d2,.int .i64 0,.int .i64 0,.float .f64 0,.float .f64 0,.int .i64 0,.int .i64 0,.int .i64 0,.int .i64 0,.int .i64 0,.int .i64 0,.slice none 0 0,.slice none 0 0]):=by rw[put_all _ zRec (by rfl)];exact k2
 have okF:Rc.ok ⟨12,zTx,(rSp l s0).1,zSp,false,0,0,[],[],[],(rLs rWt l (rSp l s0).2).1,zSt⟩:=⟨(by unfold i64ok;omega:i64ok 12),zTx_ok,o1,zSp_ok,i64z,(by show 0<_;omega),zRg_ok,zSp_ok,zSp_ok⟩
 have loF:RcLo (only (rng w.heap.size w2.heap.size) w2) w2.heap.size ⟨12,zTx,(rSp l s0).1,zSp,false,0,0,[],[],[],(rLs rWt l (rSp l s0).2).1,zSt⟩ ⟨Hd.nil,Hd.nil,Hd.nil,⟨P2,m2,d2⟩,Hd.nil,Hd.nil⟩:=⟨Sl.nil,Sl.nil,Sl.nil,o2,Sl.nil,Sl.nil,(Nat.zero_le _),(Nat.zero_le _),(Nat.zero_le _),(Nat.le_trans y2 z2),(Nat.zero_le _),(Nat.zero_le _)⟩
 exact⟨h2,((t0.trans t1).trans t2),.inl ⟨e2,rfl,_,rfl,kF,⟨⟨Hd.nil,Hd.nil,Hd.nil,⟨P2,m2,d2⟩,Hd.nil,Hd.nil⟩,rfl,okF,⟨capZ,capZ,capZ,⟨y2,z2⟩,capZ,capZ⟩,loF⟩⟩⟩
theorem walkR_3K (w:World) (g:Nat) (A:Option Addr) (n c:Nat) (l:List UInt8) (s s0:RS) (gc b:Nat) (hc:CR w g A n c l s gc) (hs:s.e=0) (D:Dst w A n g gc b 38 zRec 0 []) (hx:rInt l s=(3,s0)):
 Calls Tryz.prog 61 #[.pointer (some ⟨gc,0,none⟩),.pointer (some ⟨b,0,none⟩)] w (RPost RcRel 29 w g A n c l gc b 38 zRec 0 (rRc l s)):=by
 have gl:=hc.rd.blk.lt
 have bl:=D.blk.lt
 have HR:=Lib.hid (show rRc l s=rBody 3 l s0 by unfold rRc;rw[hx])
 have hI:=rcInt w g A n c l s gc b 38 zRec 0 hc hs (D.at_ D.blk 0 [.int .i64 0] rfl)
 rw[hx]at hI
 rw[HR.out,rBody_3]
 clear hx
 go_enter Tryz.func61,Tryz.ntmps61
 go_wp2_with fail
 refine hI.mono ?_
 rintro e w0 ⟨h0,t0,⟨e0,rfl,v0,l0,k0,⟨rfl,-⟩⟩|⟨e0,rfl,cs0,l0,k0⟩⟩
 rotate_left
 · go_wp2
   exact⟨rfl,RPost.bad (s':=s0) (rTwo_stk (mk:=fun _ _=>()) rPn_stk (rLs_stk _) l _ e0) e0 h0 t0 l0 k0⟩
 clear l0 hI
 replace k0:Blk w0 b 38 #[.int .i64 3,.int .i64 0,.int .i64 0,.int .i64 0,.int .i64 0,.int .i64 0,.int .i64 0,.int .i64 0,.int .i64 0,.int .i64 0,.bool false,.int .i64 0,.float .f64 0,.slice none 0 0,.slice none 0 0,.slice none 0 0,.slice none 0 0,.int .i64 0,.int .i64 0,.float .f64 0,.float .f64 0,.int .i64 0,.int .i64 0,.int .i64 0,.int .i64 0,.int .i64 0,.int .i64 0,.slice none 0 0,.slice none 0 0]:=k0
 have c0:=cl (k0.cell 0)
 go_wp2_with fail
 refine wp_region_held_drew (S:=fun w'=>Below w0.heap.size w0 w') (by kernel_rfl) (Below.refl _ _).drew (fun hHeld=>?_)
 refine tc 0 32 ?_
 go_frame
 refine tc 1 33 ?_
 go_frame
 refine tc 2 34 ?_
 go_frame
 refine tl 3 35 rfl (yieldsIf_load_mid (by rfl) _ _ rfl b 1 rfl [.int .i64 0,.int .i64 0,.int .i64 0] _ (fun W hSw=>(k0.below hSw k0.lt).range 1 _ (three_of rfl rfl rfl)) rfl rfl (by kernel_rfl)) ?_
 go_frame
 refine tc 4 36 ?_
 go_frame
 refine tc 5 37 ?_
 go_frame
 refine tc 6 38 ?_
 go_frame
 refine tl 7 39 rfl (yieldsIf_load_mid (by rfl) _ _ rfl b 4 rfl [.int .i64 0,.int .i64 0,.int .i64 0] _ (fun W hSw=>(k0.below hSw k0.lt).range 4 _ (three_of rfl rfl rfl)) rfl rfl (by kernel_rfl)) ?_
 go_frame
 refine tc 8 40 ?_
 go_frame
 refine tc 9 41 ?_
 go_frame
 refine tc 10 42 ?_
 go_frame
 refine ts 11 43 rfl (v:=(.slice none 0 0)) (fun W hSw=>by have z:W.cell? ⟨b,13,none⟩=some (.slice none 0 0):=(k0.below hSw k0.lt).cell 13;clear hSw;go_simp) ?_
 go_frame
 refine tc 12 44 ?_
 go_frame
 refine tc 13 45 ?_
 go_frame
 refine tc 14 46 ?_
 go_frame
 refine ts 15 47 rfl (v:=(.slice none 0 0)) (fun W hSw=>by have z:W.cell? ⟨b,14,none⟩=some (.slice none 0 0):=(k0.below hSw k0.lt).cell 14;clear hSw;go_simp) ?_
 go_frame
 refine tc 16 48 ?_
 go_frame
 have hbA:Below w0.heap.size w0 (w0.drew.alloc (.cells zeroPn 96)):=(Below.refl _ _).drew.alloc (Nat.le_refl _) _
 refine wpAnyH_alloc (i:=17) (by kernel_rfl) rfl rfl _ rfl (.cells zeroPn 96) (alloc_pn _ _ rfl _) hbA ?_
 go_frame
 have i13:=Blk.new w0.drew 96 zeroPn
 have hbB:Below w0.heap.size w0 ((w0.drew.alloc (.cells zeroPn 96)).setRow w0.drew.heap.size zeroPn):=below_setRow hbA (Nat.le_refl _) _
 refine wpAnyH_store_rowE (i:=18) (by kernel_rfl) rfl rfl _ _ _ rfl w0.drew.heap.size zeroPn (by kernel_rfl) (by kernel_rfl) _ zeroPn i13 (by kernel_rfl) (by kernel_rfl) (by kernel_rfl) hbB ?_
 intro w5 hw5
 go_frame
 refine td ?_
 have pB:Blk w5 w0.heap.size 96 zeroPn:=by rw[hw5];exact i13.setRow _
 rw[←hw5]at hbB
 have h5:=h0.below hbB
 have S5:=Lib.hid hbB.size
 have k5:=k0.below hbB k0.lt
 have t5:=t0.trans (Two2.ofBelow g b hbB)
 have fx:=h0.fix (D.at_ k0 0 [] rfl)
 have hz0:=t0.size
 have Dp:Dst w5 A n g gc w0.heap.size 96 zeroPn 0 ([.int .i64 0,.int .i64 0,.int .i64 0]++([.int .i64 0,.int .i64 0,.int .i64 0]++([.slice none 0 0]++([.slice none 0 0])))):=⟨pB,has_of rfl,by have:=fx.gl;omega,by have:=fx.cl;omega,fun a ha hn=>by have:=fx.al a ha hn;omega⟩
 have hP:=rcPending w5 g A n c l s0 gc w0.heap.size 96 zeroPn 0 h5 e0 Dp
 have hgw:w.heap.size≤w0.heap.size:=by omega
 have hbg:b≠w0.heap.size:=by have:=fx.bl;omega
 clear hw5 hbA i13 hHeld k0 c0 hbB Dp pB h5 h0 t0
 go_wp2_with fail
 refine hP.mono ?_
 rintro e w6 ⟨h6,t6,⟨e6,rfl,v6,l6,p6,n6⟩|⟨e6,rfl,cs6,l6,p6⟩⟩
 rotate_left
 · have k6:Blk w6 b 38 #[.int .i64 3,.int .i64 0,.int .i64 0,.int .i64 0,.int .i64 0,.int .i64 0,.int .i64 0,.int .i64 0,.int .i64 0,.int .i64 0,.bool false,.int .i64 0,.float .f64 0,.slice none 0 0,.slice none 0 0,.slice none 0 0,.slice none 0 0,.int .i64 0,.int .i64 0,.float .f64 0,.float .f64 0,.int .i64 0,.int .i64 0,.int .i64 0,.int .i64 0,.int .i64 0,.int .i64 0,.slice none 0 0,.slice none 0 0]:=(t6.block b k5.lt D.ng hbg).trans k5
   go_wp2
   exact⟨rfl,RPost.bad (s':=(rPn l s0).2) (rLs_stk _ l _ e6) e6 h6 (t5.beside t6 hgw) (by rfl) k6⟩
 have k6:Blk w6 b 38 #[.int .i64 3,.int .i64 0,.int .i64 0,.int .i64 0,.int .i64 0,.int .i64 0,.int .i64 0,.int .i64 0,.int .i64 0,.int .i64 0,.bool false,.int .i64 0,.float .f64 0,.slice none 0 0,.slice none 0 0,.slice none 0 0,.slice none 0 0,.int .i64 0,.int .i64 0,.float .f64 0,.float .f64 0,.int .i64 0,.int .i64 0,.int .i64 0,.int .i64 0,.int .i64 0,.int .i64 0,.slice none 0 0,.slice none 0 0]:=(t6.block b k5.lt D.ng hbg).trans k5
 have q6:=n6
 obtain⟨ra,qa,rfl,-,-,⟨P1,m1,d1,rfl,-⟩,P2,m2,d2,rfl,-⟩:=q6
 replace p6:Blk w6 w0.heap.size 96 #[.int .i64 (rPn l s0).1.t.c,.int .i64 (rPn l s0).1.t.l,.int .i64 (rPn l s0).1.t.s,.int .i64 (rPn l s0).1.s.w,.int .i64 (rPn l s0).1.s.l,.int .i64 (rPn l s0).1.s.n,(.slice P1 m1 d1),(.slice P2 m2 d2)]:=by simpa only[put,List.setIfInBounds_toArray,List.set_cons_succ,List.set_cons_zero,Nat.reduceAdd] using p6
 have t56:=t5.beside t6 hgw
 have b0:=cl (p6.cell 0)
 have b1:=cl (p6.cell 1)
 have b2:=cl (p6.cell 2)
 have b3:=cl (p6.cell 3)
 have b4:=cl (p6.cell 4)
 have b5:=cl (p6.cell 5)
 have b6:=cl (p6.cell 6)
 have b7:=cl (p6.cell 7)
 have H6:=Lib.hid h6
 clear h6 t5 t6 k5 hP l6
 go_wp2_with (first
  |(guard_target=~ wpList _ _ _ _ _ _;refine wpList_store_mid rfl _ _ _ rfl b 1 #[.int .i64 (rPn l s0).1.t.c,.int .i64 (rPn l s0).1.t.l,.int .i64 (rPn l s0).1.t.s] rfl rfl (k6.there 1 3 (by simp)) (by kernel_rfl) (by kernel_rfl) ?_
    obtain⟨WA,hWA⟩:∃W:World,W=w6.setCells b 1 [.int .i64 (rPn l s0).1.t.c,.int .i64 (rPn l s0).1.t.l,.int .i64 (rPn l s0).1.t.s]:=⟨_,rfl⟩
    have kWA:Blk WA b 38 #[.int .i64 3,.int .i64 (rPn l s0).1.t.c,.int .i64 (rPn l s0).1.t.l,.int .i64 (rPn l s0).1.t.s,.int .i64 0,.int .i64 0,.int .i64 0,.int .i64 0,.int .i64 0,.int .i64 0,.bool false,.int .i64 0,.float .f64 0,.slice none 0 0,.slice none 0 0,.slice none 0 0,.slice none 0 0,.int .i64 0,.int .i64 0,.float .f64 0,.float .f64 0,.int .i64 0,.int .i64 0,.int .i64 0,.int .i64 0,.int .i64 0,.int .i64 0,.slice none 0 0,.slice none 0 0]:=by rw[hWA];exact k6.puts _ _ _ 1
    have gWA:w6.grownBy WA (some b):=by rw[hWA];exact grown_puts b _ _ 1
    rw[show (w6.setCells b 1 (#[.int .i64 (rPn l s0).1.t.c,.int .i64 (rPn l s0).1.t.l,.int .i64 (rPn l s0).1.t.s]:Array Value).toList)=WA from hWA.symm]
    clear hWA)
  |(guard_target=~ wpList _ _ _ _ _ _;refine wpList_store_mid rfl _ _ _ rfl b 4 #[.int .i64 (rPn l s0).1.s.w,.int .i64 (rPn l s0).1.s.l,.int .i64 (rPn l s0).1.s.n] rfl rfl (kWA.there 4 3 (by simp)) (by kernel_rfl) (by kernel_rfl) ?_
    obtain⟨WB,hWB⟩:∃W:World,W=WA.setCells b 4 [.int .i64 (rPn l s0).1.s.w,.int .i64 (rPn l s0).1.s.l,.int .i64 (rPn l s0).1.s.n]:=⟨_,rfl⟩
    have kWB:Blk WB b 38 #[.int .i64 3,.int .i64 (rPn l s0).1.t.c,.int .i64 (rPn l s0).1.t.l,.int .i64 (rPn l s0).1.t.s,.int .i64 (rPn l s0).1.s.w,.int .i64 (rPn l s0).1.s.l,.int .i64 (rPn l s0).1.s.n,.int .i64 0,.int .i64 0,.int .i64 0,.bool false,.int .i64 0,.float .f64 0,.slice none 0 0,.slice none 0 0,.slice none 0 0,.slice none 0 0,.int .i64 0,.int .i64 0,.float .f64 0,.float .f64 0,.int .i64 0,.int .i64 0,.int .i64 0,.int .i64 0,.int .i64 0,.int .i64 0,.slice none 0 0,.slice none 0 0]:=by rw[hWB];exact kWA.puts _ _ _ 4
    have gWB:WA.grownBy WB (some b):=by rw[hWB];exact grown_puts b _ _ 4
    rw[show (WA.setCells b 4 (#[.int .i64 (rPn l s0).1.s.w,.int .i64 (rPn l s0).1.s.l,.int .i64 (rPn l s0).1.s.n]:Array Value).toList)=WB from hWB.symm]
    clear hWB
    have e13:=cl (kWB.cell 13)
    have e14:=cl (kWB.cell 14)
    have f13:WB.frozen? ⟨b,13,none⟩=false:=kWB.frozen 13
    have f14:WB.frozen? ⟨b,14,none⟩=false:=kWB.frozen 14
    skip))
 have k7:Blk ((WB.setCell ⟨b,13,none⟩ (.slice P1 m1 d1)).setCell ⟨b,14,none⟩ (.slice P2 m2 d2)) b 38 #[.int .i64 3,.int .i64 (rPn l s0).1.t.c,.int .i64 (rPn l s0).1.t.l,.int .i64 (rPn l s0).1.t.s,.int .i64 (rPn l s0).1.s.w,.int .i64 (rPn l s0).1.s.l,.int .i64 (rPn l s0).1.s.n,.int .i64 0,.int .i64 0,.int .i64 0,.bool false,.int .i64 0,.float .f64 0,.slice P1 m1 d1,.slice P2 m2 d2,.slice none 0 0,.slice none 0 0,.int .i64 0,.int .i64 0,.float .f64 0,.float .f64 0,.int .i64 0,.int .i64 0,.int .i64 0,.int .i64 0,.int .i64 0,.int .i64 0,.slice none 0 0,.slice none 0 0]:=(kWB.set_ 13 (.slice P1 m1 d1)).set_ 14 (.slice P2 m2 d2)
 have g7:=(gWA.trans gWB).trans ((grown_set WB b 13 (.slice P1 m1 d1)).trans (grown_set (WB.setCell ⟨b,13,none⟩ (.slice P1 m1 d1)) b 14 (.slice P2 m2 d2)))
 have h7:=H6.out.laid g7 D.ng D.nc D.ap
 have t67:=Two2.right g7 g
 have t7:=t56.trans t67
 generalize (WB.setCell ⟨b,13,none⟩ (.slice P1 m1 d1)).setCell ⟨b,14,none⟩ (.slice P2 m2 d2)=w7 at*
 refine(rlInt w7 g A n c l (rPn l s0).2 gc b 38 _ 15 h7 e6 (D.at_ k7 15 [.slice none 0 0] rfl)).mono ?_
 rintro e w8 ⟨h8,t8,⟨e8,rfl,v8,l8,k8,n8⟩|⟨e8,rfl,cs8,l8,k8⟩⟩
 rotate_left
 · go_wp2
   exact⟨rfl,RPost.bad (s':=(rLs rInt l (rPn l s0).2).2) rfl e8 h8 (t7.trans t8) (l8.trans rfl) k8⟩
 have q8:=n8
 obtain⟨pa,rfl,-⟩:=q8
 replace k8:Blk w8 b 38 #[.int .i64 3,.int .i64 (rPn l s0).1.t.c,.int .i64 (rPn l s0).1.t.l,.int .i64 (rPn l s0).1.t.s,.int .i64 (rPn l s0).1.s.w,.int .i64 (rPn l s0).1.s.l,.int .i64 (rPn l s0).1.s.n,.int .i64 0,.int .i64 0,.int .i64 0,.bool false,.int .i64 0,.float .f64 0,.slice P1 m1 d1,.slice P2 m2 d2,pa,.slice none 0 0,.int .i64 0,.int .i64 0,.float .f64 0,.float .f64 0,.int .i64 0,.int .i64 0,.int .i64 0,.int .i64 0,.int .i64 0,.int .i64 0,.slice none 0 0,.slice none 0 0]:=k8
 go_wp2
 go_end0
 have s5:w0.heap.size≤w5.heap.size:=S5.out
 obtain⟨x1,x2,hx,ok1,ok2,⟨P1',m1',d1',ex1,y1,z1,o1⟩,P2',m2',d2',ex2,y2,z2,o2⟩:=n6.on PnRel.kept PnRel.mono (t67.trans t8) (by have:=t7.size;have:=t8.size;have:=t56.size;have:=t67.size;have:=fx.gl;have:=fx.bl;have:=s5;omega) (by have:=t7.size;have:=t8.size;have:=t56.size;have:=t67.size;have:=fx.gl;have:=fx.bl;have:=s5;omega) (lo:=w.heap.size) (hi:=w8.heap.size) (by have:=t7.size;have:=t8.size;have:=t56.size;have:=t67.size;have:=fx.gl;have:=fx.bl;have:=s5;omega) (by have:=t7.size;have:=t8.size;have:=t56.size;have:=t67.size;have:=fx.gl;have:=fx.bl;omega)
 simp only[List.cons.injEq,and_true,true_and]at hx
 obtain⟨rfl,rfl⟩:=hx
 cases ex1
 cases ex2
 obtain⟨x3,hx3,P3,m3,d3,rfl,y3,z3,o3⟩:=n8.on (LsRel.kept NmRel.kept) (LsRel.mono NmRel.mono) (Two2.refl _ g b) (by have:=t7.size;have:=t8.size;have:=t56.size;have:=t67.size;have:=fx.gl;have:=fx.bl;omega) (by have:=t7.size;have:=t8.size;have:=t56.size;have:=t67.size;have:=fx.gl;have:=fx.bl;omega) (lo:=w.heap.size) (hi:=w8.heap.size) (by have:=t7.size;have:=t8.size;have:=t56.size;have:=t67.size;have:=fx.gl;have:=fx.bl;omega) (by have:=t7.size;have:=t8.size;have:=t56.size;have:=t67.size;have:=fx.gl;have:=fx.bl;omega)
 obtain rfl:pa=_:=List.singleton_inj.1 hx3
 have kF:Blk w8 b 38 (put zRec 0 [.int .i64 3,.int .i64 (rPn l s0).1.t.c,.int .i64 (rPn l s0).1.t.l,.int .i64 (rPn l s0).1.t.s,.int .i64 (rPn l s0).1.s.w,.int .i64 (rPn l s0).1.s.l,.int .i64 (rPn l s0).1.s.n,.int .i64 0,.int .i64 0,.int .i64 0,.bool false,.int .i64 0,.float .f64 0,.slice P1 m1 d1,.slice P2 m2 d2,.slice P3 m3 d3,.slice none 0 0,.int .i64 0,.int .i64 0,.float .f64 0,.float .f64 0,.int .i64 0,.int .i64 0,.int .i64 0,.int .i64 0,.int .i64 0,.int .i64 0,.slice none 0 0,.slice none 0 0]):=by rw[put_all _ zRec (by rfl)];exact k8
 have okF:Rc.ok ⟨3,(rPn l s0).1.t,(rPn l s0).1.s,zSp,false,0,0,(rPn l s0).1.r,(rPn l s0).1.w,(rLs rInt l (rPn l s0).2).1,[],zSt⟩:=⟨(by unfold i64ok;omega:i64ok 3),ok1,ok2,zSp_ok,i64z,(by show 0<_;omega),zRg_ok,zSp_ok,zSp_ok⟩
 have loF:RcLo (only (rng w.heap.size w8.heap.size) w8) w8.heap.size ⟨3,(rPn l s0).1.t,(rPn l s0).1.s,zSp,false,0,0,(rPn l s0).1.r,(rPn l s0).1.w,(rLs rInt l (rPn l s0).2).1,[],zSt⟩ ⟨⟨P1,m1,d1⟩,⟨P2,m2,d2⟩,⟨P3,m3,d3⟩,Hd.nil,Hd.nil,Hd.nil⟩:=⟨o1,o2,o3,Sl.nil,Sl.nil,Sl.nil,Nat.le_trans y1 z1,Nat.le_trans y2 z2,Nat.le_trans y3 z3,Nat.zero_le _,Nat.zero_le _,Nat.zero_le _⟩
 exact⟨h8,t7.trans t8,.inl ⟨e8,rfl,_,rfl,kF,⟨⟨⟨P1,m1,d1⟩,⟨P2,m2,d2⟩,⟨P3,m3,d3⟩,Hd.nil,Hd.nil,Hd.nil⟩,rfl,okF,⟨⟨y1,z1⟩,⟨y2,z2⟩,⟨y3,z3⟩,capZ,capZ,capZ⟩,loF⟩⟩⟩
theorem rBody_o (k:Int) (l:List UInt8) (s0:RS) (hk:kindB k=false):rBody k l s0=(⟨k,zTx,zSp,zSp,false,0,0,[],[],[],[],zSt⟩,s0):=by
 unfold kindB at hk
 rw[decide_eq_false_iff_not]at hk
 unfold rBody
 rw[if_neg (by omega),if_neg (by omega),if_neg (by omega),if_neg (by omega),if_neg (by omega),if_neg (by omega),if_neg (by omega),if_neg (by omega),if_neg (by omega),if_neg (by omega)]
theorem walkR_oK (w:World) (g:Nat) (A:Option Addr) (n c:Nat) (l:List UInt8) (s s0:RS) (gc b:Nat) (k:Int) (hc:CR w g A n c l s gc) (hs:s.e=0) (D:Dst w A n g gc b 38 zRec 0 []) (hx:rInt l s=(k,s0)) (hk:kindB k=false):
 Calls Tryz.prog 61 #[.pointer (some ⟨gc,0,none⟩),.pointer (some ⟨b,0,none⟩)] w (RPost RcRel 29 w g A n c l gc b 38 zRec 0 (rRc l s)):=by
 have HR:=Lib.hid (show rRc l s=rBody k l s0 by unfold rRc;rw[hx])
 have hI:=rcInt w g A n c l s gc b 38 zRec 0 hc hs (D.at_ D.blk 0 [.int .i64 0] rfl)
 have hki:=rInt_ok l s
 rw[hx]at hI hki
 rw[HR.out,rBody_o k l s0 hk]
 have hq:∀j:Int,1≤j→j≤12→(k==j)=false:=fun j h1 h2=>by
  unfold kindB at hk
  rw[decide_eq_false_iff_not]at hk
  simp;omega
 have b1:=hq 1 (by omega) (by omega)
 have b2:=hq 2 (by omega) (by omega)
 have b3:=hq 3 (by omega) (by omega)
 have b4:=hq 4 (by omega) (by omega)
 have b5:=hq 5 (by omega) (by omega)
 have b6:=hq 6 (by omega) (by omega)
 have b7:=hq 7 (by omega) (by omega)
 have b8:=hq 8 (by omega) (by omega)
 have b9:=hq 9 (by omega) (by omega)
 have b10:=hq 10 (by omega) (by omega)
 have b11:=hq 11 (by omega) (by omega)
 have b12:=hq 12 (by omega) (by omega)
 clear hx hk hq
 go_enter Tryz.func61,Tryz.ntmps61
 go_wp2_with fail
 refine hI.mono ?_
 rintro e w0 ⟨h0,t0,⟨e0,rfl,v0,l0,k0,⟨rfl,-⟩⟩|⟨e0,rfl,cs0,l0,k0⟩⟩
 rotate_left
 · go_wp2
   exact⟨rfl,RPost.bad (s':=s0) rfl e0 h0 t0 l0 k0⟩
 clear l0 hI
 replace k0:Blk w0 b 38 #[.int .i64 k,.int .i64 0,.int .i64 0,.int .i64 0,.int .i64 0,.int .i64 0,.int .i64 0,.int .i64 0,.int .i64 0,.int .i64 0,.bool false,.int .i64 0,.float .f64 0,.slice none 0 0,.slice none 0 0,.slice none 0 0,.slice none 0 0,.int .i64 0,.int .i64 0,.float .f64 0,.float .f64 0,.int .i64 0,.int .i64 0,.int .i64 0,.int .i64 0,.int .i64 0,.int .i64 0,.slice none 0 0,.slice none 0 0]:=k0
 have c0:=cl (k0.cell 0)
 go_wp2
 go_end0
 have kF:Blk w0 b 38 (put zRec 0 [.int .i64 k,.int .i64 0,.int .i64 0,.int .i64 0,.int .i64 0,.int .i64 0,.int .i64 0,.int .i64 0,.int .i64 0,.int .i64 0,.bool false,.int .i64 0,.float .f64 0,.slice none 0 0,.slice none 0 0,.slice none 0 0,.slice none 0 0,.int .i64 0,.int .i64 0,.float .f64 0,.float .f64 0,.int .i64 0,.int .i64 0,.int .i64 0,.int .i64 0,.int .i64 0,.int .i64 0,.slice none 0 0,.slice none 0 0]):=by rw[put_all _ zRec (by rfl)];exact k0
 have okF:Rc.ok ⟨k,zTx,zSp,zSp,false,0,0,[],[],[],[],zSt⟩:=⟨hki,zTx_ok,zSp_ok,zSp_ok,i64z,(by show 0<_;omega),zRg_ok,zSp_ok,zSp_ok⟩
 have loF:RcLo (only (rng w.heap.size w0.heap.size) w0) w0.heap.size ⟨k,zTx,zSp,zSp,false,0,0,[],[],[],[],zSt⟩ ⟨Hd.nil,Hd.nil,Hd.nil,Hd.nil,Hd.nil,Hd.nil⟩:=⟨Sl.nil,Sl.nil,Sl.nil,Sl.nil,Sl.nil,Sl.nil,Nat.zero_le _,Nat.zero_le _,Nat.zero_le _,Nat.zero_le _,Nat.zero_le _,Nat.zero_le _⟩
 exact⟨h0,t0,.inl ⟨e0,rfl,_,rfl,kF,⟨⟨Hd.nil,Hd.nil,Hd.nil,Hd.nil,Hd.nil,Hd.nil⟩,rfl,okF,⟨capZ,capZ,capZ,capZ,capZ,capZ⟩,loF⟩⟩⟩
theorem walkR_any (w:World) (g:Nat) (A:Option Addr) (n c:Nat) (l:List UInt8) (s:RS) (gc b:Nat) (hc:CR w g A n c l s gc) (hs:s.e=0) (D:Dst w A n g gc b 38 zRec 0 []):
 Calls Tryz.prog 61 #[.pointer (some ⟨gc,0,none⟩),.pointer (some ⟨b,0,none⟩)] w (RPost RcRel 29 w g A n c l gc b 38 zRec 0 (rRc l s)):=by
 obtain⟨k,s0,hx⟩:∃k s0,rInt l s=(k,s0):=⟨_,_,rfl⟩
 by_cases hk:kindB k=true
 · unfold kindB at hk
   rw[decide_eq_true_eq]at hk
   have h12:k=1∨k=2∨k=3∨k=4∨k=5∨k=6∨k=7∨k=8∨k=9∨k=10∨k=11∨k=12:=by omega
   rcases h12 with rfl|rfl|rfl|rfl|rfl|rfl|rfl|rfl|rfl|rfl|rfl|rfl
   · exact walkR_1K w g A n c l s s0 gc b hc hs D hx
   · exact walkR_2K w g A n c l s s0 gc b hc hs D hx
   · exact walkR_3K w g A n c l s s0 gc b hc hs D hx
   · exact walkR_4K w g A n c l s s0 gc b hc hs D hx
   · exact walkR_5K w g A n c l s s0 gc b hc hs D hx
   · exact walkR_6K w g A n c l s s0 gc b hc hs D hx
   · exact walkR_7K w g A n c l s s0 gc b hc hs D hx
   · exact walkR_8K w g A n c l s s0 gc b hc hs D hx
   · exact walkR_9K w g A n c l s s0 gc b hc hs D hx
   · exact walkR_10K w g A n c l s s0 gc b hc hs D hx
   · exact walkR_11K w g A n c l s s0 gc b hc hs D hx
   · exact walkR_12K w g A n c l s s0 gc b hc hs D hx
 · exact walkR_oK w g A n c l s s0 gc b k hc hs D hx (by simpa using hk)
end Go.Proofs.YthdmanadhbpogaaGreat
