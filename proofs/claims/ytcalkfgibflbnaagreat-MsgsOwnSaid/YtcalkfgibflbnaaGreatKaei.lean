/- The walk of CopyMsg. -/
import Derived.Test.YtcalkfgibflbnaaGreatKaab
import Derived.Test.YtcalkfgibflbnaaGreatKacc
import Derived.Test.YtcalkfgibflbnaaGreatKacg
import Derived.Test.YtcalkfgibflbnaaGreatKaeh
namespace Go.Proofs.YtcalkfgibflbnaaGreat
set_option linter.unusedVariables false
open Go.RowKit Fl
attribute [local go_sem] run_store_float
theorem rg_info:(Tryz.prog.info? 35).map (fun i=>(i.zero,i.size,i.bytes))=some (some (.agg #[.int .i64 0,.int .i64 0,.float .f64 0,.float .f64 0]),4,32):=by kernel_rfl
theorem rc_info:(Tryz.prog.info? 69).map (fun i=>(i.zero,i.size,i.bytes))=some (some (.agg zeroRc),29,328):=by kernel_rfl
theorem rgOne (a:Rg):∀u∈a.cells,u.oneCell'=true:=by
 intro u hu
 simp only[Rg.cells,List.mem_cons,List.not_mem_nil,or_false]at hu
 rcases hu with rfl|rfl|rfl|rfl<;>rfl
theorem rangeAt_below {w w':World} {B b o:Nat} {cs:List Value} (h:w.rangeAt b o cs) (hb:Below B w w') (hlt:b<B):w'.rangeAt b o cs:=fun j v hj=>(hb.cell (p:=⟨b,o+j,none⟩) hlt).trans (h j v hj)
theorem rc_one (r:Rc) (g:Hds):∀u∈(r.vals g).toList,u.oneCell'=true:=by
 intro u hu
 simp only[List.mem_cons,List.not_mem_nil,or_false]at hu
 rcases hu with rfl|rfl|rfl|rfl|rfl|rfl|rfl|rfl|rfl|rfl|rfl|rfl|rfl|rfl|rfl|rfl|rfl|rfl|rfl|rfl|rfl|rfl|rfl|rfl|rfl|rfl|rfl|rfl|rfl<;>rfl
def CpLoopR (l:List Rc) (n:Nat) (w W:World) (t:TypeId) (p z:Array Value) (cells:Value→Array Value) (i:Value) (wr:World):Prop:=
 ∃(k:Nat) (v:Value),k≤n∧i=.int .i64 (k:Int)∧CpS w wr t p z (cells v)∧Single RmRel 69 29 W.heap.size wr v (l.take k)∧(∀j,w.heap.size+1+1+1≤j→j<W.heap.size→wr.heap[j]?=W.heap[j]?)∧W.heap.size≤wr.heap.size
structure LsO {α:Type} (f:α→List Value) (E size S p q:Nat) (w:World) (v:Value) (l:List α):Prop where
 own:OwnL f E size p w v l
 s:S≤p
 m:p≤q
 hi:q≤w.heap.size
 b:∀k,v.ownBlock=some k→k<q
section
variable {α:Type} {f:α→List Value} {ok:α→Prop} {E size S lo hi:Nat} {w w':World} {v:Value} {l:List α}
theorem LsO.keep (h:LsO f E size S lo hi w v l) (hb:∀j,S≤j→j<w.heap.size→w'.heap[j]?=w.heap[j]?) (hs:w.heap.size≤w'.heap.size):LsO f E size S lo hi w' v l:=by
 refine⟨⟨h.own.1,?_⟩,h.s,h.m,Nat.le_trans h.hi hs,h.b⟩
 rcases h.own.2 with hn|⟨g,cap,cur,rfl,hl,hg,rest⟩
 · exact .inl hn
 · exact .inr ⟨g,cap,cur,rfl,hl,(hb g (Nat.le_trans h.s hl) (Array.getElem?_eq_some_iff.1 hg).1).trans hg,rest⟩
theorem LsO.below (h:LsO f E size S lo hi w v l) (hb:Below w.heap.size w w'):LsO f E size S lo hi w' v l:=h.keep (fun j _ hj=>hb.block j hj) hb.size
theorem LsO.set (h:LsO f E size S lo hi w v l) {p:Addr} (hp:p.block<S) (u:Value):LsO f E size S lo hi (w.setCell p u) v l:=
 h.keep (fun j hj _=>Below.heap_setCell _ _ _ _ (by omega)) (by simp)
theorem LsO.up (hok:∀a∈l,ok a) (h:LsO f E size S lo hi w v l) (hk:0<size) (hf:∀a,(f a).length=size) {q:Option Nat} (hg:w.grownBy w' q) (hq:∀k,q=some k→k<lo∨hi≤k):HdRel (Flat f ok) size w' w'.heap.size v l:=
 OwnL.sl hk hf (h.own.kept hg (by
  cases e:v.ownBlock with
  |none=>exact .inl rfl
  |some k=>exact .inr fun e2=>by have:=hq k e2.symm;have:=h.b k e;have:=(h.own.lt k e).1;omega)) hok
theorem Lst.up {R:Rel α} (hR:R.Kept) (hRm:R.Mono) (h:Lst R size S w v l) {q:Option Nat} (hg:w.grownBy w' q) (hq:∀k,q=some k→k<S):HdRel R size w' w'.heap.size v l:=
 (h.keep hR hRm (fun j h1 h2=>hg.block j h2 (fun e=>by have:=hq j e.symm;omega)) hg.size).sl hR hRm
end
structure GrowM (S:Nat) (m:Mg) (g:Hm) (w:World):Prop where
 oa:OwnL keyCells 9 1 S w g.a.v m.ks
 oc:OwnL Wt.cells 61 4 S w g.c.v m.ws
 od:OwnL nmCells 3 1 S w g.d.v m.ps
 ga:∀W l A n c,w.grownBy W g.a.v.ownBlock→Sl KyRel 1 W W.heap.size A n l→MgLo W W.heap.size {m with ks:=l} {g with a:=⟨A,n,c⟩}
 gc:∀W l A n c,w.grownBy W g.c.v.ownBlock→Sl WtRel 4 W W.heap.size A n l→MgLo W W.heap.size {m with ws:=l} {g with c:=⟨A,n,c⟩}
 gd:∀W l A n c,w.grownBy W g.d.v.ownBlock→Sl NmRel 1 W W.heap.size A n l→MgLo W W.heap.size {m with ps:=l} {g with d:=⟨A,n,c⟩}
structure CopyMO (m:Mg) (w:World) (e:Ending) (w':World):Prop where
 res:∃g:Hm,e=.returned (.agg (m.vals g))∧g.caps∧MgLo w' w'.heap.size m g∧GrowM w.heap.size m g w'
 below:Below w.heap.size w w'
set_option maxRecDepth 100000 in
set_option maxHeartbeats 16000000 in
theorem copyMsgO_any (m:Mg) (h:Hm) (w:World) (i:MgLo w w.heap.size m h) (sm:MgSm m h) (pl:∀r∈m.rc,RcPl r):
 Calls Tryz.prog 10 #[.agg (m.vals h)] w (CopyMO m w):=by
 have k1:Blk ((w.alloc (.cells (m.vals h) 41)).alloc (.cells zeroMC 41)) w.heap.size 41 (m.vals h):=(Blk.new _ _ _).alloc _
 have K:CpS w (((w.alloc (.cells (m.vals h) 41)).alloc (.cells zeroMC 41)).alloc (.cells (m.arr (.slice h.a.A h.a.n h.a.c) (.slice h.b.A h.b.n h.b.c) (.slice h.c.A h.c.n h.c.c) (.slice h.d.A h.d.n h.d.c) (.slice h.e.A h.e.n h.e.c) (.slice h.f.A h.f.n h.f.c) (.slice h.g.A h.g.n h.g.c) (.slice h.i.A h.i.n h.i.c)) 41)) 41 (m.vals h) zeroMC (m.arr (.slice h.a.A h.a.n h.a.c) (.slice h.b.A h.b.n h.b.c) (.slice h.c.A h.c.n h.c.c) (.slice h.d.A h.d.n h.d.c) (.slice h.e.A h.e.n h.e.c) (.slice h.f.A h.f.n h.f.c) (.slice h.g.A h.g.n h.g.c) (.slice h.i.A h.i.n h.i.c)):=⟨k1.alloc _,(Blk.new' _ _ (by simp)).alloc _,Blk.new' _ _ (by simp),by go_grown,by simp⟩
 have n0:=cl (K.k1.cell 18)
 have HP:=Lib.hid pl
 clear pl
 go_enter Tryz.func10,Tryz.ntmps10
 go_wp2_with (first
  |(guard_target=~ wpList _ _ _ _ _ _;refine wpList_load_row rfl 41 _ rfl w.heap.size (by kernel_rfl) _ _ (0,0) _ k1 rfl rfl (by kernel_rfl) ?_)
  |(guard_target=~ wpList _ _ _ _ _ _;refine wpList_store_at rfl 41 _ _ rfl (w.heap.size+1+1) _ rfl rfl (by simp) _ _ (by kernel_rfl) (by kernel_rfl) (by kernel_rfl) ?_))
 clear k1 n0
 generalize (((w.alloc (.cells (m.vals h) 41)).alloc (.cells zeroMC 41)).alloc (.cells (m.arr (.slice h.a.A h.a.n h.a.c) (.slice h.b.A h.b.n h.b.c) (.slice h.c.A h.c.n h.c.c) (.slice h.d.A h.d.n h.d.c) (.slice h.e.A h.e.n h.e.c) (.slice h.f.A h.f.n h.f.c) (.slice h.g.A h.g.n h.g.c) (.slice h.i.A h.i.n h.i.c)) 41))=u0 at*
 refine(strings_any h.a.A h.a.n h.a.c m.ks _ (i.up K.kb).ks sm.a).mono ?_
 rintro e w1 ⟨v1,rfl,o1,hb1⟩
 obtain⟨A1,q1,rfl,hq1,hm1⟩:=o1.form
 have ks1:=K.ks
 replace K:=K.call hb1
 have L1:LsO keyCells 9 1 (w.heap.size+1+1+1) u0.heap.size w1.heap.size w1 (.slice A1 m.ks.length q1) m.ks:=⟨o1,ks1,hb1.size,Nat.le_refl _,fun k hk=>(o1.lt k hk).2⟩
 have z1:=cl (K.k3.cell 18)
 have f1:w1.frozen? ⟨w.heap.size+1+1,18,none⟩=false:=K.k3.frozen 18
 have n1:=cl (K.k1.cell 19)
 replace K:CpS w (w1.setCell ⟨w.heap.size+1+1,18,none⟩ (.slice A1 m.ks.length q1)) 41 (m.vals h) zeroMC (m.arr (.slice A1 m.ks.length q1) (.slice h.b.A h.b.n h.b.c) (.slice h.c.A h.c.n h.c.c) (.slice h.d.A h.d.n h.d.c) (.slice h.e.A h.e.n h.e.c) (.slice h.f.A h.f.n h.f.c) (.slice h.g.A h.g.n h.g.c) (.slice h.i.A h.i.n h.i.c)):=K.set 18 (.slice A1 m.ks.length q1)
 replace L1:=L1.set (p:=⟨w.heap.size+1+1,18,none⟩) (by simp only;omega) (.slice A1 m.ks.length q1)
 go_wp2_with fail
 generalize (w1.setCell ⟨w.heap.size+1+1,18,none⟩ (.slice A1 m.ks.length q1))=u1 at*
 clear z1 f1 n1 o1 hb1
 have D1:=L1.hi
 refine(copySn_any h.b.A h.b.n h.b.c m.sn _ (i.up K.kb).sn sm.b).mono ?_
 rintro e w2 ⟨v2,rfl,o2,hb2⟩
 obtain⟨A2,q2,rfl,hq2,hm2⟩:=o2.form
 have ks2:=K.ks
 replace K:=K.call hb2
 replace L1:=L1.below hb2
 have L2:LsO Sn.cells 104 7 (w.heap.size+1+1+1) u1.heap.size w2.heap.size w2 (.slice A2 m.sn.length q2) m.sn:=⟨o2,ks2,hb2.size,Nat.le_refl _,fun k hk=>(o2.lt k hk).2⟩
 have z2:=cl (K.k3.cell 19)
 have f2:w2.frozen? ⟨w.heap.size+1+1,19,none⟩=false:=K.k3.frozen 19
 have n2:=cl (K.k1.cell 20)
 replace K:CpS w (w2.setCell ⟨w.heap.size+1+1,19,none⟩ (.slice A2 m.sn.length q2)) 41 (m.vals h) zeroMC (m.arr (.slice A1 m.ks.length q1) (.slice A2 m.sn.length q2) (.slice h.c.A h.c.n h.c.c) (.slice h.d.A h.d.n h.d.c) (.slice h.e.A h.e.n h.e.c) (.slice h.f.A h.f.n h.f.c) (.slice h.g.A h.g.n h.g.c) (.slice h.i.A h.i.n h.i.c)):=K.set 19 (.slice A2 m.sn.length q2)
 replace L1:=L1.set (p:=⟨w.heap.size+1+1,19,none⟩) (by simp only;omega) (.slice A2 m.sn.length q2)
 replace L2:=L2.set (p:=⟨w.heap.size+1+1,19,none⟩) (by simp only;omega) (.slice A2 m.sn.length q2)
 go_wp2_with fail
 generalize (w2.setCell ⟨w.heap.size+1+1,19,none⟩ (.slice A2 m.sn.length q2))=u2 at*
 clear z2 f2 n2 o2 hb2
 have D2:=L2.hi
 refine(copyW_any h.c.A h.c.n h.c.c m.ws _ (i.up K.kb).ws sm.c).mono ?_
 rintro e w3 ⟨v3,rfl,o3,hb3⟩
 obtain⟨A3,q3,rfl,hq3,hm3⟩:=o3.form
 have ks3:=K.ks
 replace K:=K.call hb3
 replace L1:=L1.below hb3
 replace L2:=L2.below hb3
 have L3:LsO Wt.cells 61 4 (w.heap.size+1+1+1) u2.heap.size w3.heap.size w3 (.slice A3 m.ws.length q3) m.ws:=⟨o3,ks3,hb3.size,Nat.le_refl _,fun k hk=>(o3.lt k hk).2⟩
 have z3:=cl (K.k3.cell 20)
 have f3:w3.frozen? ⟨w.heap.size+1+1,20,none⟩=false:=K.k3.frozen 20
 have n3:=cl (K.k1.cell 21)
 replace K:CpS w (w3.setCell ⟨w.heap.size+1+1,20,none⟩ (.slice A3 m.ws.length q3)) 41 (m.vals h) zeroMC (m.arr (.slice A1 m.ks.length q1) (.slice A2 m.sn.length q2) (.slice A3 m.ws.length q3) (.slice h.d.A h.d.n h.d.c) (.slice h.e.A h.e.n h.e.c) (.slice h.f.A h.f.n h.f.c) (.slice h.g.A h.g.n h.g.c) (.slice h.i.A h.i.n h.i.c)):=K.set 20 (.slice A3 m.ws.length q3)
 replace L1:=L1.set (p:=⟨w.heap.size+1+1,20,none⟩) (by simp only;omega) (.slice A3 m.ws.length q3)
 replace L2:=L2.set (p:=⟨w.heap.size+1+1,20,none⟩) (by simp only;omega) (.slice A3 m.ws.length q3)
 replace L3:=L3.set (p:=⟨w.heap.size+1+1,20,none⟩) (by simp only;omega) (.slice A3 m.ws.length q3)
 go_wp2_with fail
 generalize (w3.setCell ⟨w.heap.size+1+1,20,none⟩ (.slice A3 m.ws.length q3))=u3 at*
 clear z3 f3 n3 o3 hb3
 have D3:=L3.hi
 refine(ints_any h.d.A h.d.n h.d.c m.ps _ (i.up K.kb).ps sm.d).mono ?_
 rintro e w4 ⟨v4,rfl,o4,hb4⟩
 obtain⟨A4,q4,rfl,hq4,hm4⟩:=o4.form
 have ks4:=K.ks
 replace K:=K.call hb4
 replace L1:=L1.below hb4
 replace L2:=L2.below hb4
 replace L3:=L3.below hb4
 have L4:LsO nmCells 3 1 (w.heap.size+1+1+1) u3.heap.size w4.heap.size w4 (.slice A4 m.ps.length q4) m.ps:=⟨o4,ks4,hb4.size,Nat.le_refl _,fun k hk=>(o4.lt k hk).2⟩
 have z4:=cl (K.k3.cell 21)
 have f4:w4.frozen? ⟨w.heap.size+1+1,21,none⟩=false:=K.k3.frozen 21
 have y4:=cl (K.k3.cell 22)
 have g4:w4.frozen? ⟨w.heap.size+1+1,22,none⟩=false:=K.k3.frozen 22
 replace K:CpS w (w4.setCell ⟨w.heap.size+1+1,21,none⟩ (.slice A4 m.ps.length q4)) 41 (m.vals h) zeroMC (m.arr (.slice A1 m.ks.length q1) (.slice A2 m.sn.length q2) (.slice A3 m.ws.length q3) (.slice A4 m.ps.length q4) (.slice h.e.A h.e.n h.e.c) (.slice h.f.A h.f.n h.f.c) (.slice h.g.A h.g.n h.g.c) (.slice h.i.A h.i.n h.i.c)):=K.set 21 (.slice A4 m.ps.length q4)
 replace L1:=L1.set (p:=⟨w.heap.size+1+1,21,none⟩) (by simp only;omega) (.slice A4 m.ps.length q4)
 replace L2:=L2.set (p:=⟨w.heap.size+1+1,21,none⟩) (by simp only;omega) (.slice A4 m.ps.length q4)
 replace L3:=L3.set (p:=⟨w.heap.size+1+1,21,none⟩) (by simp only;omega) (.slice A4 m.ps.length q4)
 replace L4:=L4.set (p:=⟨w.heap.size+1+1,21,none⟩) (by simp only;omega) (.slice A4 m.ps.length q4)
 replace K:CpS w ((w4.setCell ⟨w.heap.size+1+1,21,none⟩ (.slice A4 m.ps.length q4)).setCell ⟨w.heap.size+1+1,22,none⟩ (.slice none 0 0)) 41 (m.vals h) zeroMC (m.arr (.slice A1 m.ks.length q1) (.slice A2 m.sn.length q2) (.slice A3 m.ws.length q3) (.slice A4 m.ps.length q4) (.slice none 0 0) (.slice h.f.A h.f.n h.f.c) (.slice h.g.A h.g.n h.g.c) (.slice h.i.A h.i.n h.i.c)):=K.set 22 (.slice none 0 0)
 replace L1:=L1.set (p:=⟨w.heap.size+1+1,22,none⟩) (by simp only;omega) (.slice none 0 0)
 replace L2:=L2.set (p:=⟨w.heap.size+1+1,22,none⟩) (by simp only;omega) (.slice none 0 0)
 replace L3:=L3.set (p:=⟨w.heap.size+1+1,22,none⟩) (by simp only;omega) (.slice none 0 0)
 replace L4:=L4.set (p:=⟨w.heap.size+1+1,22,none⟩) (by simp only;omega) (.slice none 0 0)
 go_wp2_with fail
 generalize ((w4.setCell ⟨w.heap.size+1+1,21,none⟩ (.slice A4 m.ps.length q4)).setCell ⟨w.heap.size+1+1,22,none⟩ (.slice none 0 0))=u4 at*
 clear z4 f4 y4 g4 o4 hb4
 have D4:=L4.hi
 have hen:=sm.e
 have hfn:=sm.f
 obtain⟨i5,hi5,hz5,hz51,hz52⟩:=info_parts rg_info
 have hlr5:m.rs.length=h.e.n:=i.rs.1
 have hle5:m.rs.length≤h.e.n:=by omega
 have hge5:h.e.n≤m.rs.length:=by omega
 clear hlr5
 have hs5:=K.ks
 go_loopw [4] (fun i wr=>CpLoop Rg.cells 35 4 m.rs h.e.n w u4 41 (m.vals h) zeroMC (fun v=>(m.arr (.slice A1 m.ks.length q1) (.slice A2 m.sn.length q2) (.slice A3 m.ws.length q3) (.slice A4 m.ps.length q4) v (.slice h.f.A h.f.n h.f.c) (.slice h.g.A h.g.n h.g.c) (.slice h.i.A h.i.n h.i.c))) i wr) (fun i _=>h.e.n-(intOf i).toNat)
 case atStart=>exact⟨0,.slice none 0 0,by omega,rfl,K,OwnL.nil _,fun _ _ _=>rfl,Nat.le_refl _⟩
 clear K
 case round=>
  obtain⟨k,v5,hk,rfl,K,ho,hsame,hszw⟩:=hrel
  have hln:(m.rs.take k).length≤1000000:=by simp;omega
  obtain⟨A5,q5,rfl,hq5,hm5⟩:=ho.form
  have l1:=K.k1.lt
  have l3:=K.k3.lt
  have t1:=cl (K.k1.cell 22)
  by_cases hlt:k<h.e.n
  · have t3:=cl (K.k3.cell 22)
    have g3:wr.frozen? ⟨w.heap.size+1+1,22,none⟩=false:=K.k3.frozen 22
    obtain⟨ad,a,hA,ha,hbk,hok,c0,c1,c2,c3⟩:=(i.rs.below RgRel.kept K.kb).rg hlt
    rw[hA]at t1
    have hd1:decide ((k:Int)<(h.e.n:Int))=true:=by simp;omega
    have hk0:(0:Int)≤(k:Int):=by omega
    have hk1:(k:Int)<(h.e.n:Int):=by omega
    have HS:=Lib.hid (show m.rs.take (k+1)=m.rs.take k++[a] by rw[List.take_add_one,ha];rfl)
    have hbk2:(ad.add (k*4)).block<wr.heap.size:=Nat.lt_of_lt_of_le hbk K.kb.size
    clear ha hA
    generalize m.rs.take k=ks at*
    have hX:Below wr.heap.size wr (wr.alloc (.cells a.cells.toArray 35)).drew:=((Below.refl _ _).alloc (Nat.le_refl _) _).drew
    have hown0:=ho.below hX
    have hrd0:=(reads_new' wr 35 a.cells 4 rfl).drew
    go_wp2
    go_region_law (refine step_append_any _ rfl (.tmp 32) (.tmp 38) _ rfl u4.heap.size 35 i5 _ 4 32 Tryz.underlying31 hi5 hz5 hz51 hz52 rfl (by omega) (.slice A5 ks.length q5) _ (ks.flatMap Rg.cells) (by simp[Act.eval]) hown0 _ (some ⟨wr.heap.size,0,none⟩) 1 1 a.cells (by simp[Act.eval]) hrd0 (rgOne a) (by unfold maxLen;omega) (by omega) (by simp;omega) ?_;intro v5 w5 hown5 hg5 hat5;have e5:=(K.call hX).grown hg5 (fun k hk=>by have:=(ho.lt k hk).1;omega);have z5:=cl (e5.k3.cell 22);have f5:=e5.k3.frozen 22;obtain⟨A5,q5,rfl,hq5,hq5m⟩:=own_form hown5)
    all_goals
        have hp5:=(OwnL.push a hown5).set_far (p:=⟨w.heap.size+1+1,22,none⟩) (by simp only;omega) (.slice A5 (ks.length+1) q5)
        have e6:=e5.set 22 (.slice A5 (ks.length+1) q5)
        have hsame5:∀j,w.heap.size+1+1+1≤j→j<u4.heap.size→(w5.setCell ⟨w.heap.size+1+1,22,none⟩ (.slice A5 (ks.length+1) q5)).heap[j]?=u4.heap[j]?:=fun j hj hj2=>
         (Below.heap_setCell _ _ _ _ (by simp only;omega)).trans ((hg5.block j (by show j<(wr.alloc _).heap.size;rw[World.size_alloc];omega) (fun e=>by have:=(ho.lt j e.symm).1;omega)).trans ((hX.block j (by omega)).trans (hsame j hj hj2)))
        have hsz5:u4.heap.size≤(w5.setCell ⟨w.heap.size+1+1,22,none⟩ (.slice A5 (ks.length+1) q5)).heap.size:=by have:=hg5.size;have:=hX.size;simp at*;omega
        have HSM:=Lib.hid hsame5
        clear hsame hsame5
        go_wp2
        go_roundw
        case rel=>
         refine⟨k+1,_,by omega,by go_num,e6,?_,HSM.out,hsz5⟩
         rw[HS.out]
         exact hp5
        case measure=>simp[intOf];omega
  have hd1:decide ((k:Int)<(h.e.n:Int))=false:=by simp;omega
  rw[List.take_of_length_le (by omega)]at ho K
  replace L1:=L1.keep hsame hszw
  replace L2:=L2.keep hsame hszw
  replace L3:=L3.keep hsame hszw
  replace L4:=L4.keep hsame hszw
  have L5:LsO Rg.cells 35 4 (w.heap.size+1+1+1) u4.heap.size wr.heap.size wr (.slice A5 m.rs.length q5) m.rs:=⟨ho,hs5,hszw,Nat.le_refl _,fun k hk=>(ho.lt k hk).2⟩
  clear ho hsame hszw hle5 hge5 hs5 hi5 hz5 hz51 hz52
  have z6:=cl (K.k3.cell 23)
  have f6:wr.frozen? ⟨w.heap.size+1+1,23,none⟩=false:=K.k3.frozen 23
  replace K:CpS w (wr.setCell ⟨w.heap.size+1+1,23,none⟩ (.slice none 0 0)) 41 (m.vals h) zeroMC (m.arr (.slice A1 m.ks.length q1) (.slice A2 m.sn.length q2) (.slice A3 m.ws.length q3) (.slice A4 m.ps.length q4) (.slice A5 m.rs.length q5) (.slice none 0 0) (.slice h.g.A h.g.n h.g.c) (.slice h.i.A h.i.n h.i.c)):=K.set 23 (.slice none 0 0)
  replace L1:=L1.set (p:=⟨w.heap.size+1+1,23,none⟩) (by simp only;omega) (.slice none 0 0)
  replace L2:=L2.set (p:=⟨w.heap.size+1+1,23,none⟩) (by simp only;omega) (.slice none 0 0)
  replace L3:=L3.set (p:=⟨w.heap.size+1+1,23,none⟩) (by simp only;omega) (.slice none 0 0)
  replace L4:=L4.set (p:=⟨w.heap.size+1+1,23,none⟩) (by simp only;omega) (.slice none 0 0)
  replace L5:=L5.set (p:=⟨w.heap.size+1+1,23,none⟩) (by simp only;omega) (.slice none 0 0)
  go_wp2_with fail
  generalize (wr.setCell ⟨w.heap.size+1+1,23,none⟩ (.slice none 0 0))=u5 at*
  have D5:=L5.hi
  clear z6 f6 l1 l3 t1
  obtain⟨i6,hi6,jz6,jz61,jz62⟩:=info_parts rc_info
  have hlr6:m.rc.length=h.f.n:=i.rc.1
  have hle6:m.rc.length≤h.f.n:=by omega
  have hge6:h.f.n≤m.rc.length:=by omega
  clear hlr6
  have hs6:=K.ks
  go_loopw [5] (fun i wr=>CpLoopR m.rc h.f.n w u5 41 (m.vals h) zeroMC (fun v=>(m.arr (.slice A1 m.ks.length q1) (.slice A2 m.sn.length q2) (.slice A3 m.ws.length q3) (.slice A4 m.ps.length q4) (.slice A5 m.rs.length q5) v (.slice h.g.A h.g.n h.g.c) (.slice h.i.A h.i.n h.i.c))) i wr) (fun i _=>h.f.n-(intOf i).toNat)
  case atStart=>exact⟨0,.slice none 0 0,by omega,rfl,K,Pair.nil _,fun _ _ _=>rfl,Nat.le_refl _⟩
  clear K
  case round=>
   obtain⟨k,v6,hk,rfl,K,hp,hsame,hszw⟩:=hrel
   have hln:(m.rc.take k).length≤1000000:=by simp;omega
   obtain⟨A6,q6,rfl,hq6,hm6⟩:=Pair.form1 hp
   have l1:=K.k1.lt
   have t1:=cl (K.k1.cell 23)
   by_cases hlt:k<h.f.n
   · obtain⟨ad,r,g,b,o,hA,ha,hq,hbb,hrg,ok,cp,ir⟩:=(i.rc.below RmRel.kept K.kb).rm2 hlt
     have hd1:decide ((k:Int)<(h.f.n:Int))=true:=by simp;omega
     have hk0:(0:Int)≤(k:Int):=by omega
     have hk1:(k:Int)<(h.f.n:Int):=by omega
     have HS:=Lib.hid (show m.rc.take (k+1)=m.rc.take k++[r] by rw[List.take_add_one,ha];rfl)
     have pr:=HP.out r (List.mem_of_getElem? ha)
     have hkz:w.heap.size≤wr.heap.size:=K.kb.size
     have ir2:RcLo wr wr.heap.size r g:=ir.more hkz
     have hX:Below wr.heap.size wr wr.drew:=(Below.refl _ _).drew
     clear ha
     generalize m.rc.take k=ks at*
     go_upto_region 15 with fail
     replace K:=K.call hX
     replace hp:=Pair.below RmRel.kept RmRel.mono hp hX
     replace hrg:wr.drew.rangeAt b o (r.vals g).toList:=hrg
     replace ir2:RcLo wr.drew wr.drew.heap.size r g:=ir2.keep fun p hp=>hX.cell hp
     replace hsame:∀j,w.heap.size+1+1+1≤j→j<u5.heap.size→wr.drew.heap[j]?=u5.heap[j]?:=hsame
     replace hszw:u5.heap.size≤wr.drew.heap.size:=hszw
     replace hkz:w.heap.size≤wr.drew.heap.size:=hkz
     refine wp_region_held_drew (S:=fun W'=>Blk W' w.heap.size 41 (m.vals h)∧W'.rangeAt b o (r.vals g).toList) (by kernel_rfl) ⟨K.k1,hrg⟩ (fun hHeld=>?_)
     have hC:=copyRecI_any r g wr.drew ir2.into (pr.sm ir2)
     clear t1 l1 hX ir ir2 pr
     generalize wr.drew=W1 at*
     have HSM:=Lib.hid hsame
     clear hsame
     have t3:=cl (K.k3.cell 23)
     have l3:=K.k3.lt
     refine tc 0 49 ?_
     go_frame
     refine tc 2 51 ?_
     go_frame
     refine ts 3 52 rfl (fun W hw=>by have y:=cl (hw.1.cell 23);clear hw;go_simp;try with_reducible rfl) ?_
     go_frame
     refine tc 4 53 ?_
     go_frame
     refine tc 5 54 ?_
     go_frame
     refine tl 6 55 rfl (yieldsIf_load_mid (by kernel_rfl) 69 _ rfl b o (by kernel_rfl) (r.vals g).toList _ (fun w hw=>hw.2) Tryz.underlying69 rfl (by kernel_rfl)) ?_
     go_frame
     refine wpAnyH_ready (rs:=[1,7]) (by kernel_rfl) (by simp) (AllReadyH.cons (o:=⟨some 50,_,_,_,_,_⟩) rfl (fun K1 hK=>?_) (AllReadyH.cons (o:=⟨some 56,_,_,_,_,_⟩) rfl (fun K1 hK=>?_) AllReadyH.nil))
     case' refine_1=>
      go_simp
      refine hK.out _ _ hHeld (fun hHeld=>?_)
      clear hK K1
      try go_frame
      refine tr 7 (o:=⟨some 56,_,_,_,_,_⟩) rfl fun K1 hK=>?_
      go_simp
      refine hC.mono ?_
      rintro e w6 ⟨⟨g5,rfl,cg,ig⟩,hb6⟩
      have K6:=K.call hb6
      have r6:=rangeAt_below hrg hb6 (by omega)
      refine hK.out _ _ ⟨K6.k1,r6⟩ (fun hHeld=>?_)
      clear hK K1
      try go_frame
      refine tr 8 (o:=⟨some 57,_,_,_,_,_⟩) rfl fun K1 hK=>?_
      go_simp
      refine hK.out _ _ ⟨K6.k1.alloc _,rangeAt_below r6 (B:=w6.heap.size) (by go_grown) (by have:=hb6.size;omega)⟩ (fun hHeld=>?_)
      clear hK K1
      try go_frame
     case' refine_2=>
      go_simp
      refine hC.mono ?_
      rintro e w6 ⟨⟨g5,rfl,cg,ig⟩,hb6⟩
      have K6:=K.call hb6
      have r6:=rangeAt_below hrg hb6 (by omega)
      have y6:=cl (K6.k3.cell 23)
      refine hK.out _ _ ⟨K6.k1,r6⟩ (fun hHeld=>?_)
      clear hK K1
      try go_frame
      refine wpAnyH_ready (rs:=[1,8]) (by kernel_rfl) (by simp) (AllReadyH.cons (o:=⟨some 50,_,_,_,_,_⟩) rfl (fun K1 hK=>?_) (AllReadyH.cons (o:=⟨some 57,_,_,_,_,_⟩) rfl (fun K1 hK=>?_) AllReadyH.nil))
     case' refine_2.refine_1=>
      go_simp
      refine hK.out _ _ hHeld (fun hHeld=>?_)
      clear hK K1 y6
      try go_frame
      refine tr 8 (o:=⟨some 57,_,_,_,_,_⟩) rfl fun K1 hK=>?_
      go_simp
      refine hK.out _ _ ⟨K6.k1.alloc _,rangeAt_below r6 (B:=w6.heap.size) (by go_grown) (by have:=hb6.size;omega)⟩ (fun hHeld=>?_)
      clear hK K1
      try go_frame
     case' refine_2.refine_2=>
      go_simp
      refine hK.out _ _ ⟨K6.k1.alloc _,rangeAt_below r6 (B:=w6.heap.size) (by go_grown) (by have:=hb6.size;omega)⟩ (fun hHeld=>?_)
      clear hK K1
      try go_frame
      have y7:(w6.alloc (.cells (r.vals g5) 69)).cell? ⟨w.heap.size+1+1,23,none⟩=some (.slice A6 ks.length q6):=(K6.call (W':=(w6.alloc (.cells (r.vals g5) 69))) (by go_grown)).k3.cell 23
      refine tr 1 (o:=⟨some 50,_,_,_,_,_⟩) rfl fun K1 hK=>?_
      go_simp
      refine hK.out _ _ hHeld (fun hHeld=>?_)
      clear hK K1 y6 y7
      try go_frame
     all_goals
      have hX6:Below w6.heap.size w6 (w6.alloc (.cells (r.vals g5) 69)):=by go_grown
      have hz6:=hb6.size
      have p6:=Pair.below RmRel.kept RmRel.mono (Pair.below RmRel.kept RmRel.mono hp hb6) hX6
      have hlt6:=hp.1.lt
      have K7:=K6.call hX6
      have hin:Inn RmRel (freeB u5.heap.size (w6.alloc (.cells (r.vals g5) 69)).heap.size (.slice A6 ks.length q6) (.slice none 0 0)) (w6.alloc (.cells (r.vals g5) 69)) (r.vals g5).toList r:=
       Inn.wider RmRel.mono (Inn.keep (K:=rng W1.heap.size w6.heap.size) RmRel.kept (w:=w6) ⟨g5,rfl,ok,cg,ig⟩ (fun k hk=>by rw[rng_iff]at hk;exact hX6.block k hk.2) hX6.size)
        fun k hk=>by
            rw[rng_iff]at hk
            rw[freeB_iff]
            exact⟨by omega,by have:=hX6.size;omega,fun e=>by have:=(hlt6 k e).2;omega,fun e=>by change none=some k at e;cases e⟩
      obtain⟨xs,hown0,hpush⟩:=Pair.own1 RmRel.kept RmRel.mono p6
      have HI:=Lib.hid hin
      have HF:=Lib.hid hpush
      have hrd0:=reads_new' w6 69 (r.vals g5).toList 29 rfl
      clear hin hpush p6
      refine tr 9 (o:=⟨some 58,_,_,_,_,_⟩) rfl fun K1 hK=>?_
      refine step_append_any _ rfl _ _ _ rfl u5.heap.size 69 i6 _ 29 328 Tryz.underlying32 hi6 jz6 jz61 jz62 rfl (by omega) (.slice A6 ks.length q6) _ xs (by rfl) hown0 _ (some ⟨w6.heap.size,0,none⟩) 1 1 (r.vals g5).toList (by rfl) hrd0 (rc_one r g5) (by unfold maxLen;omega) (by omega) (by rw[World.size_alloc];omega) ?_
      intro v7 w7 hown7 hg7 hat7
      have hp7:=HF.out (r.vals g5).toList r w7 v7 rfl HI.out hown7 hg7 hat7
      obtain⟨A7,q7,rfl,hq7,hm7⟩:=own_form hown7
      have K8:=K7.grown hg7 (fun k hk=>by have:=(hown0.lt k hk).1;omega)
      have rX:=rangeAt_below r6 hX6 (by omega)
      have r7:w7.rangeAt b o (r.vals g).toList:=fun j v hj=>(World.cell?_of_block (hg7.block b (by rw[World.size_alloc];omega) (fun e=>by have:=(hlt6 b e.symm).1;omega))).trans (rX j v hj)
      refine hK.out _ _ ⟨K8.k1,r7⟩ (fun hHeld=>?_)
      clear hK K1 HF HI
      try go_frame
      refine tc 10 59 ?_
      go_frame
      have y8:=cl (K8.k3.cell 23)
      have f8:w7.frozen? ⟨w.heap.size+1+1,23,none⟩=false:=K8.k3.frozen 23
      have K9:=K8.set 23 (.slice A7 (ks.length+1) q7)
      have p9:=Pair.far RmRel.kept RmRel.mono hp7 (p:=⟨w.heap.size+1+1,23,none⟩) (by simp only;omega) (.slice A7 (ks.length+1) q7)
      have r9:(w7.setCell ⟨w.heap.size+1+1,23,none⟩ (.slice A7 (ks.length+1) q7)).rangeAt b o (r.vals g).toList:=fun j v hj=>(World.cell?_setCell_other w7 ⟨w.heap.size+1+1,23,none⟩ ⟨b,o+j,none⟩ (.slice A7 (ks.length+1) q7) (fun e=>by injection e with e;omega)).trans (r7 j v hj)
      have hsame9:∀j,w.heap.size+1+1+1≤j→j<u5.heap.size→(w7.setCell ⟨w.heap.size+1+1,23,none⟩ (.slice A7 (ks.length+1) q7)).heap[j]?=u5.heap[j]?:=fun j hj hj2=>
       (Below.heap_setCell _ _ _ _ (by simp only;omega)).trans ((hg7.block j (by rw[World.size_alloc];omega) (fun e=>by have:=(hlt6 j e.symm).1;omega)).trans ((hX6.block j (by omega)).trans ((hb6.block j (by omega)).trans (HSM.out j hj hj2))))
      have hsz9:u5.heap.size≤(w7.setCell ⟨w.heap.size+1+1,23,none⟩ (.slice A7 (ks.length+1) q7)).heap.size:=by have h1:=hg7.size;rw[World.size_alloc]at h1;have h3:(w7.setCell ⟨w.heap.size+1+1,23,none⟩ (.slice A7 (ks.length+1) q7)).heap.size=w7.heap.size:=(by simp);omega
      have HS9:=Lib.hid hsame9
      clear hsame9 hown7 hg7 hat7 hown0 hrd0 K6 K7 hX6 hb6 hp7 r6 rX HSM
      refine tr 11 (o:=⟨none,_,_,_,_,_⟩) rfl fun K1 hK=>?_
      go_simp
      refine hK.out _ _ ⟨K9.k1,r9⟩ (fun hHeld=>?_)
      clear hK K1 y8 f8
      try go_frame
      refine td ?_
      clear hHeld K8 r7 r9
      go_wp2_with fail
      go_roundw
      case rel=>
       refine⟨k+1,_,by omega,by go_num,K9,?_,HS9.out,hsz9⟩
       rw[HS.out]
       exact p9
      case measure=>simp[intOf];omega
   have hd1:decide ((k:Int)<(h.f.n:Int))=false:=by simp;omega
   rw[List.take_of_length_le (by omega)]at hp K
   replace L1:=L1.keep hsame hszw
   replace L2:=L2.keep hsame hszw
   replace L3:=L3.keep hsame hszw
   replace L4:=L4.keep hsame hszw
   replace L5:=L5.keep hsame hszw
   have L6:Lst RmRel 29 u5.heap.size wr (.slice A6 m.rc.length q6) m.rc:=Lst.single RmRel.mono (by decide) hp (Nat.le_refl _)
   have hsz6:=hszw
   clear hp hsame hszw hle6 hge6 hi6 jz6 jz61 jz62 HP
   have s24:=cl (K.k1.cell 24)
   have s25:=cl (K.k1.cell 25)
   have s26:=cl (K.k1.cell 26)
   have s27:=cl (K.k1.cell 27)
   have s28:=cl (K.k1.cell 28)
   have s29:=cl (K.k1.cell 29)
   have s30:=cl (K.k1.cell 30)
   have s31:=cl (K.k1.cell 31)
   have s32:=cl (K.k1.cell 32)
   have s33:=cl (K.k1.cell 33)
   have s34:=cl (K.k1.cell 34)
   have s35:=cl (K.k1.cell 35)
   have l1:=K.k1.lt
   go_wp2_with fail
   have iw:=i.up K.kb
   refine(copyS_low m.st h.g.A h.i.A h.g.n h.i.n h.g.c h.i.c wr iw.hs iw.pn sm.hs sm.pn).mono ?_
   rintro e w5 ⟨C1,m1,d1,C2,m2,d2,rfl,p1,p2,p3,p4,p5,p6,hb5⟩
   have ks5:=K.ks
   replace K:=K.call hb5
   replace L1:=L1.below hb5
   replace L2:=L2.below hb5
   replace L3:=L3.below hb5
   replace L4:=L4.below hb5
   replace L5:=L5.below hb5
   replace L6:=L6.below RmRel.kept RmRel.mono hb5
   have LH:Lst HsRel 2 u5.heap.size w5 (.slice C1 m1 d1) m.st.h:=Lst.wide HsRel.mono ⟨C1,m1,d1,rfl,p1,p2,p3⟩ hsz6 (Nat.le_refl _)
   have LP:Lst PnRel 8 u5.heap.size w5 (.slice C2 m2 d2) m.st.p:=Lst.wide PnRel.mono ⟨C2,m2,d2,rfl,p4,p5,p6⟩ hsz6 (Nat.le_refl _)
   have HS:=K.final 24 [.int .i64 m.st.r.id,.int .i64 m.st.r.ep,.float .f64 m.st.r.lo,.float .f64 m.st.r.hi,.int .i64 m.st.f.w,.int .i64 m.st.f.l,.int .i64 m.st.f.n,.int .i64 m.st.c.w,.int .i64 m.st.c.l,.int .i64 m.st.c.n,.slice C1 m1 d1,.slice C2 m2 d2] (m.vals ⟨⟨A1,m.ks.length,q1⟩,⟨A2,m.sn.length,q2⟩,⟨A3,m.ws.length,q3⟩,⟨A4,m.ps.length,q4⟩,⟨A5,m.rs.length,q5⟩,⟨A6,m.rc.length,q6⟩,⟨C1,m1,d1⟩,⟨C2,m2,d2⟩⟩) (by kernel_rfl)
   have ht:w5.there (w.heap.size+1+1) 24 12:=K.k3.there 24 12 (by rw[show (m.arr (.slice A1 m.ks.length q1) (.slice A2 m.sn.length q2) (.slice A3 m.ws.length q3) (.slice A4 m.ps.length q4) (.slice A5 m.rs.length q5) (.slice A6 m.rc.length q6) (.slice h.g.A h.g.n h.g.c) (.slice h.i.A h.i.n h.i.c)).size=36 from by kernel_rfl];omega)
   clear iw
   go_wp2_with (first
        |(guard_target=~ wpList _ _ _ _ _ _;refine wpList_store_mid rfl 39 _ _ rfl (w.heap.size+1+1) 24 #[.int .i64 m.st.r.id,.int .i64 m.st.r.ep,.float .f64 m.st.r.lo,.float .f64 m.st.r.hi,.int .i64 m.st.f.w,.int .i64 m.st.f.l,.int .i64 m.st.f.n,.int .i64 m.st.c.w,.int .i64 m.st.c.l,.int .i64 m.st.c.n,.slice C1 m1 d1,.slice C2 m2 d2] (by kernel_rfl) (by kernel_rfl) ht (by kernel_rfl) (by kernel_rfl) ?_
          obtain⟨W6,hW6⟩:∃W6:World,W6=w5.setCells (w.heap.size+1+1) 24 (#[.int .i64 m.st.r.id,.int .i64 m.st.r.ep,.float .f64 m.st.r.lo,.float .f64 m.st.r.hi,.int .i64 m.st.f.w,.int .i64 m.st.f.l,.int .i64 m.st.f.n,.int .i64 m.st.c.w,.int .i64 m.st.c.l,.int .i64 m.st.c.n,.slice C1 m1 d1,.slice C2 m2 d2]:Array Value).toList:=⟨_,rfl⟩
          rw[←hW6]
          obtain⟨x6,x7,hfin⟩:=HS W6 hW6
          clear HS hW6)
        |(guard_target=~ wpList _ _ _ _ _ _;refine wpList_load_row rfl 41 _ rfl (w.heap.size+1+1) (by kernel_rfl) _ _ (0,0) _ x6 rfl rfl (by kernel_rfl) ?_)
        |(guard_target=~ wpList _ _ _ _ _ _;refine wpList_store_row rfl 41 _ _ rfl (w.heap.size+1) (m.vals ⟨⟨A1,m.ks.length,q1⟩,⟨A2,m.sn.length,q2⟩,⟨A3,m.ws.length,q3⟩,⟨A4,m.ps.length,q4⟩,⟨A5,m.rs.length,q5⟩,⟨A6,m.rc.length,q6⟩,⟨C1,m1,d1⟩,⟨C2,m2,d2⟩⟩) (by kernel_rfl) (by kernel_rfl) _ _ x7 (by kernel_rfl) (by kernel_rfl) (by kernel_rfl) ?_))
   refine post_cell rfl (by rfl) (x7.setRow _) rfl rfl (by kernel_rfl) ?_
   obtain⟨hbF,hkF,hsF⟩:=hfin (m.vals ⟨⟨A1,m.ks.length,q1⟩,⟨A2,m.sn.length,q2⟩,⟨A3,m.ws.length,q3⟩,⟨A4,m.ps.length,q4⟩,⟨A5,m.rs.length,q5⟩,⟨A6,m.rc.length,q6⟩,⟨C1,m1,d1⟩,⟨C2,m2,d2⟩⟩)
   generalize (W6.setRow (w.heap.size+1) (m.vals ⟨⟨A1,m.ks.length,q1⟩,⟨A2,m.sn.length,q2⟩,⟨A3,m.ws.length,q3⟩,⟨A4,m.ps.length,q4⟩,⟨A5,m.rs.length,q5⟩,⟨A6,m.rc.length,q6⟩,⟨C1,m1,d1⟩,⟨C2,m2,d2⟩⟩))=W7 at*
   replace L1:=L1.keep (w':=W7) (fun j h1 _=>hkF j h1) (Nat.le_of_eq hsF.symm)
   replace L2:=L2.keep (w':=W7) (fun j h1 _=>hkF j h1) (Nat.le_of_eq hsF.symm)
   replace L3:=L3.keep (w':=W7) (fun j h1 _=>hkF j h1) (Nat.le_of_eq hsF.symm)
   replace L4:=L4.keep (w':=W7) (fun j h1 _=>hkF j h1) (Nat.le_of_eq hsF.symm)
   replace L5:=L5.keep (w':=W7) (fun j h1 _=>hkF j h1) (Nat.le_of_eq hsF.symm)
   replace L6:=L6.keep RmRel.kept RmRel.mono (w':=W7) (fun j h1 _=>hkF j (Nat.le_trans hs6 h1)) (Nat.le_of_eq hsF.symm)
   replace LH:=LH.keep HsRel.kept HsRel.mono (w':=W7) (fun j h1 _=>hkF j (Nat.le_trans hs6 h1)) (Nat.le_of_eq hsF.symm)
   replace LP:=LP.keep PnRel.kept PnRel.mono (w':=W7) (fun j h1 _=>hkF j (Nat.le_trans hs6 h1)) (Nat.le_of_eq hsF.symm)
   have E1:=L1.m
   have E2:=L2.m
   have E3:=L3.m
   have E4:=L4.m
   have E5:=L5.m
   have I1:=fun k hk=>And.intro (L1.own.lt k hk).1 (L1.b k hk)
   have I3:=fun k hk=>And.intro (L3.own.lt k hk).1 (L3.b k hk)
   have I4:=fun k hk=>And.intro (L4.own.lt k hk).1 (L4.b k hk)
   have hb0:=K.kb.size
   have hg:W7.grownBy W7 none:=⟨rfl,rfl,rfl,Nat.le_refl _,fun _ _ _=>rfl⟩
   refine⟨⟨⟨⟨A1,m.ks.length,q1⟩,⟨A2,m.sn.length,q2⟩,⟨A3,m.ws.length,q3⟩,⟨A4,m.ps.length,q4⟩,⟨A5,m.rs.length,q5⟩,⟨A6,m.rc.length,q6⟩,⟨C1,m1,d1⟩,⟨C2,m2,d2⟩⟩,rfl,⟨(L1.up (ok:=fun k:ByteArray=>k.size≤140737488351232) (fun a ha=>Sl.all_ok i.ks a ha) (by decide) (fun _=>rfl) hg (fun k hk=>by cases hk)).hd.2,(L2.up (ok:=Sn.ok) (fun a ha=>Sl.all_ok i.sn a ha) (by decide) (fun _=>rfl) hg (fun k hk=>by cases hk)).hd.2,(L3.up (ok:=Wt.ok) (fun a ha=>Sl.all_ok i.ws a ha) (by decide) (fun _=>rfl) hg (fun k hk=>by cases hk)).hd.2,(L4.up (ok:=i64ok) (fun a ha=>Sl.all_ok i.ps a ha) (by decide) (fun _=>rfl) hg (fun k hk=>by cases hk)).hd.2,(L5.up (ok:=Rg.ok) (fun a ha=>Sl.all_ok i.rs a ha) (by decide) (fun _=>rfl) hg (fun k hk=>by cases hk)).hd.2,(Lst.up RmRel.kept RmRel.mono L6 hg (fun k hk=>by cases hk)).hd.2,(Lst.up HsRel.kept HsRel.mono LH hg (fun k hk=>by cases hk)).hd.2,(Lst.up PnRel.kept PnRel.mono LP hg (fun k hk=>by cases hk)).hd.2⟩,⟨(L1.up (ok:=fun k:ByteArray=>k.size≤140737488351232) (fun a ha=>Sl.all_ok i.ks a ha) (by decide) (fun _=>rfl) hg (fun k hk=>by cases hk)).hd.1,(L2.up (ok:=Sn.ok) (fun a ha=>Sl.all_ok i.sn a ha) (by decide) (fun _=>rfl) hg (fun k hk=>by cases hk)).hd.1,(L3.up (ok:=Wt.ok) (fun a ha=>Sl.all_ok i.ws a ha) (by decide) (fun _=>rfl) hg (fun k hk=>by cases hk)).hd.1,(L4.up (ok:=i64ok) (fun a ha=>Sl.all_ok i.ps a ha) (by decide) (fun _=>rfl) hg (fun k hk=>by cases hk)).hd.1,(L5.up (ok:=Rg.ok) (fun a ha=>Sl.all_ok i.rs a ha) (by decide) (fun _=>rfl) hg (fun k hk=>by cases hk)).hd.1,(Lst.up RmRel.kept RmRel.mono L6 hg (fun k hk=>by cases hk)).hd.1,(Lst.up HsRel.kept HsRel.mono LH hg (fun k hk=>by cases hk)).hd.1,(Lst.up PnRel.kept PnRel.mono LP hg (fun k hk=>by cases hk)).hd.1⟩,⟨L1.own.mono_base (by have:=L1.s;omega),L3.own.mono_base (by have:=L3.s;omega),L4.own.mono_base (by have:=L4.s;omega),fun W l A n c hg s=>?_,fun W l A n c hg s=>?_,fun W l A n c hg s=>?_⟩⟩,hbF⟩
   · exact⟨s,(L2.up (ok:=Sn.ok) (fun a ha=>Sl.all_ok i.sn a ha) (by decide) (fun _=>rfl) hg (fun k hk=>by have:=I1 k hk;omega)).hd.1,(L3.up (ok:=Wt.ok) (fun a ha=>Sl.all_ok i.ws a ha) (by decide) (fun _=>rfl) hg (fun k hk=>by have:=I1 k hk;omega)).hd.1,(L4.up (ok:=i64ok) (fun a ha=>Sl.all_ok i.ps a ha) (by decide) (fun _=>rfl) hg (fun k hk=>by have:=I1 k hk;omega)).hd.1,(L5.up (ok:=Rg.ok) (fun a ha=>Sl.all_ok i.rs a ha) (by decide) (fun _=>rfl) hg (fun k hk=>by have:=I1 k hk;omega)).hd.1,(Lst.up RmRel.kept RmRel.mono L6 hg (fun k hk=>by have:=I1 k hk;omega)).hd.1,(Lst.up HsRel.kept HsRel.mono LH hg (fun k hk=>by have:=I1 k hk;omega)).hd.1,(Lst.up PnRel.kept PnRel.mono LP hg (fun k hk=>by have:=I1 k hk;omega)).hd.1⟩
   · exact⟨(L1.up (ok:=fun k:ByteArray=>k.size≤140737488351232) (fun a ha=>Sl.all_ok i.ks a ha) (by decide) (fun _=>rfl) hg (fun k hk=>by have:=I3 k hk;omega)).hd.1,(L2.up (ok:=Sn.ok) (fun a ha=>Sl.all_ok i.sn a ha) (by decide) (fun _=>rfl) hg (fun k hk=>by have:=I3 k hk;omega)).hd.1,s,(L4.up (ok:=i64ok) (fun a ha=>Sl.all_ok i.ps a ha) (by decide) (fun _=>rfl) hg (fun k hk=>by have:=I3 k hk;omega)).hd.1,(L5.up (ok:=Rg.ok) (fun a ha=>Sl.all_ok i.rs a ha) (by decide) (fun _=>rfl) hg (fun k hk=>by have:=I3 k hk;omega)).hd.1,(Lst.up RmRel.kept RmRel.mono L6 hg (fun k hk=>by have:=I3 k hk;omega)).hd.1,(Lst.up HsRel.kept HsRel.mono LH hg (fun k hk=>by have:=I3 k hk;omega)).hd.1,(Lst.up PnRel.kept PnRel.mono LP hg (fun k hk=>by have:=I3 k hk;omega)).hd.1⟩
   · exact⟨(L1.up (ok:=fun k:ByteArray=>k.size≤140737488351232) (fun a ha=>Sl.all_ok i.ks a ha) (by decide) (fun _=>rfl) hg (fun k hk=>by have:=I4 k hk;omega)).hd.1,(L2.up (ok:=Sn.ok) (fun a ha=>Sl.all_ok i.sn a ha) (by decide) (fun _=>rfl) hg (fun k hk=>by have:=I4 k hk;omega)).hd.1,(L3.up (ok:=Wt.ok) (fun a ha=>Sl.all_ok i.ws a ha) (by decide) (fun _=>rfl) hg (fun k hk=>by have:=I4 k hk;omega)).hd.1,s,(L5.up (ok:=Rg.ok) (fun a ha=>Sl.all_ok i.rs a ha) (by decide) (fun _=>rfl) hg (fun k hk=>by have:=I4 k hk;omega)).hd.1,(Lst.up RmRel.kept RmRel.mono L6 hg (fun k hk=>by have:=I4 k hk;omega)).hd.1,(Lst.up HsRel.kept HsRel.mono LH hg (fun k hk=>by have:=I4 k hk;omega)).hd.1,(Lst.up PnRel.kept PnRel.mono LP hg (fun k hk=>by have:=I4 k hk;omega)).hd.1⟩
end Go.Proofs.YtcalkfgibflbnaaGreat
