/- The walk of CopyRec: the copy's lists lie in blocks of the call's own. -/
import Derived.Test.YtcalkfgibflbnaaGreatKaab
import Derived.Test.YtcalkfgibflbnaaGreatKaca
import Derived.Test.YtcalkfgibflbnaaGreatKacb
import Derived.Test.YtcalkfgibflbnaaGreatKadb
namespace Go.Proofs.YtcalkfgibflbnaaGreat
set_option linter.unusedVariables false
open Go.RowKit Fl
attribute [local go_sem] run_store_float
theorem CpS.final {w W:World} {t:TypeId} {p z cells:Array Value} (K:CpS w W t p z cells) (o:Nat) (vs:List Value) (cs:Array Value) (e:setA cells o vs=cs) (W6:World) (h6:W6=W.setCells (w.heap.size+1+1) o vs):
 Blk W6 (w.heap.size+1+1) t cs∧Blk W6 (w.heap.size+1) t z∧∀q:Array Value,Below w.heap.size w (W6.setRow (w.heap.size+1) q)∧(∀j,w.heap.size+1+1+1≤j→(W6.setRow (w.heap.size+1) q).heap[j]?=W.heap[j]?)∧(W6.setRow (w.heap.size+1) q).heap.size=W.heap.size:=by
 subst h6
 refine⟨e▸Blk.setCells vs o _ _ K.k3,(setCells_far (by omega) _ _ _).trans K.k2,fun q=>⟨below_setRow (setCells_below (by omega) _ _ _ K.kb) (by omega) _,fun j hj=>(setRow_other _ _ _ _ (by omega)).trans (setCells_far (by omega) _ _ _),?_⟩⟩
 rw[size_setRow,setCells_size]
def CpLoop {α:Type} (f:α→List Value) (E:TypeId) (size:Nat) (l:List α) (n:Nat) (w W:World) (t:TypeId) (p z:Array Value) (cells:Value→Array Value) (i:Value) (wr:World):Prop:=
 ∃(k:Nat) (v:Value),k≤n∧i=.int .i64 (k:Int)∧CpS w wr t p z (cells v)∧OwnL f E size W.heap.size wr v (l.take k)∧(∀j,w.heap.size+1+1+1≤j→j<W.heap.size→wr.heap[j]?=W.heap[j]?)∧W.heap.size≤wr.heap.size
theorem pr_info:(Tryz.prog.info? 105).map (fun i=>(i.zero,i.size,i.bytes))=some (some (.agg #[.string ⟨#[]⟩,.int .i64 0,.float .f64 0,.string ⟨#[]⟩]),4,48):=by kernel_rfl
abbrev zeroRc:Array Value:=#[.int .i64 0,.int .i64 0,.int .i64 0,.int .i64 0,.int .i64 0,.int .i64 0,.int .i64 0,.int .i64 0,.int .i64 0,.int .i64 0,.bool false,.int .i64 0,.float .f64 0,.slice none 0 0,.slice none 0 0,.slice none 0 0,.slice none 0 0,.int .i64 0,.int .i64 0,.float .f64 0,.float .f64 0,.int .i64 0,.int .i64 0,.int .i64 0,.int .i64 0,.int .i64 0,.int .i64 0,.slice none 0 0,.slice none 0 0]
abbrev Rc.part (r:Rc) (v1 v2 v3 v4:Value):Array Value:=#[.int .i64 r.k,.int .i64 r.t.c,.int .i64 r.t.l,.int .i64 r.t.s,.int .i64 r.s.w,.int .i64 r.s.l,.int .i64 r.s.n,.int .i64 r.pv.w,.int .i64 r.pv.l,.int .i64 r.pv.n,.bool r.cm,.int .i64 r.n,.float .f64 r.pt,v1,v2,v3,v4,.int .i64 0,.int .i64 0,.float .f64 0,.float .f64 0,.int .i64 0,.int .i64 0,.int .i64 0,.int .i64 0,.int .i64 0,.int .i64 0,.slice none 0 0,.slice none 0 0]
structure CopyRI (r:Rc) (w:World) (e:Ending) (w':World):Prop where
 res:∃g:Hds,e=.returned (.agg (r.vals g))∧g.caps∧RcLo (only (rng w.heap.size w'.heap.size) w') w'.heap.size r g
 below:Below w.heap.size w w'
set_option maxRecDepth 100000 in
set_option maxHeartbeats 8000000 in
theorem copyRecI_any (r:Rc) (h:Hds) (w:World) (i:RcIn w r h) (sm:RcSm r h):
 Calls Tryz.prog 26 #[.agg (r.vals h)] w (CopyRI r w):=by
 have k1:Blk ((w.alloc (.cells (r.vals h) 69)).alloc (.cells zeroRc 69)) w.heap.size 69 (r.vals h):=(Blk.new _ _ _).alloc _
 have c0:=cl (k1.cell 0)
 have c1:=cl (k1.cell 1)
 have c2:=cl (k1.cell 2)
 have c3:=cl (k1.cell 3)
 have c4:=cl (k1.cell 4)
 have c5:=cl (k1.cell 5)
 have c6:=cl (k1.cell 6)
 have c7:=cl (k1.cell 7)
 have c8:=cl (k1.cell 8)
 have c9:=cl (k1.cell 9)
 have c10:=cl (k1.cell 10)
 have c11:=cl (k1.cell 11)
 have c12:=cl (k1.cell 12)
 have K:CpS w (((w.alloc (.cells (r.vals h) 69)).alloc (.cells zeroRc 69)).alloc (.cells (r.part (.slice none 0 0) (.slice none 0 0) (.slice none 0 0) (.slice none 0 0)) 69)) 69 (r.vals h) zeroRc (r.part (.slice none 0 0) (.slice none 0 0) (.slice none 0 0) (.slice none 0 0)):=⟨k1.alloc _,(Blk.new' _ _ (by simp)).alloc _,Blk.new' _ _ (by simp),by go_grown,by simp⟩
 go_enter Tryz.func26,Tryz.ntmps26
 go_wp2_with (refine wpList_store_at rfl 69 _ _ rfl (w.heap.size+1+1) _ rfl rfl (by simp) _ _ (by kernel_rfl) (by kernel_rfl) (by kernel_rfl) ?_)
 clear c0 c1 c2 c3 c4 c5 c6 c7 c8 c9 c10 c11 c12 k1
 refine(strings_any h.a.A h.a.n h.a.c r.rd _ (i.below K.kb).rd sm.a).mono ?_
 rintro e w1 ⟨v1,rfl,o1,hb1⟩
 obtain⟨A1,q1,rfl,hq1,hm1⟩:=o1.form
 have ks1:=K.ks
 replace K:=K.call hb1
 have L1:Lst KyRel 1 (w.heap.size+1+1+1) w1 (.slice A1 r.rd.length q1) r.rd:=Lst.own (ok:=fun k:ByteArray=>k.size≤140737488351232) (by decide) (fun _=>rfl) o1 (fun a ha=>Sl.all_ok i.rd a ha) ks1
 have z1:=cl (K.k3.cell 13)
 have f1:w1.frozen? ⟨w.heap.size+1+1,13,none⟩=false:=K.k3.frozen 13
 have n1:=cl (K.k1.cell 14)
 replace K:CpS w (w1.setCell ⟨w.heap.size+1+1,13,none⟩ (.slice A1 r.rd.length q1)) 69 (r.vals h) zeroRc (r.part (.slice A1 r.rd.length q1) (.slice none 0 0) (.slice none 0 0) (.slice none 0 0)):=K.set 13 (.slice A1 r.rd.length q1)
 replace L1:=L1.set KyRel.kept KyRel.mono (p:=⟨w.heap.size+1+1,13,none⟩) (by simp only;omega) (.slice A1 r.rd.length q1)
 go_wp2_with fail
 generalize (w1.setCell ⟨w.heap.size+1+1,13,none⟩ (.slice A1 r.rd.length q1))=u1 at*
 clear z1 f1 n1 o1 hb1
 refine(copyW_any h.b.A h.b.n h.b.c r.wr _ (i.below K.kb).wr sm.b).mono ?_
 rintro e w2 ⟨v2,rfl,o2,hb2⟩
 obtain⟨A2,q2,rfl,hq2,hm2⟩:=o2.form
 have ks2:=K.ks
 replace K:=K.call hb2
 replace L1:=L1.below KyRel.kept KyRel.mono hb2
 have L2:Lst WtRel 4 (w.heap.size+1+1+1) w2 (.slice A2 r.wr.length q2) r.wr:=Lst.own (ok:=Wt.ok) (by decide) (fun _=>rfl) o2 (fun a ha=>Sl.all_ok i.wr a ha) ks2
 have z2:=cl (K.k3.cell 14)
 have f2:w2.frozen? ⟨w.heap.size+1+1,14,none⟩=false:=K.k3.frozen 14
 have n2:=cl (K.k1.cell 15)
 replace K:CpS w (w2.setCell ⟨w.heap.size+1+1,14,none⟩ (.slice A2 r.wr.length q2)) 69 (r.vals h) zeroRc (r.part (.slice A1 r.rd.length q1) (.slice A2 r.wr.length q2) (.slice none 0 0) (.slice none 0 0)):=K.set 14 (.slice A2 r.wr.length q2)
 replace L1:=L1.set KyRel.kept KyRel.mono (p:=⟨w.heap.size+1+1,14,none⟩) (by simp only;omega) (.slice A2 r.wr.length q2)
 replace L2:=L2.set WtRel.kept WtRel.mono (p:=⟨w.heap.size+1+1,14,none⟩) (by simp only;omega) (.slice A2 r.wr.length q2)
 go_wp2_with fail
 generalize (w2.setCell ⟨w.heap.size+1+1,14,none⟩ (.slice A2 r.wr.length q2))=u2 at*
 clear z2 f2 n2 o2 hb2
 refine(ints_any h.c.A h.c.n h.c.c r.ps _ (i.below K.kb).ps sm.c).mono ?_
 rintro e w3 ⟨v3,rfl,o3,hb3⟩
 obtain⟨A3,q3,rfl,hq3,hm3⟩:=o3.form
 have ks3:=K.ks
 replace K:=K.call hb3
 replace L1:=L1.below KyRel.kept KyRel.mono hb3
 replace L2:=L2.below WtRel.kept WtRel.mono hb3
 have L3:Lst NmRel 1 (w.heap.size+1+1+1) w3 (.slice A3 r.ps.length q3) r.ps:=Lst.own (ok:=i64ok) (by decide) (fun _=>rfl) o3 (fun a ha=>Sl.all_ok i.ps a ha) ks3
 have z3:=cl (K.k3.cell 15)
 have f3:w3.frozen? ⟨w.heap.size+1+1,15,none⟩=false:=K.k3.frozen 15
 have n3:=cl (K.k1.cell 16)
 replace K:CpS w (w3.setCell ⟨w.heap.size+1+1,15,none⟩ (.slice A3 r.ps.length q3)) 69 (r.vals h) zeroRc (r.part (.slice A1 r.rd.length q1) (.slice A2 r.wr.length q2) (.slice A3 r.ps.length q3) (.slice none 0 0)):=K.set 15 (.slice A3 r.ps.length q3)
 replace L1:=L1.set KyRel.kept KyRel.mono (p:=⟨w.heap.size+1+1,15,none⟩) (by simp only;omega) (.slice A3 r.ps.length q3)
 replace L2:=L2.set WtRel.kept WtRel.mono (p:=⟨w.heap.size+1+1,15,none⟩) (by simp only;omega) (.slice A3 r.ps.length q3)
 replace L3:=L3.set NmRel.kept NmRel.mono (p:=⟨w.heap.size+1+1,15,none⟩) (by simp only;omega) (.slice A3 r.ps.length q3)
 go_wp2_with fail
 generalize (w3.setCell ⟨w.heap.size+1+1,15,none⟩ (.slice A3 r.ps.length q3))=u3 at*
 clear z3 f3 n3 o3 hb3
 have hdn:=sm.d
 obtain⟨i4,hi4,hz4,hz41,hz42⟩:=info_parts pr_info
 have hlr4:r.pr.length=h.d.n:=i.pr.1
 have hle4:r.pr.length≤h.d.n:=by omega
 have hge4:h.d.n≤r.pr.length:=by omega
 clear hlr4
 have hs4:=K.ks
 go_loopw [4] (fun i wr=>CpLoop Wt.cells 105 4 r.pr h.d.n w u3 69 (r.vals h) zeroRc (fun v=>(r.part (.slice A1 r.rd.length q1) (.slice A2 r.wr.length q2) (.slice A3 r.ps.length q3) v)) i wr) (fun i _=>h.d.n-(intOf i).toNat)
 case atStart=>exact⟨0,.slice none 0 0,by omega,rfl,K,OwnL.nil _,fun _ _ _=>rfl,Nat.le_refl _⟩
 clear K
 case round=>
  obtain⟨k,v4,hk,rfl,K,ho,hsame,hszw⟩:=hrel
  have hln:(r.pr.take k).length≤1000000:=by simp;omega
  obtain⟨A4,q4,rfl,hq4,hm4⟩:=ho.form
  have l1:=K.k1.lt
  have l3:=K.k3.lt
  have t1:=cl (K.k1.cell 16)
  by_cases hlt:k<h.d.n
  · have t3:=cl (K.k3.cell 16)
    have g3:wr.frozen? ⟨w.heap.size+1+1,16,none⟩=false:=K.k3.frozen 16
    obtain⟨ad,a,hA,ha,hbk,hok,c0,c1,c2,c3⟩:=(i.pr.below WtRel.kept K.kb).wt hlt
    rw[hA]at t1
    have hd1:decide ((k:Int)<(h.d.n:Int))=true:=by simp;omega
    have hk0:(0:Int)≤(k:Int):=by omega
    have hk1:(k:Int)<(h.d.n:Int):=by omega
    have HS:=Lib.hid (show r.pr.take (k+1)=r.pr.take k++[a] by rw[List.take_add_one,ha];rfl)
    have hbk2:(ad.add (k*4)).block<wr.heap.size:=Nat.lt_of_lt_of_le hbk K.kb.size
    clear ha hA
    generalize r.pr.take k=ks at*
    have hX:Below wr.heap.size wr (wr.alloc (.cells a.cells.toArray 105)).drew:=((Below.refl _ _).alloc (Nat.le_refl _) _).drew
    have hown0:=ho.below hX
    have hrd0:=(reads_new' wr 105 a.cells 4 rfl).drew
    go_wp2
    go_region_law (refine step_append_any _ rfl (.tmp 40) (.tmp 46) _ rfl u3.heap.size 105 i4 _ 4 48 Tryz.underlying67 hi4 hz4 hz41 hz42 rfl (by omega) (.slice A4 ks.length q4) _ (ks.flatMap Wt.cells) (by simp[Act.eval]) hown0 _ (some ⟨wr.heap.size,0,none⟩) 1 1 a.cells (by simp[Act.eval]) hrd0 (wt_one a) (by unfold maxLen;omega) (by omega) (by simp;omega) ?_;intro v5 w5 hown5 hg5 hat5;have e5:=(K.call hX).grown hg5 (fun k hk=>by have:=(ho.lt k hk).1;omega);have z5:=cl (e5.k3.cell 16);have f5:=e5.k3.frozen 16;obtain⟨A5,q5,rfl,hq5,hq5m⟩:=own_form hown5)
    all_goals
        have hp5:=(OwnL.push a hown5).set_far (p:=⟨w.heap.size+1+1,16,none⟩) (by simp only;omega) (.slice A5 (ks.length+1) q5)
        have e6:=e5.set 16 (.slice A5 (ks.length+1) q5)
        have hsame5:∀j,w.heap.size+1+1+1≤j→j<u3.heap.size→(w5.setCell ⟨w.heap.size+1+1,16,none⟩ (.slice A5 (ks.length+1) q5)).heap[j]?=u3.heap[j]?:=fun j hj hj2=>
         (Below.heap_setCell _ _ _ _ (by simp only;omega)).trans ((hg5.block j (by show j<(wr.alloc _).heap.size;rw[World.size_alloc];omega) (fun e=>by have:=(ho.lt j e.symm).1;omega)).trans ((hX.block j (by omega)).trans (hsame j hj hj2)))
        have hsz5:u3.heap.size≤(w5.setCell ⟨w.heap.size+1+1,16,none⟩ (.slice A5 (ks.length+1) q5)).heap.size:=by have:=hg5.size;have:=hX.size;simp at*;omega
        have HSM:=Lib.hid hsame5
        clear hsame hsame5
        go_wp2
        go_roundw
        case rel=>
         refine⟨k+1,_,by omega,by go_num,e6,?_,HSM.out,hsz5⟩
         rw[HS.out]
         exact hp5
        case measure=>simp[intOf];omega
  have hd1:decide ((k:Int)<(h.d.n:Int))=false:=by simp;omega
  rw[List.take_of_length_le (by omega)]at ho K
  replace L1:=L1.keep KyRel.kept KyRel.mono hsame hszw
  replace L2:=L2.keep WtRel.kept WtRel.mono hsame hszw
  replace L3:=L3.keep NmRel.kept NmRel.mono hsame hszw
  have L4:Lst WtRel 4 (w.heap.size+1+1+1) wr (.slice A4 r.pr.length q4) r.pr:=Lst.own (ok:=Wt.ok) (by decide) (fun _=>rfl) ho (fun a ha=>Sl.all_ok i.pr a ha) hs4
  clear ho hsame hszw hle4 hge4 hs4 hi4 hz4 hz41 hz42
  have s17:=cl (K.k1.cell 17)
  have s18:=cl (K.k1.cell 18)
  have s19:=cl (K.k1.cell 19)
  have s20:=cl (K.k1.cell 20)
  have s21:=cl (K.k1.cell 21)
  have s22:=cl (K.k1.cell 22)
  have s23:=cl (K.k1.cell 23)
  have s24:=cl (K.k1.cell 24)
  have s25:=cl (K.k1.cell 25)
  have s26:=cl (K.k1.cell 26)
  have s27:=cl (K.k1.cell 27)
  have s28:=cl (K.k1.cell 28)
  have l1:=K.k1.lt
  go_wp2_with fail
  have iw:=i.below K.kb
  refine(copyS_low r.st h.e.A h.f.A h.e.n h.f.n h.e.c h.f.c wr iw.hs iw.pn sm.h sm.p).mono ?_
  rintro e w5 ⟨C1,m1,d1,C2,m2,d2,rfl,p1,p2,p3,p4,p5,p6,hb5⟩
  have ks5:=K.ks
  replace K:=K.call hb5
  replace L1:=L1.below KyRel.kept KyRel.mono hb5
  replace L2:=L2.below WtRel.kept WtRel.mono hb5
  replace L3:=L3.below NmRel.kept NmRel.mono hb5
  replace L4:=L4.below WtRel.kept WtRel.mono hb5
  have LH:Lst HsRel 2 (w.heap.size+1+1+1) w5 (.slice C1 m1 d1) r.st.h:=Lst.wide HsRel.mono ⟨C1,m1,d1,rfl,p1,p2,p3⟩ ks5 (Nat.le_refl _)
  have LP:Lst PnRel 8 (w.heap.size+1+1+1) w5 (.slice C2 m2 d2) r.st.p:=Lst.wide PnRel.mono ⟨C2,m2,d2,rfl,p4,p5,p6⟩ ks5 (Nat.le_refl _)
  have HS:=K.final 17 [.int .i64 r.st.r.id,.int .i64 r.st.r.ep,.float .f64 r.st.r.lo,.float .f64 r.st.r.hi,.int .i64 r.st.f.w,.int .i64 r.st.f.l,.int .i64 r.st.f.n,.int .i64 r.st.c.w,.int .i64 r.st.c.l,.int .i64 r.st.c.n,.slice C1 m1 d1,.slice C2 m2 d2] (r.vals ⟨⟨A1,r.rd.length,q1⟩,⟨A2,r.wr.length,q2⟩,⟨A3,r.ps.length,q3⟩,⟨A4,r.pr.length,q4⟩,⟨C1,m1,d1⟩,⟨C2,m2,d2⟩⟩) (by kernel_rfl)
  have ht:w5.there (w.heap.size+1+1) 17 12:=K.k3.there 17 12 (by rw[show (r.part (.slice A1 r.rd.length q1) (.slice A2 r.wr.length q2) (.slice A3 r.ps.length q3) (.slice A4 r.pr.length q4)).size=29 from by kernel_rfl];omega)
  clear iw
  go_wp2_with (first
   |(guard_target=~ wpList _ _ _ _ _ _;refine wpList_store_mid rfl 39 _ _ rfl (w.heap.size+1+1) 17 #[.int .i64 r.st.r.id,.int .i64 r.st.r.ep,.float .f64 r.st.r.lo,.float .f64 r.st.r.hi,.int .i64 r.st.f.w,.int .i64 r.st.f.l,.int .i64 r.st.f.n,.int .i64 r.st.c.w,.int .i64 r.st.c.l,.int .i64 r.st.c.n,.slice C1 m1 d1,.slice C2 m2 d2] (by kernel_rfl) (by kernel_rfl) ht (by kernel_rfl) (by kernel_rfl) ?_
     obtain⟨W6,hW6⟩:∃W6:World,W6=w5.setCells (w.heap.size+1+1) 17 (#[.int .i64 r.st.r.id,.int .i64 r.st.r.ep,.float .f64 r.st.r.lo,.float .f64 r.st.r.hi,.int .i64 r.st.f.w,.int .i64 r.st.f.l,.int .i64 r.st.f.n,.int .i64 r.st.c.w,.int .i64 r.st.c.l,.int .i64 r.st.c.n,.slice C1 m1 d1,.slice C2 m2 d2]:Array Value).toList:=⟨_,rfl⟩
     rw[←hW6]
     obtain⟨x6,x7,hfin⟩:=HS W6 hW6
     clear HS hW6)
   |(guard_target=~ wpList _ _ _ _ _ _;refine wpList_load_row rfl 69 _ rfl (w.heap.size+1+1) (by kernel_rfl) _ _ (0,0) _ x6 rfl rfl (by kernel_rfl) ?_)
   |(guard_target=~ wpList _ _ _ _ _ _;refine wpList_store_row rfl 69 _ _ rfl (w.heap.size+1) (r.vals ⟨⟨A1,r.rd.length,q1⟩,⟨A2,r.wr.length,q2⟩,⟨A3,r.ps.length,q3⟩,⟨A4,r.pr.length,q4⟩,⟨C1,m1,d1⟩,⟨C2,m2,d2⟩⟩) (by kernel_rfl) (by kernel_rfl) _ _ x7 (by kernel_rfl) (by kernel_rfl) (by kernel_rfl) ?_))
  refine post_cell rfl (by rfl) (x7.setRow _) rfl rfl (by kernel_rfl) ?_
  obtain⟨hbF,hkF,hsF⟩:=hfin (r.vals ⟨⟨A1,r.rd.length,q1⟩,⟨A2,r.wr.length,q2⟩,⟨A3,r.ps.length,q3⟩,⟨A4,r.pr.length,q4⟩,⟨C1,m1,d1⟩,⟨C2,m2,d2⟩⟩)
  generalize (W6.setRow (w.heap.size+1) (r.vals ⟨⟨A1,r.rd.length,q1⟩,⟨A2,r.wr.length,q2⟩,⟨A3,r.ps.length,q3⟩,⟨A4,r.pr.length,q4⟩,⟨C1,m1,d1⟩,⟨C2,m2,d2⟩⟩))=W7 at*
  replace L1:=L1.keep KyRel.kept KyRel.mono (w':=W7) (fun j h1 _=>hkF j h1) (Nat.le_of_eq hsF.symm)
  replace L2:=L2.keep WtRel.kept WtRel.mono (w':=W7) (fun j h1 _=>hkF j h1) (Nat.le_of_eq hsF.symm)
  replace L3:=L3.keep NmRel.kept NmRel.mono (w':=W7) (fun j h1 _=>hkF j h1) (Nat.le_of_eq hsF.symm)
  replace L4:=L4.keep WtRel.kept WtRel.mono (w':=W7) (fun j h1 _=>hkF j h1) (Nat.le_of_eq hsF.symm)
  replace LH:=LH.keep HsRel.kept HsRel.mono (w':=W7) (fun j h1 _=>hkF j h1) (Nat.le_of_eq hsF.symm)
  replace LP:=LP.keep PnRel.kept PnRel.mono (w':=W7) (fun j h1 _=>hkF j h1) (Nat.le_of_eq hsF.symm)
  have L1':=HdRel.hd (Lst.wide (S:=w.heap.size) KyRel.mono L1 (by omega) (Nat.le_refl _))
  have L2':=HdRel.hd (Lst.wide (S:=w.heap.size) WtRel.mono L2 (by omega) (Nat.le_refl _))
  have L3':=HdRel.hd (Lst.wide (S:=w.heap.size) NmRel.mono L3 (by omega) (Nat.le_refl _))
  have L4':=HdRel.hd (Lst.wide (S:=w.heap.size) WtRel.mono L4 (by omega) (Nat.le_refl _))
  have LH':=HdRel.hd (Lst.wide (S:=w.heap.size) HsRel.mono LH (by omega) (Nat.le_refl _))
  have LP':=HdRel.hd (Lst.wide (S:=w.heap.size) PnRel.mono LP (by omega) (Nat.le_refl _))
  have h1:∀{a b:Nat},a≤b∧b≤maxLen→a≤maxLen:=fun h=>Nat.le_trans h.1 h.2
  exact⟨⟨⟨⟨A1,r.rd.length,q1⟩,⟨A2,r.wr.length,q2⟩,⟨A3,r.ps.length,q3⟩,⟨A4,r.pr.length,q4⟩,⟨C1,m1,d1⟩,⟨C2,m2,d2⟩⟩,rfl,⟨L1'.2,L2'.2,L3'.2,L4'.2,LH'.2,LP'.2⟩,⟨L1'.1,L2'.1,L3'.1,L4'.1,LH'.1,LP'.1,h1 L1'.2,h1 L2'.2,h1 L3'.2,h1 L4'.2,h1 LH'.2,h1 LP'.2⟩⟩,hbF⟩
end Go.Proofs.YtcalkfgibflbnaaGreat
