/- The walks of the document's bytes of a record, and of its Encode. -/
import Derived.Test.YtcalkfgibflbnaaGreatKaab
import Derived.Test.YtcalkfgibflbnaaGreatKaaj
import Derived.Test.YtcalkfgibflbnaaGreatKadh
import Derived.Test.YtcalkfgibflbnaaGreatKadj
namespace Go.Proofs.YtcalkfgibflbnaaGreat
set_option maxHeartbeats 2000000
set_option maxRecDepth 100000
set_option linter.unusedVariables false
open Go.RowKit Fl
attribute [local go_sem] run_store_float
theorem encSp_len {s:Sp} (ok:s.ok):(encSp s).length≤30:=by
 have h1:=encI_len ok.1.1 ok.1.2
 have h2:=encI_len ok.2.1.1 ok.2.1.2
 have h3:=encI_len ok.2.2.1 ok.2.2.2
 unfold encSp;rw[List.length_append,List.length_append];omega
theorem encTx_len {s:Tx} (ok:s.ok):(encTx s).length≤30:=by
 have h1:=encI_len ok.1.1 ok.1.2
 have h2:=encI_len ok.2.1.1 ok.2.1.2
 have h3:=encI_len ok.2.2.1 ok.2.2.2
 unfold encTx;rw[List.length_append,List.length_append];omega
theorem xBody_1 (r:Rc) (h:Hds) (w:World) (hk:r.k=1) (ok:r.ok) (i:RcIn w r h) (hlen:(encBody r).length≤1000000000000):
 Calls Tryz.prog 120 #[.agg (r.vals h)] w (RowPost w (encBody r)):=by
 obtain⟨i0,hi0,hz0,hz1,hz2⟩:=info_partsW u8_info
 have hE:encBody r=encSt r.st:=by unfold encBody;simp[hk]
 rw[hE]at hlen ⊢
 clear hE
 obtain⟨k,t,s,pv,cm,n,pt,rd,wr,ps,pr,st⟩:=r
 change k=1 at hk
 subst hk
 have HX:Below w.heap.size w (w.alloc (.cells (Rc.vals ⟨1,t,s,pv,cm,n,pt,rd,wr,ps,pr,st⟩ h) 69)):=by go_grown
 have HB:w.heap.size<(w.alloc (.cells (Rc.vals ⟨1,t,s,pv,cm,n,pt,rd,wr,ps,pr,st⟩ h) 69)).heap.size:=by simp
 have HBK:Blk (w.alloc (.cells (Rc.vals ⟨1,t,s,pv,cm,n,pt,rd,wr,ps,pr,st⟩ h) 69)) w.heap.size 69 #[.int .i64 1,.int .i64 t.c,.int .i64 t.l,.int .i64 t.s,.int .i64 s.w,.int .i64 s.l,.int .i64 s.n,.int .i64 pv.w,.int .i64 pv.l,.int .i64 pv.n,.bool cm,.int .i64 n,.float .f64 pt,h.a.v,h.b.v,h.c.v,h.d.v,.int .i64 st.r.id,.int .i64 st.r.ep,.float .f64 st.r.lo,.float .f64 st.r.hi,.int .i64 st.f.w,.int .i64 st.f.l,.int .i64 st.f.n,.int .i64 st.c.w,.int .i64 st.c.l,.int .i64 st.c.n,h.e.v,h.f.v]:=Blk.new _ _ _
 have IX:=i.below HX
 have C17:=cl (HBK.cell 17)
 have C18:=cl (HBK.cell 18)
 have C19:=cl (HBK.cell 19)
 have C20:=cl (HBK.cell 20)
 have C21:=cl (HBK.cell 21)
 have C22:=cl (HBK.cell 22)
 have C23:=cl (HBK.cell 23)
 have C24:=cl (HBK.cell 24)
 have C25:=cl (HBK.cell 25)
 have C26:=cl (HBK.cell 26)
 have C27:=cl (HBK.cell 27)
 have C28:=cl (HBK.cell 28)
 have K0:=cl (HBK.cell 0)
 go_enter Tryz.func120,Tryz.ntmps120
 have kn1:=ok.n.1
 have kn2:=ok.n.2
 have e1:=encTx_len ok.t
 have e2:=encSp_len ok.s
 have e3:=encSp_len ok.pv
 have e4:(encI n).length≤10:=encI_len ok.n.1 ok.n.2
 have e5:(encF64 pt).length=8:=leW_len 8 _
 have e6:(encB cm).length=1:=rfl
 go_wp2_with fail
 refine(xState st h.e.A h.f.A h.e.n h.f.n h.e.c h.f.c _ ok.rg ok.fl ok.cl IX.hs IX.pn IX.ne IX.nf hlen).mono ?_
 rintro e w1 ⟨A1,q1,rfl,hq1,hm1,hown1,hb1⟩
 have hrow1:RowRel (w.alloc (.cells (Rc.vals ⟨1,t,s,pv,cm,n,pt,rd,wr,ps,pr,st⟩ h) 69)) (encSt st) (.slice A1 (encSt st).length q1) w1:=⟨hown1,hb1⟩
 have c1_17:=up C17 hrow1.2 HB
 have c1_18:=up C18 hrow1.2 HB
 have c1_19:=up C19 hrow1.2 HB
 have c1_20:=up C20 hrow1.2 HB
 have c1_21:=up C21 hrow1.2 HB
 have c1_22:=up C22 hrow1.2 HB
 have c1_23:=up C23 hrow1.2 HB
 have c1_24:=up C24 hrow1.2 HB
 have c1_25:=up C25 hrow1.2 HB
 have c1_26:=up C26 hrow1.2 HB
 have c1_27:=up C27 hrow1.2 HB
 have c1_28:=up C28 hrow1.2 HB
 go_wp2
 have HP:=RowPost.down HX hrow1.post
 have HQ:encSt st=encSt st:=by rfl
 go_ret
 rw[HQ]
 exact HP
theorem xBody_2 (r:Rc) (h:Hds) (w:World) (hk:r.k=2) (ok:r.ok) (i:RcIn w r h) (hlen:(encBody r).length≤1000000000000):
 Calls Tryz.prog 120 #[.agg (r.vals h)] w (RowPost w (encBody r)):=by
 obtain⟨i0,hi0,hz0,hz1,hz2⟩:=info_partsW u8_info
 have hE:encBody r=encI r.n:=by unfold encBody;simp[hk]
 rw[hE]at hlen ⊢
 clear hE
 obtain⟨k,t,s,pv,cm,n,pt,rd,wr,ps,pr,st⟩:=r
 change k=2 at hk
 subst hk
 have HX:Below w.heap.size w (w.alloc (.cells (Rc.vals ⟨2,t,s,pv,cm,n,pt,rd,wr,ps,pr,st⟩ h) 69)):=by go_grown
 have HB:w.heap.size<(w.alloc (.cells (Rc.vals ⟨2,t,s,pv,cm,n,pt,rd,wr,ps,pr,st⟩ h) 69)).heap.size:=by simp
 have HBK:Blk (w.alloc (.cells (Rc.vals ⟨2,t,s,pv,cm,n,pt,rd,wr,ps,pr,st⟩ h) 69)) w.heap.size 69 #[.int .i64 2,.int .i64 t.c,.int .i64 t.l,.int .i64 t.s,.int .i64 s.w,.int .i64 s.l,.int .i64 s.n,.int .i64 pv.w,.int .i64 pv.l,.int .i64 pv.n,.bool cm,.int .i64 n,.float .f64 pt,h.a.v,h.b.v,h.c.v,h.d.v,.int .i64 st.r.id,.int .i64 st.r.ep,.float .f64 st.r.lo,.float .f64 st.r.hi,.int .i64 st.f.w,.int .i64 st.f.l,.int .i64 st.f.n,.int .i64 st.c.w,.int .i64 st.c.l,.int .i64 st.c.n,h.e.v,h.f.v]:=Blk.new _ _ _
 have IX:=i.below HX
 have C11:=cl (HBK.cell 11)
 have K0:=cl (HBK.cell 0)
 go_enter Tryz.func120,Tryz.ntmps120
 have kn1:=ok.n.1
 have kn2:=ok.n.2
 have e1:=encTx_len ok.t
 have e2:=encSp_len ok.s
 have e3:=encSp_len ok.pv
 have e4:(encI n).length≤10:=encI_len ok.n.1 ok.n.2
 have e5:(encF64 pt).length=8:=leW_len 8 _
 have e6:(encB cm).length=1:=rfl
 go_wp2_with fail
 refine(xint n _ ok.n.1 ok.n.2).mono ?_
 rintro e w1 ⟨A1,q1,rfl,hq1,hm1,hown1,hb1⟩
 have hrow1:RowRel (w.alloc (.cells (Rc.vals ⟨2,t,s,pv,cm,n,pt,rd,wr,ps,pr,st⟩ h) 69)) (encI n) (.slice A1 (encI n).length q1) w1:=⟨hown1,hb1⟩
 have c1_11:=up C11 hrow1.2 HB
 go_wp2
 have HP:=RowPost.down HX hrow1.post
 have HQ:encI n=encI n:=by rfl
 go_ret
 rw[HQ]
 exact HP
theorem xBody_7 (r:Rc) (h:Hds) (w:World) (hk:r.k=7) (ok:r.ok) (i:RcIn w r h) (hlen:(encBody r).length≤1000000000000):
 Calls Tryz.prog 120 #[.agg (r.vals h)] w (RowPost w (encBody r)):=by
 obtain⟨i0,hi0,hz0,hz1,hz2⟩:=info_partsW u8_info
 have hE:encBody r=encI r.n:=by unfold encBody;simp[hk]
 rw[hE]at hlen ⊢
 clear hE
 obtain⟨k,t,s,pv,cm,n,pt,rd,wr,ps,pr,st⟩:=r
 change k=7 at hk
 subst hk
 have HX:Below w.heap.size w (w.alloc (.cells (Rc.vals ⟨7,t,s,pv,cm,n,pt,rd,wr,ps,pr,st⟩ h) 69)):=by go_grown
 have HB:w.heap.size<(w.alloc (.cells (Rc.vals ⟨7,t,s,pv,cm,n,pt,rd,wr,ps,pr,st⟩ h) 69)).heap.size:=by simp
 have HBK:Blk (w.alloc (.cells (Rc.vals ⟨7,t,s,pv,cm,n,pt,rd,wr,ps,pr,st⟩ h) 69)) w.heap.size 69 #[.int .i64 7,.int .i64 t.c,.int .i64 t.l,.int .i64 t.s,.int .i64 s.w,.int .i64 s.l,.int .i64 s.n,.int .i64 pv.w,.int .i64 pv.l,.int .i64 pv.n,.bool cm,.int .i64 n,.float .f64 pt,h.a.v,h.b.v,h.c.v,h.d.v,.int .i64 st.r.id,.int .i64 st.r.ep,.float .f64 st.r.lo,.float .f64 st.r.hi,.int .i64 st.f.w,.int .i64 st.f.l,.int .i64 st.f.n,.int .i64 st.c.w,.int .i64 st.c.l,.int .i64 st.c.n,h.e.v,h.f.v]:=Blk.new _ _ _
 have IX:=i.below HX
 have C11:=cl (HBK.cell 11)
 have K0:=cl (HBK.cell 0)
 go_enter Tryz.func120,Tryz.ntmps120
 have kn1:=ok.n.1
 have kn2:=ok.n.2
 have e1:=encTx_len ok.t
 have e2:=encSp_len ok.s
 have e3:=encSp_len ok.pv
 have e4:(encI n).length≤10:=encI_len ok.n.1 ok.n.2
 have e5:(encF64 pt).length=8:=leW_len 8 _
 have e6:(encB cm).length=1:=rfl
 go_wp2_with fail
 refine(xint n _ ok.n.1 ok.n.2).mono ?_
 rintro e w1 ⟨A1,q1,rfl,hq1,hm1,hown1,hb1⟩
 have hrow1:RowRel (w.alloc (.cells (Rc.vals ⟨7,t,s,pv,cm,n,pt,rd,wr,ps,pr,st⟩ h) 69)) (encI n) (.slice A1 (encI n).length q1) w1:=⟨hown1,hb1⟩
 have c1_11:=up C11 hrow1.2 HB
 go_wp2
 have HP:=RowPost.down HX hrow1.post
 have HQ:encI n=encI n:=by rfl
 go_ret
 rw[HQ]
 exact HP
theorem xBody_8 (r:Rc) (h:Hds) (w:World) (hk:r.k=8) (ok:r.ok) (i:RcIn w r h) (hlen:(encBody r).length≤1000000000000):
 Calls Tryz.prog 120 #[.agg (r.vals h)] w (RowPost w (encBody r)):=by
 obtain⟨i0,hi0,hz0,hz1,hz2⟩:=info_partsW u8_info
 have hE:encBody r=encI r.n:=by unfold encBody;simp[hk]
 rw[hE]at hlen ⊢
 clear hE
 obtain⟨k,t,s,pv,cm,n,pt,rd,wr,ps,pr,st⟩:=r
 change k=8 at hk
 subst hk
 have HX:Below w.heap.size w (w.alloc (.cells (Rc.vals ⟨8,t,s,pv,cm,n,pt,rd,wr,ps,pr,st⟩ h) 69)):=by go_grown
 have HB:w.heap.size<(w.alloc (.cells (Rc.vals ⟨8,t,s,pv,cm,n,pt,rd,wr,ps,pr,st⟩ h) 69)).heap.size:=by simp
 have HBK:Blk (w.alloc (.cells (Rc.vals ⟨8,t,s,pv,cm,n,pt,rd,wr,ps,pr,st⟩ h) 69)) w.heap.size 69 #[.int .i64 8,.int .i64 t.c,.int .i64 t.l,.int .i64 t.s,.int .i64 s.w,.int .i64 s.l,.int .i64 s.n,.int .i64 pv.w,.int .i64 pv.l,.int .i64 pv.n,.bool cm,.int .i64 n,.float .f64 pt,h.a.v,h.b.v,h.c.v,h.d.v,.int .i64 st.r.id,.int .i64 st.r.ep,.float .f64 st.r.lo,.float .f64 st.r.hi,.int .i64 st.f.w,.int .i64 st.f.l,.int .i64 st.f.n,.int .i64 st.c.w,.int .i64 st.c.l,.int .i64 st.c.n,h.e.v,h.f.v]:=Blk.new _ _ _
 have IX:=i.below HX
 have C11:=cl (HBK.cell 11)
 have K0:=cl (HBK.cell 0)
 go_enter Tryz.func120,Tryz.ntmps120
 have kn1:=ok.n.1
 have kn2:=ok.n.2
 have e1:=encTx_len ok.t
 have e2:=encSp_len ok.s
 have e3:=encSp_len ok.pv
 have e4:(encI n).length≤10:=encI_len ok.n.1 ok.n.2
 have e5:(encF64 pt).length=8:=leW_len 8 _
 have e6:(encB cm).length=1:=rfl
 go_wp2_with fail
 refine(xint n _ ok.n.1 ok.n.2).mono ?_
 rintro e w1 ⟨A1,q1,rfl,hq1,hm1,hown1,hb1⟩
 have hrow1:RowRel (w.alloc (.cells (Rc.vals ⟨8,t,s,pv,cm,n,pt,rd,wr,ps,pr,st⟩ h) 69)) (encI n) (.slice A1 (encI n).length q1) w1:=⟨hown1,hb1⟩
 have c1_11:=up C11 hrow1.2 HB
 go_wp2
 have HP:=RowPost.down HX hrow1.post
 have HQ:encI n=encI n:=by rfl
 go_ret
 rw[HQ]
 exact HP
theorem xBody_3 (r:Rc) (h:Hds) (w:World) (hk:r.k=3) (ok:r.ok) (i:RcIn w r h) (hlen:(encBody r).length≤1000000000000):
 Calls Tryz.prog 120 #[.agg (r.vals h)] w (RowPost w (encBody r)):=by
 obtain⟨i0,hi0,hz0,hz1,hz2⟩:=info_partsW u8_info
 have hE:encBody r=(encTx r.t++(encSp r.s++(encLs encKy r.rd++encLs encWt r.wr)))++(encLs encI r.ps):=by unfold encBody;simp[hk,encPn]
 rw[hE]at hlen ⊢
 clear hE
 obtain⟨k,t,s,pv,cm,n,pt,rd,wr,ps,pr,st⟩:=r
 change k=3 at hk
 subst hk
 have HX:Below w.heap.size w (w.alloc (.cells (Rc.vals ⟨3,t,s,pv,cm,n,pt,rd,wr,ps,pr,st⟩ h) 69)):=by go_grown
 have HB:w.heap.size<(w.alloc (.cells (Rc.vals ⟨3,t,s,pv,cm,n,pt,rd,wr,ps,pr,st⟩ h) 69)).heap.size:=by simp
 have HBK:Blk (w.alloc (.cells (Rc.vals ⟨3,t,s,pv,cm,n,pt,rd,wr,ps,pr,st⟩ h) 69)) w.heap.size 69 #[.int .i64 3,.int .i64 t.c,.int .i64 t.l,.int .i64 t.s,.int .i64 s.w,.int .i64 s.l,.int .i64 s.n,.int .i64 pv.w,.int .i64 pv.l,.int .i64 pv.n,.bool cm,.int .i64 n,.float .f64 pt,h.a.v,h.b.v,h.c.v,h.d.v,.int .i64 st.r.id,.int .i64 st.r.ep,.float .f64 st.r.lo,.float .f64 st.r.hi,.int .i64 st.f.w,.int .i64 st.f.l,.int .i64 st.f.n,.int .i64 st.c.w,.int .i64 st.c.l,.int .i64 st.c.n,h.e.v,h.f.v]:=Blk.new _ _ _
 have IX:=i.below HX
 have C1:=cl (HBK.cell 1)
 have C2:=cl (HBK.cell 2)
 have C3:=cl (HBK.cell 3)
 have C4:=cl (HBK.cell 4)
 have C5:=cl (HBK.cell 5)
 have C6:=cl (HBK.cell 6)
 have C13:=cl (HBK.cell 13)
 have C14:=cl (HBK.cell 14)
 have C15:=cl (HBK.cell 15)
 have K0:=cl (HBK.cell 0)
 simp only[List.length_append]at hlen
 go_enter Tryz.func120,Tryz.ntmps120
 have kn1:=ok.n.1
 have kn2:=ok.n.2
 have e1:=encTx_len ok.t
 have e2:=encSp_len ok.s
 have e3:=encSp_len ok.pv
 have e4:(encI n).length≤10:=encI_len ok.n.1 ok.n.2
 have e5:(encF64 pt).length=8:=leW_len 8 _
 have e6:(encB cm).length=1:=rfl
 go_wp2_with fail
 refine wp_region_held_drew (S:=fun W'=>Below ((w.alloc (.cells (Rc.vals ⟨3,t,s,pv,cm,n,pt,rd,wr,ps,pr,st⟩ h) 69))).heap.size ((w.alloc (.cells (Rc.vals ⟨3,t,s,pv,cm,n,pt,rd,wr,ps,pr,st⟩ h) 69))) W') (by kernel_rfl) (Below.refl _ _).drew (fun hHeld=>?_)
 refine tc 0 20 ?_
 go_frame
 refine tl 1 21 rfl (yieldsIf_load_mid (by rfl) _ _ rfl (w.heap.size) 1 rfl [.int .i64 t.c,.int .i64 t.l,.int .i64 t.s] _ (fun W hSw=>(HBK.below hSw HB).range 1 _ (three_of rfl rfl rfl)) rfl rfl (by kernel_rfl)) ?_
 go_frame
 refine tc 3 23 ?_
 go_frame
 refine tl 4 24 rfl (yieldsIf_load_mid (by rfl) _ _ rfl (w.heap.size) 4 rfl [.int .i64 s.w,.int .i64 s.l,.int .i64 s.n] _ (fun W hSw=>(HBK.below hSw HB).range 4 _ (three_of rfl rfl rfl)) rfl rfl (by kernel_rfl)) ?_
 go_frame
 have s0:Below ((w.alloc (.cells (Rc.vals ⟨3,t,s,pv,cm,n,pt,rd,wr,ps,pr,st⟩ h) 69))).heap.size ((w.alloc (.cells (Rc.vals ⟨3,t,s,pv,cm,n,pt,rd,wr,ps,pr,st⟩ h) 69))) ((w.alloc (.cells (Rc.vals ⟨3,t,s,pv,cm,n,pt,rd,wr,ps,pr,st⟩ h) 69))).drew:=(Below.refl _ _).drew
 refine tr (o:=⟨some 22,_,_,_,_,_⟩) 2 rfl fun K hK=>?_
 go_simp
 (with_reducible refine(xTxn t _ ok.t).mono ?_)
 rintro e w1 ⟨A1,q1,rfl,hq1,hm1,hown1,hb1⟩
 have s1:Below ((w.alloc (.cells (Rc.vals ⟨3,t,s,pv,cm,n,pt,rd,wr,ps,pr,st⟩ h) 69))).heap.size ((w.alloc (.cells (Rc.vals ⟨3,t,s,pv,cm,n,pt,rd,wr,ps,pr,st⟩ h) 69))) w1:=s0.trans (hb1.mono (s0).size)
 refine hK.out _ _ s1 (fun hHeld=>?_)
 clear hK K
 try go_frame
 have hrow1:RowRel ((w.alloc (.cells (Rc.vals ⟨3,t,s,pv,cm,n,pt,rd,wr,ps,pr,st⟩ h) 69))) (encTx t) (.slice A1 (encTx t).length q1) w1:=⟨hown1,s1⟩
 refine tr (o:=⟨some 25,_,_,_,_,_⟩) 5 rfl fun K hK=>?_
 go_simp
 (with_reducible refine(xStamp s _ ok.s).mono ?_)
 rintro e w2 ⟨A2,q2,rfl,hq2,hm2,hown2,hb2⟩
 have s2:Below ((w.alloc (.cells (Rc.vals ⟨3,t,s,pv,cm,n,pt,rd,wr,ps,pr,st⟩ h) 69))).heap.size ((w.alloc (.cells (Rc.vals ⟨3,t,s,pv,cm,n,pt,rd,wr,ps,pr,st⟩ h) 69))) w2:=s1.trans (hb2.mono (s1).size)
 refine hK.out _ _ s2 (fun hHeld=>?_)
 clear hK K
 try go_frame
 have hrow2:=hrow1.below hb2
 have za:(encTx t).length+(encSp s).length≤maxLen:=by unfold maxLen;omega
 have zb:((encTx t).length+(encSp s).length)*1≤140737488355328:=by omega
 refine tr (o:=⟨some 26,_,_,_,_,_⟩) 6 rfl fun K hK=>?_
 refine step_append_any _ rfl _ _ _ rfl ((w.alloc (.cells (Rc.vals ⟨3,t,s,pv,cm,n,pt,rd,wr,ps,pr,st⟩ h) 69))).heap.size 5 i0 _ 1 1 Tryz.underlying49 hi0 hz0 hz1 hz2 rfl (by omega) (.slice A1 (encTx t).length q1) _ (bytesV (encTx t)) (by rfl) hrow2.1 w2.heap.size A2 (encSp s).length q2 (bytesV (encSp s)) (by rfl) (Reads.of_own hown2) (bytesV_one _) za zb hrow2.2.size ?_
 intro v2' w2' hown2' hg2' hat2'
 have hr2:=hrow2.push (Below.refl _ _) hown2' hg2'
 obtain⟨P2,HP2,LP2⟩:=named (encTx t) (encSp s)
 rw[←HP2.out]at hr2
 obtain⟨A2',q2',rfl,hq2',hm2'⟩:=own_form hr2.1
 refine hK.out _ _ hr2.2 (fun hHeld=>?_)
 clear hK K
 try go_frame
 refine tc 7 3 ?_
 go_frame
 refine td ?_
 clear za zb hown2' hg2' hat2' hrow1 hrow2 hown1 hown2 hb1 hb2 s0 s1 s2 hHeld
 have c2_1:=up C1 hr2.2 HB
 have c2_2:=up C2 hr2.2 HB
 have c2_3:=up C3 hr2.2 HB
 have c2_4:=up C4 hr2.2 HB
 have c2_5:=up C5 hr2.2 HB
 have c2_6:=up C6 hr2.2 HB
 have c2_13:=up C13 hr2.2 HB
 have c2_14:=up C14 hr2.2 HB
 have c2_15:=up C15 hr2.2 HB
 go_wp2_with fail
 refine(xTexts h.a.A h.a.n h.a.c rd _ ((IX.below hr2.2).rd) IX.na (by omega)).mono ?_
 rintro e w3 ⟨A3,q3,rfl,hq3,hm3,hown3,hb3⟩
 have hrow3:=hr2.below hb3
 have z3a:(P2).length+(encLs encKy rd).length≤maxLen:=by unfold maxLen;have:=LP2.out;omega
 have z3b:((P2).length+(encLs encKy rd).length)*1≤140737488355328:=by have:=LP2.out;omega
 go_wp2_with (at_builtin;refine wpList_append_any _ rfl _ _ _ rfl ((w.alloc (.cells (Rc.vals ⟨3,t,s,pv,cm,n,pt,rd,wr,ps,pr,st⟩ h) 69))).heap.size 5 i0 _ 1 1 Tryz.underlying49 hi0 hz0 hz1 hz2 rfl (by omega) (.slice A2' P2.length q2') _ (bytesV (P2)) (by rfl) hrow3.1 w3.heap.size A3 (encLs encKy rd).length q3 (bytesV (encLs encKy rd)) (by rfl) (Reads.of_own hown3) (bytesV_one _) z3a z3b hrow3.2.size ?_;intro v3' w3' hown3' hg3' hat3';have hr3:=hrow3.push (Below.refl _ _) hown3' hg3';obtain⟨P3,HP3,LP3⟩:=named (P2) (encLs encKy rd);rw[←HP3.out]at hr3;obtain⟨A3',q3',rfl,hq3',hm3'⟩:=own_form hr3.1;have c3_1:=up C1 hr3.2 HB;have c3_2:=up C2 hr3.2 HB;have c3_3:=up C3 hr3.2 HB;have c3_4:=up C4 hr3.2 HB;have c3_5:=up C5 hr3.2 HB;have c3_6:=up C6 hr3.2 HB;have c3_13:=up C13 hr3.2 HB;have c3_14:=up C14 hr3.2 HB;have c3_15:=up C15 hr3.2 HB)
 clear z3a z3b hown3' hg3' hat3' hrow3 hown3 hb3
 go_wp2_with fail
 refine(xWrites h.b.A h.b.n h.b.c wr _ ((IX.below hr3.2).wr) IX.nb (by omega)).mono ?_
 rintro e w4 ⟨A4,q4,rfl,hq4,hm4,hown4,hb4⟩
 have hrow4:=hr3.below hb4
 have z4a:(P3).length+(encLs encWt wr).length≤maxLen:=by unfold maxLen;have:=LP2.out;have:=LP3.out;omega
 have z4b:((P3).length+(encLs encWt wr).length)*1≤140737488355328:=by have:=LP2.out;have:=LP3.out;omega
 go_wp2_with (at_builtin;refine wpList_append_any _ rfl _ _ _ rfl ((w.alloc (.cells (Rc.vals ⟨3,t,s,pv,cm,n,pt,rd,wr,ps,pr,st⟩ h) 69))).heap.size 5 i0 _ 1 1 Tryz.underlying49 hi0 hz0 hz1 hz2 rfl (by omega) (.slice A3' P3.length q3') _ (bytesV (P3)) (by rfl) hrow4.1 w4.heap.size A4 (encLs encWt wr).length q4 (bytesV (encLs encWt wr)) (by rfl) (Reads.of_own hown4) (bytesV_one _) z4a z4b hrow4.2.size ?_;intro v4' w4' hown4' hg4' hat4';have hr4:=hrow4.push (Below.refl _ _) hown4' hg4';obtain⟨P4,HP4,LP4⟩:=named (P3) (encLs encWt wr);rw[←HP4.out]at hr4;obtain⟨A4',q4',rfl,hq4',hm4'⟩:=own_form hr4.1;have c4_1:=up C1 hr4.2 HB;have c4_2:=up C2 hr4.2 HB;have c4_3:=up C3 hr4.2 HB;have c4_4:=up C4 hr4.2 HB;have c4_5:=up C5 hr4.2 HB;have c4_6:=up C6 hr4.2 HB;have c4_13:=up C13 hr4.2 HB;have c4_14:=up C14 hr4.2 HB;have c4_15:=up C15 hr4.2 HB)
 clear z4a z4b hown4' hg4' hat4' hrow4 hown4 hb4
 go_wp2_with fail
 refine(xInts h.c.A h.c.n h.c.c ps _ ((IX.below hr4.2).ps) IX.nc (by omega)).mono ?_
 rintro e w5 ⟨A5,q5,rfl,hq5,hm5,hown5,hb5⟩
 have hrow5:=hr4.below hb5
 have z5a:(P4).length+(encLs encI ps).length≤maxLen:=by unfold maxLen;have:=LP2.out;have:=LP3.out;have:=LP4.out;omega
 have z5b:((P4).length+(encLs encI ps).length)*1≤140737488355328:=by have:=LP2.out;have:=LP3.out;have:=LP4.out;omega
 go_wp2_with (at_builtin;refine wpList_append_any _ rfl _ _ _ rfl ((w.alloc (.cells (Rc.vals ⟨3,t,s,pv,cm,n,pt,rd,wr,ps,pr,st⟩ h) 69))).heap.size 5 i0 _ 1 1 Tryz.underlying49 hi0 hz0 hz1 hz2 rfl (by omega) (.slice A4' P4.length q4') _ (bytesV (P4)) (by rfl) hrow5.1 w5.heap.size A5 (encLs encI ps).length q5 (bytesV (encLs encI ps)) (by rfl) (Reads.of_own hown5) (bytesV_one _) z5a z5b hrow5.2.size ?_;intro v5' w5' hown5' hg5' hat5';have hr5:=hrow5.push (Below.refl _ _) hown5' hg5';obtain⟨P5,HP5,LP5⟩:=named (P4) (encLs encI ps);rw[←HP5.out]at hr5;obtain⟨A5',q5',rfl,hq5',hm5'⟩:=own_form hr5.1;have c5_1:=up C1 hr5.2 HB;have c5_2:=up C2 hr5.2 HB;have c5_3:=up C3 hr5.2 HB;have c5_4:=up C4 hr5.2 HB;have c5_5:=up C5 hr5.2 HB;have c5_6:=up C6 hr5.2 HB;have c5_13:=up C13 hr5.2 HB;have c5_14:=up C14 hr5.2 HB;have c5_15:=up C15 hr5.2 HB)
 clear z5a z5b hown5' hg5' hat5' hrow5 hown5 hb5
 go_wp2
 have HP:=RowPost.down HX hr5.post
 have HQ:(encTx t++(encSp s++(encLs encKy rd++encLs encWt wr)))++(encLs encI ps)=P5:=by rw[HP5.out,HP4.out,HP3.out,HP2.out];simp only[List.append_assoc]
 go_ret
 rw[HQ]
 exact HP
theorem xBody_4 (r:Rc) (h:Hds) (w:World) (hk:r.k=4) (ok:r.ok) (i:RcIn w r h) (hlen:(encBody r).length≤1000000000000):
 Calls Tryz.prog 120 #[.agg (r.vals h)] w (RowPost w (encBody r)):=by
 obtain⟨i0,hi0,hz0,hz1,hz2⟩:=info_partsW u8_info
 have hE:encBody r=encTx r.t++(encB r.cm++(encSp r.s)):=by unfold encBody;simp[hk]
 rw[hE]at hlen ⊢
 clear hE
 obtain⟨k,t,s,pv,cm,n,pt,rd,wr,ps,pr,st⟩:=r
 change k=4 at hk
 subst hk
 have HX:Below w.heap.size w (w.alloc (.cells (Rc.vals ⟨4,t,s,pv,cm,n,pt,rd,wr,ps,pr,st⟩ h) 69)):=by go_grown
 have HB:w.heap.size<(w.alloc (.cells (Rc.vals ⟨4,t,s,pv,cm,n,pt,rd,wr,ps,pr,st⟩ h) 69)).heap.size:=by simp
 have HBK:Blk (w.alloc (.cells (Rc.vals ⟨4,t,s,pv,cm,n,pt,rd,wr,ps,pr,st⟩ h) 69)) w.heap.size 69 #[.int .i64 4,.int .i64 t.c,.int .i64 t.l,.int .i64 t.s,.int .i64 s.w,.int .i64 s.l,.int .i64 s.n,.int .i64 pv.w,.int .i64 pv.l,.int .i64 pv.n,.bool cm,.int .i64 n,.float .f64 pt,h.a.v,h.b.v,h.c.v,h.d.v,.int .i64 st.r.id,.int .i64 st.r.ep,.float .f64 st.r.lo,.float .f64 st.r.hi,.int .i64 st.f.w,.int .i64 st.f.l,.int .i64 st.f.n,.int .i64 st.c.w,.int .i64 st.c.l,.int .i64 st.c.n,h.e.v,h.f.v]:=Blk.new _ _ _
 have IX:=i.below HX
 have C1:=cl (HBK.cell 1)
 have C2:=cl (HBK.cell 2)
 have C3:=cl (HBK.cell 3)
 have C4:=cl (HBK.cell 4)
 have C5:=cl (HBK.cell 5)
 have C6:=cl (HBK.cell 6)
 have C10:=cl (HBK.cell 10)
 have K0:=cl (HBK.cell 0)
 simp only[List.length_append]at hlen
 go_enter Tryz.func120,Tryz.ntmps120
 have kn1:=ok.n.1
 have kn2:=ok.n.2
 have e1:=encTx_len ok.t
 have e2:=encSp_len ok.s
 have e3:=encSp_len ok.pv
 have e4:(encI n).length≤10:=encI_len ok.n.1 ok.n.2
 have e5:(encF64 pt).length=8:=leW_len 8 _
 have e6:(encB cm).length=1:=rfl
 go_wp2_with fail
 refine wp_region_held_drew (S:=fun W'=>Below ((w.alloc (.cells (Rc.vals ⟨4,t,s,pv,cm,n,pt,rd,wr,ps,pr,st⟩ h) 69))).heap.size ((w.alloc (.cells (Rc.vals ⟨4,t,s,pv,cm,n,pt,rd,wr,ps,pr,st⟩ h) 69))) W') (by kernel_rfl) (Below.refl _ _).drew (fun hHeld=>?_)
 refine tc 0 44 ?_
 go_frame
 refine tl 1 45 rfl (yieldsIf_load_mid (by rfl) _ _ rfl (w.heap.size) 1 rfl [.int .i64 t.c,.int .i64 t.l,.int .i64 t.s] _ (fun W hSw=>(HBK.below hSw HB).range 1 _ (three_of rfl rfl rfl)) rfl rfl (by kernel_rfl)) ?_
 go_frame
 refine tc 3 47 ?_
 go_frame
 refine ts 4 48 rfl (v:=.bool cm) (fun W hSw=>by have z:=(hSw.cell (p:=⟨w.heap.size,10,none⟩) HB).trans C10;clear hSw;go_simp) ?_
 go_frame
 have s0:Below ((w.alloc (.cells (Rc.vals ⟨4,t,s,pv,cm,n,pt,rd,wr,ps,pr,st⟩ h) 69))).heap.size ((w.alloc (.cells (Rc.vals ⟨4,t,s,pv,cm,n,pt,rd,wr,ps,pr,st⟩ h) 69))) ((w.alloc (.cells (Rc.vals ⟨4,t,s,pv,cm,n,pt,rd,wr,ps,pr,st⟩ h) 69))).drew:=(Below.refl _ _).drew
 refine tr (o:=⟨some 46,_,_,_,_,_⟩) 2 rfl fun K hK=>?_
 go_simp
 (with_reducible refine(xTxn t _ ok.t).mono ?_)
 rintro e w1 ⟨A1,q1,rfl,hq1,hm1,hown1,hb1⟩
 have s1:Below ((w.alloc (.cells (Rc.vals ⟨4,t,s,pv,cm,n,pt,rd,wr,ps,pr,st⟩ h) 69))).heap.size ((w.alloc (.cells (Rc.vals ⟨4,t,s,pv,cm,n,pt,rd,wr,ps,pr,st⟩ h) 69))) w1:=s0.trans (hb1.mono (s0).size)
 refine hK.out _ _ s1 (fun hHeld=>?_)
 clear hK K
 try go_frame
 have hrow1:RowRel ((w.alloc (.cells (Rc.vals ⟨4,t,s,pv,cm,n,pt,rd,wr,ps,pr,st⟩ h) 69))) (encTx t) (.slice A1 (encTx t).length q1) w1:=⟨hown1,s1⟩
 refine tr (o:=⟨some 49,_,_,_,_,_⟩) 5 rfl fun K hK=>?_
 go_simp
 (with_reducible refine(xflag cm _).mono ?_)
 rintro e w2 ⟨A2,q2,rfl,hq2,hm2,hown2,hb2⟩
 have s2:Below ((w.alloc (.cells (Rc.vals ⟨4,t,s,pv,cm,n,pt,rd,wr,ps,pr,st⟩ h) 69))).heap.size ((w.alloc (.cells (Rc.vals ⟨4,t,s,pv,cm,n,pt,rd,wr,ps,pr,st⟩ h) 69))) w2:=s1.trans (hb2.mono (s1).size)
 refine hK.out _ _ s2 (fun hHeld=>?_)
 clear hK K
 try go_frame
 have hrow2:=hrow1.below hb2
 have za:(encTx t).length+(encB cm).length≤maxLen:=by unfold maxLen;omega
 have zb:((encTx t).length+(encB cm).length)*1≤140737488355328:=by omega
 refine tr (o:=⟨some 50,_,_,_,_,_⟩) 6 rfl fun K hK=>?_
 refine step_append_any _ rfl _ _ _ rfl ((w.alloc (.cells (Rc.vals ⟨4,t,s,pv,cm,n,pt,rd,wr,ps,pr,st⟩ h) 69))).heap.size 5 i0 _ 1 1 Tryz.underlying49 hi0 hz0 hz1 hz2 rfl (by omega) (.slice A1 (encTx t).length q1) _ (bytesV (encTx t)) (by rfl) hrow2.1 w2.heap.size A2 (encB cm).length q2 (bytesV (encB cm)) (by rfl) (Reads.of_own hown2) (bytesV_one _) za zb hrow2.2.size ?_
 intro v2' w2' hown2' hg2' hat2'
 have hr2:=hrow2.push (Below.refl _ _) hown2' hg2'
 obtain⟨P2,HP2,LP2⟩:=named (encTx t) (encB cm)
 rw[←HP2.out]at hr2
 obtain⟨A2',q2',rfl,hq2',hm2'⟩:=own_form hr2.1
 refine hK.out _ _ hr2.2 (fun hHeld=>?_)
 clear hK K
 try go_frame
 refine tc 7 3 ?_
 go_frame
 refine td ?_
 clear za zb hown2' hg2' hat2' hrow1 hrow2 hown1 hown2 hb1 hb2 s0 s1 s2 hHeld
 have c2_1:=up C1 hr2.2 HB
 have c2_2:=up C2 hr2.2 HB
 have c2_3:=up C3 hr2.2 HB
 have c2_4:=up C4 hr2.2 HB
 have c2_5:=up C5 hr2.2 HB
 have c2_6:=up C6 hr2.2 HB
 have c2_10:=up C10 hr2.2 HB
 go_wp2_with fail
 refine(xStamp s _ ok.s).mono ?_
 rintro e w3 ⟨A3,q3,rfl,hq3,hm3,hown3,hb3⟩
 have hrow3:=hr2.below hb3
 have z3a:(P2).length+(encSp s).length≤maxLen:=by unfold maxLen;have:=LP2.out;omega
 have z3b:((P2).length+(encSp s).length)*1≤140737488355328:=by have:=LP2.out;omega
 go_wp2_with (at_builtin;refine wpList_append_any _ rfl _ _ _ rfl ((w.alloc (.cells (Rc.vals ⟨4,t,s,pv,cm,n,pt,rd,wr,ps,pr,st⟩ h) 69))).heap.size 5 i0 _ 1 1 Tryz.underlying49 hi0 hz0 hz1 hz2 rfl (by omega) (.slice A2' P2.length q2') _ (bytesV (P2)) (by rfl) hrow3.1 w3.heap.size A3 (encSp s).length q3 (bytesV (encSp s)) (by rfl) (Reads.of_own hown3) (bytesV_one _) z3a z3b hrow3.2.size ?_;intro v3' w3' hown3' hg3' hat3';have hr3:=hrow3.push (Below.refl _ _) hown3' hg3';obtain⟨P3,HP3,LP3⟩:=named (P2) (encSp s);rw[←HP3.out]at hr3;obtain⟨A3',q3',rfl,hq3',hm3'⟩:=own_form hr3.1;have c3_1:=up C1 hr3.2 HB;have c3_2:=up C2 hr3.2 HB;have c3_3:=up C3 hr3.2 HB;have c3_4:=up C4 hr3.2 HB;have c3_5:=up C5 hr3.2 HB;have c3_6:=up C6 hr3.2 HB;have c3_10:=up C10 hr3.2 HB)
 clear z3a z3b hown3' hg3' hat3' hrow3 hown3 hb3
 go_wp2
 have HP:=RowPost.down HX hr3.post
 have HQ:encTx t++(encB cm++(encSp s))=P3:=by rw[HP3.out,HP2.out];simp only[List.append_assoc]
 go_ret
 rw[HQ]
 exact HP
theorem xBody_5 (r:Rc) (h:Hds) (w:World) (hk:r.k=5) (ok:r.ok) (i:RcIn w r h) (hlen:(encBody r).length≤1000000000000):
 Calls Tryz.prog 120 #[.agg (r.vals h)] w (RowPost w (encBody r)):=by
 obtain⟨i0,hi0,hz0,hz1,hz2⟩:=info_partsW u8_info
 have hE:encBody r=encSp r.s:=by unfold encBody;simp[hk]
 rw[hE]at hlen ⊢
 clear hE
 obtain⟨k,t,s,pv,cm,n,pt,rd,wr,ps,pr,st⟩:=r
 change k=5 at hk
 subst hk
 have HX:Below w.heap.size w (w.alloc (.cells (Rc.vals ⟨5,t,s,pv,cm,n,pt,rd,wr,ps,pr,st⟩ h) 69)):=by go_grown
 have HB:w.heap.size<(w.alloc (.cells (Rc.vals ⟨5,t,s,pv,cm,n,pt,rd,wr,ps,pr,st⟩ h) 69)).heap.size:=by simp
 have HBK:Blk (w.alloc (.cells (Rc.vals ⟨5,t,s,pv,cm,n,pt,rd,wr,ps,pr,st⟩ h) 69)) w.heap.size 69 #[.int .i64 5,.int .i64 t.c,.int .i64 t.l,.int .i64 t.s,.int .i64 s.w,.int .i64 s.l,.int .i64 s.n,.int .i64 pv.w,.int .i64 pv.l,.int .i64 pv.n,.bool cm,.int .i64 n,.float .f64 pt,h.a.v,h.b.v,h.c.v,h.d.v,.int .i64 st.r.id,.int .i64 st.r.ep,.float .f64 st.r.lo,.float .f64 st.r.hi,.int .i64 st.f.w,.int .i64 st.f.l,.int .i64 st.f.n,.int .i64 st.c.w,.int .i64 st.c.l,.int .i64 st.c.n,h.e.v,h.f.v]:=Blk.new _ _ _
 have IX:=i.below HX
 have C4:=cl (HBK.cell 4)
 have C5:=cl (HBK.cell 5)
 have C6:=cl (HBK.cell 6)
 have K0:=cl (HBK.cell 0)
 go_enter Tryz.func120,Tryz.ntmps120
 have kn1:=ok.n.1
 have kn2:=ok.n.2
 have e1:=encTx_len ok.t
 have e2:=encSp_len ok.s
 have e3:=encSp_len ok.pv
 have e4:(encI n).length≤10:=encI_len ok.n.1 ok.n.2
 have e5:(encF64 pt).length=8:=leW_len 8 _
 have e6:(encB cm).length=1:=rfl
 go_wp2_with fail
 refine(xStamp s _ ok.s).mono ?_
 rintro e w1 ⟨A1,q1,rfl,hq1,hm1,hown1,hb1⟩
 have hrow1:RowRel (w.alloc (.cells (Rc.vals ⟨5,t,s,pv,cm,n,pt,rd,wr,ps,pr,st⟩ h) 69)) (encSp s) (.slice A1 (encSp s).length q1) w1:=⟨hown1,hb1⟩
 have c1_4:=up C4 hrow1.2 HB
 have c1_5:=up C5 hrow1.2 HB
 have c1_6:=up C6 hrow1.2 HB
 go_wp2
 have HP:=RowPost.down HX hrow1.post
 have HQ:encSp s=encSp s:=by rfl
 go_ret
 rw[HQ]
 exact HP
theorem xBody_6 (r:Rc) (h:Hds) (w:World) (hk:r.k=6) (ok:r.ok) (i:RcIn w r h) (hlen:(encBody r).length≤1000000000000):
 Calls Tryz.prog 120 #[.agg (r.vals h)] w (RowPost w (encBody r)):=by
 obtain⟨i0,hi0,hz0,hz1,hz2⟩:=info_partsW u8_info
 have hE:encBody r=encF64 r.pt++(encI r.n++(encSp r.s)):=by unfold encBody;simp[hk]
 rw[hE]at hlen ⊢
 clear hE
 obtain⟨k,t,s,pv,cm,n,pt,rd,wr,ps,pr,st⟩:=r
 change k=6 at hk
 subst hk
 have HX:Below w.heap.size w (w.alloc (.cells (Rc.vals ⟨6,t,s,pv,cm,n,pt,rd,wr,ps,pr,st⟩ h) 69)):=by go_grown
 have HB:w.heap.size<(w.alloc (.cells (Rc.vals ⟨6,t,s,pv,cm,n,pt,rd,wr,ps,pr,st⟩ h) 69)).heap.size:=by simp
 have HBK:Blk (w.alloc (.cells (Rc.vals ⟨6,t,s,pv,cm,n,pt,rd,wr,ps,pr,st⟩ h) 69)) w.heap.size 69 #[.int .i64 6,.int .i64 t.c,.int .i64 t.l,.int .i64 t.s,.int .i64 s.w,.int .i64 s.l,.int .i64 s.n,.int .i64 pv.w,.int .i64 pv.l,.int .i64 pv.n,.bool cm,.int .i64 n,.float .f64 pt,h.a.v,h.b.v,h.c.v,h.d.v,.int .i64 st.r.id,.int .i64 st.r.ep,.float .f64 st.r.lo,.float .f64 st.r.hi,.int .i64 st.f.w,.int .i64 st.f.l,.int .i64 st.f.n,.int .i64 st.c.w,.int .i64 st.c.l,.int .i64 st.c.n,h.e.v,h.f.v]:=Blk.new _ _ _
 have IX:=i.below HX
 have C4:=cl (HBK.cell 4)
 have C5:=cl (HBK.cell 5)
 have C6:=cl (HBK.cell 6)
 have C11:=cl (HBK.cell 11)
 have C12:=cl (HBK.cell 12)
 have K0:=cl (HBK.cell 0)
 simp only[List.length_append]at hlen
 go_enter Tryz.func120,Tryz.ntmps120
 have kn1:=ok.n.1
 have kn2:=ok.n.2
 have e1:=encTx_len ok.t
 have e2:=encSp_len ok.s
 have e3:=encSp_len ok.pv
 have e4:(encI n).length≤10:=encI_len ok.n.1 ok.n.2
 have e5:(encF64 pt).length=8:=leW_len 8 _
 have e6:(encB cm).length=1:=rfl
 go_wp2_with fail
 refine wp_region_held_drew (S:=fun W'=>Below ((w.alloc (.cells (Rc.vals ⟨6,t,s,pv,cm,n,pt,rd,wr,ps,pr,st⟩ h) 69))).heap.size ((w.alloc (.cells (Rc.vals ⟨6,t,s,pv,cm,n,pt,rd,wr,ps,pr,st⟩ h) 69))) W') (by kernel_rfl) (Below.refl _ _).drew (fun hHeld=>?_)
 refine tc 0 63 ?_
 go_frame
 refine ts 1 64 rfl (v:=.float .f64 pt) (fun W hSw=>by have z:=(hSw.cell (p:=⟨w.heap.size,12,none⟩) HB).trans C12;clear hSw;go_simp) ?_
 go_frame
 refine tc 3 66 ?_
 go_frame
 refine ts 4 67 rfl (v:=.int .i64 n) (fun W hSw=>by have z:=(hSw.cell (p:=⟨w.heap.size,11,none⟩) HB).trans C11;clear hSw;go_simp) ?_
 go_frame
 have s0:Below ((w.alloc (.cells (Rc.vals ⟨6,t,s,pv,cm,n,pt,rd,wr,ps,pr,st⟩ h) 69))).heap.size ((w.alloc (.cells (Rc.vals ⟨6,t,s,pv,cm,n,pt,rd,wr,ps,pr,st⟩ h) 69))) ((w.alloc (.cells (Rc.vals ⟨6,t,s,pv,cm,n,pt,rd,wr,ps,pr,st⟩ h) 69))).drew:=(Below.refl _ _).drew
 refine tr (o:=⟨some 65,_,_,_,_,_⟩) 2 rfl fun K hK=>?_
 go_simp
 (with_reducible refine(xfloat pt _ ok.pt).mono ?_)
 rintro e w1 ⟨A1,q1,rfl,hq1,hm1,hown1,hb1⟩
 have s1:Below ((w.alloc (.cells (Rc.vals ⟨6,t,s,pv,cm,n,pt,rd,wr,ps,pr,st⟩ h) 69))).heap.size ((w.alloc (.cells (Rc.vals ⟨6,t,s,pv,cm,n,pt,rd,wr,ps,pr,st⟩ h) 69))) w1:=s0.trans (hb1.mono (s0).size)
 refine hK.out _ _ s1 (fun hHeld=>?_)
 clear hK K
 try go_frame
 have hrow1:RowRel ((w.alloc (.cells (Rc.vals ⟨6,t,s,pv,cm,n,pt,rd,wr,ps,pr,st⟩ h) 69))) (encF64 pt) (.slice A1 (encF64 pt).length q1) w1:=⟨hown1,s1⟩
 refine tr (o:=⟨some 68,_,_,_,_,_⟩) 5 rfl fun K hK=>?_
 go_simp
 (with_reducible refine(xint n _ kn1 kn2).mono ?_)
 rintro e w2 ⟨A2,q2,rfl,hq2,hm2,hown2,hb2⟩
 have s2:Below ((w.alloc (.cells (Rc.vals ⟨6,t,s,pv,cm,n,pt,rd,wr,ps,pr,st⟩ h) 69))).heap.size ((w.alloc (.cells (Rc.vals ⟨6,t,s,pv,cm,n,pt,rd,wr,ps,pr,st⟩ h) 69))) w2:=s1.trans (hb2.mono (s1).size)
 refine hK.out _ _ s2 (fun hHeld=>?_)
 clear hK K
 try go_frame
 have hrow2:=hrow1.below hb2
 have za:(encF64 pt).length+(encI n).length≤maxLen:=by unfold maxLen;omega
 have zb:((encF64 pt).length+(encI n).length)*1≤140737488355328:=by omega
 refine tr (o:=⟨some 69,_,_,_,_,_⟩) 6 rfl fun K hK=>?_
 refine step_append_any _ rfl _ _ _ rfl ((w.alloc (.cells (Rc.vals ⟨6,t,s,pv,cm,n,pt,rd,wr,ps,pr,st⟩ h) 69))).heap.size 5 i0 _ 1 1 Tryz.underlying49 hi0 hz0 hz1 hz2 rfl (by omega) (.slice A1 (encF64 pt).length q1) _ (bytesV (encF64 pt)) (by rfl) hrow2.1 w2.heap.size A2 (encI n).length q2 (bytesV (encI n)) (by rfl) (Reads.of_own hown2) (bytesV_one _) za zb hrow2.2.size ?_
 intro v2' w2' hown2' hg2' hat2'
 have hr2:=hrow2.push (Below.refl _ _) hown2' hg2'
 obtain⟨P2,HP2,LP2⟩:=named (encF64 pt) (encI n)
 rw[←HP2.out]at hr2
 obtain⟨A2',q2',rfl,hq2',hm2'⟩:=own_form hr2.1
 refine hK.out _ _ hr2.2 (fun hHeld=>?_)
 clear hK K
 try go_frame
 refine tc 7 3 ?_
 go_frame
 refine td ?_
 clear za zb hown2' hg2' hat2' hrow1 hrow2 hown1 hown2 hb1 hb2 s0 s1 s2 hHeld
 have c2_4:=up C4 hr2.2 HB
 have c2_5:=up C5 hr2.2 HB
 have c2_6:=up C6 hr2.2 HB
 have c2_11:=up C11 hr2.2 HB
 have c2_12:=up C12 hr2.2 HB
 go_wp2_with fail
 refine(xStamp s _ ok.s).mono ?_
 rintro e w3 ⟨A3,q3,rfl,hq3,hm3,hown3,hb3⟩
 have hrow3:=hr2.below hb3
 have z3a:(P2).length+(encSp s).length≤maxLen:=by unfold maxLen;have:=LP2.out;omega
 have z3b:((P2).length+(encSp s).length)*1≤140737488355328:=by have:=LP2.out;omega
 go_wp2_with (at_builtin;refine wpList_append_any _ rfl _ _ _ rfl ((w.alloc (.cells (Rc.vals ⟨6,t,s,pv,cm,n,pt,rd,wr,ps,pr,st⟩ h) 69))).heap.size 5 i0 _ 1 1 Tryz.underlying49 hi0 hz0 hz1 hz2 rfl (by omega) (.slice A2' P2.length q2') _ (bytesV (P2)) (by rfl) hrow3.1 w3.heap.size A3 (encSp s).length q3 (bytesV (encSp s)) (by rfl) (Reads.of_own hown3) (bytesV_one _) z3a z3b hrow3.2.size ?_;intro v3' w3' hown3' hg3' hat3';have hr3:=hrow3.push (Below.refl _ _) hown3' hg3';obtain⟨P3,HP3,LP3⟩:=named (P2) (encSp s);rw[←HP3.out]at hr3;obtain⟨A3',q3',rfl,hq3',hm3'⟩:=own_form hr3.1;have c3_4:=up C4 hr3.2 HB;have c3_5:=up C5 hr3.2 HB;have c3_6:=up C6 hr3.2 HB;have c3_11:=up C11 hr3.2 HB;have c3_12:=up C12 hr3.2 HB)
 clear z3a z3b hown3' hg3' hat3' hrow3 hown3 hb3
 go_wp2
 have HP:=RowPost.down HX hr3.post
 have HQ:encF64 pt++(encI n++(encSp s))=P3:=by rw[HP3.out,HP2.out];simp only[List.append_assoc]
 go_ret
 rw[HQ]
 exact HP
theorem xBody_9 (r:Rc) (h:Hds) (w:World) (hk:r.k=9) (ok:r.ok) (i:RcIn w r h) (hlen:(encBody r).length≤1000000000000):
 Calls Tryz.prog 120 #[.agg (r.vals h)] w (RowPost w (encBody r)):=by
 obtain⟨i0,hi0,hz0,hz1,hz2⟩:=info_partsW u8_info
 have hE:encBody r=encTx r.t++(encSp r.s++(encLs encI r.ps)):=by unfold encBody;simp[hk]
 rw[hE]at hlen ⊢
 clear hE
 obtain⟨k,t,s,pv,cm,n,pt,rd,wr,ps,pr,st⟩:=r
 change k=9 at hk
 subst hk
 have HX:Below w.heap.size w (w.alloc (.cells (Rc.vals ⟨9,t,s,pv,cm,n,pt,rd,wr,ps,pr,st⟩ h) 69)):=by go_grown
 have HB:w.heap.size<(w.alloc (.cells (Rc.vals ⟨9,t,s,pv,cm,n,pt,rd,wr,ps,pr,st⟩ h) 69)).heap.size:=by simp
 have HBK:Blk (w.alloc (.cells (Rc.vals ⟨9,t,s,pv,cm,n,pt,rd,wr,ps,pr,st⟩ h) 69)) w.heap.size 69 #[.int .i64 9,.int .i64 t.c,.int .i64 t.l,.int .i64 t.s,.int .i64 s.w,.int .i64 s.l,.int .i64 s.n,.int .i64 pv.w,.int .i64 pv.l,.int .i64 pv.n,.bool cm,.int .i64 n,.float .f64 pt,h.a.v,h.b.v,h.c.v,h.d.v,.int .i64 st.r.id,.int .i64 st.r.ep,.float .f64 st.r.lo,.float .f64 st.r.hi,.int .i64 st.f.w,.int .i64 st.f.l,.int .i64 st.f.n,.int .i64 st.c.w,.int .i64 st.c.l,.int .i64 st.c.n,h.e.v,h.f.v]:=Blk.new _ _ _
 have IX:=i.below HX
 have C1:=cl (HBK.cell 1)
 have C2:=cl (HBK.cell 2)
 have C3:=cl (HBK.cell 3)
 have C4:=cl (HBK.cell 4)
 have C5:=cl (HBK.cell 5)
 have C6:=cl (HBK.cell 6)
 have C15:=cl (HBK.cell 15)
 have K0:=cl (HBK.cell 0)
 simp only[List.length_append]at hlen
 go_enter Tryz.func120,Tryz.ntmps120
 have kn1:=ok.n.1
 have kn2:=ok.n.2
 have e1:=encTx_len ok.t
 have e2:=encSp_len ok.s
 have e3:=encSp_len ok.pv
 have e4:(encI n).length≤10:=encI_len ok.n.1 ok.n.2
 have e5:(encF64 pt).length=8:=leW_len 8 _
 have e6:(encB cm).length=1:=rfl
 go_wp2_with fail
 refine wp_region_held_drew (S:=fun W'=>Below ((w.alloc (.cells (Rc.vals ⟨9,t,s,pv,cm,n,pt,rd,wr,ps,pr,st⟩ h) 69))).heap.size ((w.alloc (.cells (Rc.vals ⟨9,t,s,pv,cm,n,pt,rd,wr,ps,pr,st⟩ h) 69))) W') (by kernel_rfl) (Below.refl _ _).drew (fun hHeld=>?_)
 refine tc 0 77 ?_
 go_frame
 refine tl 1 78 rfl (yieldsIf_load_mid (by rfl) _ _ rfl (w.heap.size) 1 rfl [.int .i64 t.c,.int .i64 t.l,.int .i64 t.s] _ (fun W hSw=>(HBK.below hSw HB).range 1 _ (three_of rfl rfl rfl)) rfl rfl (by kernel_rfl)) ?_
 go_frame
 refine tc 3 80 ?_
 go_frame
 refine tl 4 81 rfl (yieldsIf_load_mid (by rfl) _ _ rfl (w.heap.size) 4 rfl [.int .i64 s.w,.int .i64 s.l,.int .i64 s.n] _ (fun W hSw=>(HBK.below hSw HB).range 4 _ (three_of rfl rfl rfl)) rfl rfl (by kernel_rfl)) ?_
 go_frame
 have s0:Below ((w.alloc (.cells (Rc.vals ⟨9,t,s,pv,cm,n,pt,rd,wr,ps,pr,st⟩ h) 69))).heap.size ((w.alloc (.cells (Rc.vals ⟨9,t,s,pv,cm,n,pt,rd,wr,ps,pr,st⟩ h) 69))) ((w.alloc (.cells (Rc.vals ⟨9,t,s,pv,cm,n,pt,rd,wr,ps,pr,st⟩ h) 69))).drew:=(Below.refl _ _).drew
 refine tr (o:=⟨some 79,_,_,_,_,_⟩) 2 rfl fun K hK=>?_
 go_simp
 (with_reducible refine(xTxn t _ ok.t).mono ?_)
 rintro e w1 ⟨A1,q1,rfl,hq1,hm1,hown1,hb1⟩
 have s1:Below ((w.alloc (.cells (Rc.vals ⟨9,t,s,pv,cm,n,pt,rd,wr,ps,pr,st⟩ h) 69))).heap.size ((w.alloc (.cells (Rc.vals ⟨9,t,s,pv,cm,n,pt,rd,wr,ps,pr,st⟩ h) 69))) w1:=s0.trans (hb1.mono (s0).size)
 refine hK.out _ _ s1 (fun hHeld=>?_)
 clear hK K
 try go_frame
 have hrow1:RowRel ((w.alloc (.cells (Rc.vals ⟨9,t,s,pv,cm,n,pt,rd,wr,ps,pr,st⟩ h) 69))) (encTx t) (.slice A1 (encTx t).length q1) w1:=⟨hown1,s1⟩
 refine tr (o:=⟨some 82,_,_,_,_,_⟩) 5 rfl fun K hK=>?_
 go_simp
 (with_reducible refine(xStamp s _ ok.s).mono ?_)
 rintro e w2 ⟨A2,q2,rfl,hq2,hm2,hown2,hb2⟩
 have s2:Below ((w.alloc (.cells (Rc.vals ⟨9,t,s,pv,cm,n,pt,rd,wr,ps,pr,st⟩ h) 69))).heap.size ((w.alloc (.cells (Rc.vals ⟨9,t,s,pv,cm,n,pt,rd,wr,ps,pr,st⟩ h) 69))) w2:=s1.trans (hb2.mono (s1).size)
 refine hK.out _ _ s2 (fun hHeld=>?_)
 clear hK K
 try go_frame
 have hrow2:=hrow1.below hb2
 have za:(encTx t).length+(encSp s).length≤maxLen:=by unfold maxLen;omega
 have zb:((encTx t).length+(encSp s).length)*1≤140737488355328:=by omega
 refine tr (o:=⟨some 83,_,_,_,_,_⟩) 6 rfl fun K hK=>?_
 refine step_append_any _ rfl _ _ _ rfl ((w.alloc (.cells (Rc.vals ⟨9,t,s,pv,cm,n,pt,rd,wr,ps,pr,st⟩ h) 69))).heap.size 5 i0 _ 1 1 Tryz.underlying49 hi0 hz0 hz1 hz2 rfl (by omega) (.slice A1 (encTx t).length q1) _ (bytesV (encTx t)) (by rfl) hrow2.1 w2.heap.size A2 (encSp s).length q2 (bytesV (encSp s)) (by rfl) (Reads.of_own hown2) (bytesV_one _) za zb hrow2.2.size ?_
 intro v2' w2' hown2' hg2' hat2'
 have hr2:=hrow2.push (Below.refl _ _) hown2' hg2'
 obtain⟨P2,HP2,LP2⟩:=named (encTx t) (encSp s)
 rw[←HP2.out]at hr2
 obtain⟨A2',q2',rfl,hq2',hm2'⟩:=own_form hr2.1
 refine hK.out _ _ hr2.2 (fun hHeld=>?_)
 clear hK K
 try go_frame
 refine tc 7 3 ?_
 go_frame
 refine td ?_
 clear za zb hown2' hg2' hat2' hrow1 hrow2 hown1 hown2 hb1 hb2 s0 s1 s2 hHeld
 have c2_1:=up C1 hr2.2 HB
 have c2_2:=up C2 hr2.2 HB
 have c2_3:=up C3 hr2.2 HB
 have c2_4:=up C4 hr2.2 HB
 have c2_5:=up C5 hr2.2 HB
 have c2_6:=up C6 hr2.2 HB
 have c2_15:=up C15 hr2.2 HB
 go_wp2_with fail
 refine(xInts h.c.A h.c.n h.c.c ps _ ((IX.below hr2.2).ps) IX.nc (by omega)).mono ?_
 rintro e w3 ⟨A3,q3,rfl,hq3,hm3,hown3,hb3⟩
 have hrow3:=hr2.below hb3
 have z3a:(P2).length+(encLs encI ps).length≤maxLen:=by unfold maxLen;have:=LP2.out;omega
 have z3b:((P2).length+(encLs encI ps).length)*1≤140737488355328:=by have:=LP2.out;omega
 go_wp2_with (at_builtin;refine wpList_append_any _ rfl _ _ _ rfl ((w.alloc (.cells (Rc.vals ⟨9,t,s,pv,cm,n,pt,rd,wr,ps,pr,st⟩ h) 69))).heap.size 5 i0 _ 1 1 Tryz.underlying49 hi0 hz0 hz1 hz2 rfl (by omega) (.slice A2' P2.length q2') _ (bytesV (P2)) (by rfl) hrow3.1 w3.heap.size A3 (encLs encI ps).length q3 (bytesV (encLs encI ps)) (by rfl) (Reads.of_own hown3) (bytesV_one _) z3a z3b hrow3.2.size ?_;intro v3' w3' hown3' hg3' hat3';have hr3:=hrow3.push (Below.refl _ _) hown3' hg3';obtain⟨P3,HP3,LP3⟩:=named (P2) (encLs encI ps);rw[←HP3.out]at hr3;obtain⟨A3',q3',rfl,hq3',hm3'⟩:=own_form hr3.1;have c3_1:=up C1 hr3.2 HB;have c3_2:=up C2 hr3.2 HB;have c3_3:=up C3 hr3.2 HB;have c3_4:=up C4 hr3.2 HB;have c3_5:=up C5 hr3.2 HB;have c3_6:=up C6 hr3.2 HB;have c3_15:=up C15 hr3.2 HB)
 clear z3a z3b hown3' hg3' hat3' hrow3 hown3 hb3
 go_wp2
 have HP:=RowPost.down HX hr3.post
 have HQ:encTx t++(encSp s++(encLs encI ps))=P3:=by rw[HP3.out,HP2.out];simp only[List.append_assoc]
 go_ret
 rw[HQ]
 exact HP
theorem xBody_10 (r:Rc) (h:Hds) (w:World) (hk:r.k=10) (ok:r.ok) (i:RcIn w r h) (hlen:(encBody r).length≤1000000000000):
 Calls Tryz.prog 120 #[.agg (r.vals h)] w (RowPost w (encBody r)):=by
 obtain⟨i0,hi0,hz0,hz1,hz2⟩:=info_partsW u8_info
 have hE:encBody r=encTx r.t:=by unfold encBody;simp[hk]
 rw[hE]at hlen ⊢
 clear hE
 obtain⟨k,t,s,pv,cm,n,pt,rd,wr,ps,pr,st⟩:=r
 change k=10 at hk
 subst hk
 have HX:Below w.heap.size w (w.alloc (.cells (Rc.vals ⟨10,t,s,pv,cm,n,pt,rd,wr,ps,pr,st⟩ h) 69)):=by go_grown
 have HB:w.heap.size<(w.alloc (.cells (Rc.vals ⟨10,t,s,pv,cm,n,pt,rd,wr,ps,pr,st⟩ h) 69)).heap.size:=by simp
 have HBK:Blk (w.alloc (.cells (Rc.vals ⟨10,t,s,pv,cm,n,pt,rd,wr,ps,pr,st⟩ h) 69)) w.heap.size 69 #[.int .i64 10,.int .i64 t.c,.int .i64 t.l,.int .i64 t.s,.int .i64 s.w,.int .i64 s.l,.int .i64 s.n,.int .i64 pv.w,.int .i64 pv.l,.int .i64 pv.n,.bool cm,.int .i64 n,.float .f64 pt,h.a.v,h.b.v,h.c.v,h.d.v,.int .i64 st.r.id,.int .i64 st.r.ep,.float .f64 st.r.lo,.float .f64 st.r.hi,.int .i64 st.f.w,.int .i64 st.f.l,.int .i64 st.f.n,.int .i64 st.c.w,.int .i64 st.c.l,.int .i64 st.c.n,h.e.v,h.f.v]:=Blk.new _ _ _
 have IX:=i.below HX
 have C1:=cl (HBK.cell 1)
 have C2:=cl (HBK.cell 2)
 have C3:=cl (HBK.cell 3)
 have K0:=cl (HBK.cell 0)
 go_enter Tryz.func120,Tryz.ntmps120
 have kn1:=ok.n.1
 have kn2:=ok.n.2
 have e1:=encTx_len ok.t
 have e2:=encSp_len ok.s
 have e3:=encSp_len ok.pv
 have e4:(encI n).length≤10:=encI_len ok.n.1 ok.n.2
 have e5:(encF64 pt).length=8:=leW_len 8 _
 have e6:(encB cm).length=1:=rfl
 go_wp2_with fail
 refine(xTxn t _ ok.t).mono ?_
 rintro e w1 ⟨A1,q1,rfl,hq1,hm1,hown1,hb1⟩
 have hrow1:RowRel (w.alloc (.cells (Rc.vals ⟨10,t,s,pv,cm,n,pt,rd,wr,ps,pr,st⟩ h) 69)) (encTx t) (.slice A1 (encTx t).length q1) w1:=⟨hown1,hb1⟩
 have c1_1:=up C1 hrow1.2 HB
 have c1_2:=up C2 hrow1.2 HB
 have c1_3:=up C3 hrow1.2 HB
 go_wp2
 have HP:=RowPost.down HX hrow1.post
 have HQ:encTx t=encTx t:=by rfl
 go_ret
 rw[HQ]
 exact HP
theorem xBody_11 (r:Rc) (h:Hds) (w:World) (hk:r.k=11) (ok:r.ok) (i:RcIn w r h) (hlen:(encBody r).length≤1000000000000):
 Calls Tryz.prog 120 #[.agg (r.vals h)] w (RowPost w (encBody r)):=by
 obtain⟨i0,hi0,hz0,hz1,hz2⟩:=info_partsW u8_info
 have hE:encBody r=encSp r.pv++(encSp r.s++(encTx r.t++(encLs encWt r.wr))):=by unfold encBody;simp[hk]
 rw[hE]at hlen ⊢
 clear hE
 obtain⟨k,t,s,pv,cm,n,pt,rd,wr,ps,pr,st⟩:=r
 change k=11 at hk
 subst hk
 have HX:Below w.heap.size w (w.alloc (.cells (Rc.vals ⟨11,t,s,pv,cm,n,pt,rd,wr,ps,pr,st⟩ h) 69)):=by go_grown
 have HB:w.heap.size<(w.alloc (.cells (Rc.vals ⟨11,t,s,pv,cm,n,pt,rd,wr,ps,pr,st⟩ h) 69)).heap.size:=by simp
 have HBK:Blk (w.alloc (.cells (Rc.vals ⟨11,t,s,pv,cm,n,pt,rd,wr,ps,pr,st⟩ h) 69)) w.heap.size 69 #[.int .i64 11,.int .i64 t.c,.int .i64 t.l,.int .i64 t.s,.int .i64 s.w,.int .i64 s.l,.int .i64 s.n,.int .i64 pv.w,.int .i64 pv.l,.int .i64 pv.n,.bool cm,.int .i64 n,.float .f64 pt,h.a.v,h.b.v,h.c.v,h.d.v,.int .i64 st.r.id,.int .i64 st.r.ep,.float .f64 st.r.lo,.float .f64 st.r.hi,.int .i64 st.f.w,.int .i64 st.f.l,.int .i64 st.f.n,.int .i64 st.c.w,.int .i64 st.c.l,.int .i64 st.c.n,h.e.v,h.f.v]:=Blk.new _ _ _
 have IX:=i.below HX
 have C1:=cl (HBK.cell 1)
 have C2:=cl (HBK.cell 2)
 have C3:=cl (HBK.cell 3)
 have C4:=cl (HBK.cell 4)
 have C5:=cl (HBK.cell 5)
 have C6:=cl (HBK.cell 6)
 have C7:=cl (HBK.cell 7)
 have C8:=cl (HBK.cell 8)
 have C9:=cl (HBK.cell 9)
 have C14:=cl (HBK.cell 14)
 have K0:=cl (HBK.cell 0)
 simp only[List.length_append]at hlen
 go_enter Tryz.func120,Tryz.ntmps120
 have kn1:=ok.n.1
 have kn2:=ok.n.2
 have e1:=encTx_len ok.t
 have e2:=encSp_len ok.s
 have e3:=encSp_len ok.pv
 have e4:(encI n).length≤10:=encI_len ok.n.1 ok.n.2
 have e5:(encF64 pt).length=8:=leW_len 8 _
 have e6:(encB cm).length=1:=rfl
 go_wp2_with fail
 refine wp_region_held_drew (S:=fun W'=>Below ((w.alloc (.cells (Rc.vals ⟨11,t,s,pv,cm,n,pt,rd,wr,ps,pr,st⟩ h) 69))).heap.size ((w.alloc (.cells (Rc.vals ⟨11,t,s,pv,cm,n,pt,rd,wr,ps,pr,st⟩ h) 69))) W') (by kernel_rfl) (Below.refl _ _).drew (fun hHeld=>?_)
 refine tc 0 96 ?_
 go_frame
 refine tl 1 97 rfl (yieldsIf_load_mid (by rfl) _ _ rfl (w.heap.size) 7 rfl [.int .i64 pv.w,.int .i64 pv.l,.int .i64 pv.n] _ (fun W hSw=>(HBK.below hSw HB).range 7 _ (three_of rfl rfl rfl)) rfl rfl (by kernel_rfl)) ?_
 go_frame
 refine tc 3 99 ?_
 go_frame
 refine tl 4 100 rfl (yieldsIf_load_mid (by rfl) _ _ rfl (w.heap.size) 4 rfl [.int .i64 s.w,.int .i64 s.l,.int .i64 s.n] _ (fun W hSw=>(HBK.below hSw HB).range 4 _ (three_of rfl rfl rfl)) rfl rfl (by kernel_rfl)) ?_
 go_frame
 have s0:Below ((w.alloc (.cells (Rc.vals ⟨11,t,s,pv,cm,n,pt,rd,wr,ps,pr,st⟩ h) 69))).heap.size ((w.alloc (.cells (Rc.vals ⟨11,t,s,pv,cm,n,pt,rd,wr,ps,pr,st⟩ h) 69))) ((w.alloc (.cells (Rc.vals ⟨11,t,s,pv,cm,n,pt,rd,wr,ps,pr,st⟩ h) 69))).drew:=(Below.refl _ _).drew
 refine tr (o:=⟨some 98,_,_,_,_,_⟩) 2 rfl fun K hK=>?_
 go_simp
 (with_reducible refine(xStamp pv _ ok.pv).mono ?_)
 rintro e w1 ⟨A1,q1,rfl,hq1,hm1,hown1,hb1⟩
 have s1:Below ((w.alloc (.cells (Rc.vals ⟨11,t,s,pv,cm,n,pt,rd,wr,ps,pr,st⟩ h) 69))).heap.size ((w.alloc (.cells (Rc.vals ⟨11,t,s,pv,cm,n,pt,rd,wr,ps,pr,st⟩ h) 69))) w1:=s0.trans (hb1.mono (s0).size)
 refine hK.out _ _ s1 (fun hHeld=>?_)
 clear hK K
 try go_frame
 have hrow1:RowRel ((w.alloc (.cells (Rc.vals ⟨11,t,s,pv,cm,n,pt,rd,wr,ps,pr,st⟩ h) 69))) (encSp pv) (.slice A1 (encSp pv).length q1) w1:=⟨hown1,s1⟩
 refine tr (o:=⟨some 101,_,_,_,_,_⟩) 5 rfl fun K hK=>?_
 go_simp
 (with_reducible refine(xStamp s _ ok.s).mono ?_)
 rintro e w2 ⟨A2,q2,rfl,hq2,hm2,hown2,hb2⟩
 have s2:Below ((w.alloc (.cells (Rc.vals ⟨11,t,s,pv,cm,n,pt,rd,wr,ps,pr,st⟩ h) 69))).heap.size ((w.alloc (.cells (Rc.vals ⟨11,t,s,pv,cm,n,pt,rd,wr,ps,pr,st⟩ h) 69))) w2:=s1.trans (hb2.mono (s1).size)
 refine hK.out _ _ s2 (fun hHeld=>?_)
 clear hK K
 try go_frame
 have hrow2:=hrow1.below hb2
 have za:(encSp pv).length+(encSp s).length≤maxLen:=by unfold maxLen;omega
 have zb:((encSp pv).length+(encSp s).length)*1≤140737488355328:=by omega
 refine tr (o:=⟨some 102,_,_,_,_,_⟩) 6 rfl fun K hK=>?_
 refine step_append_any _ rfl _ _ _ rfl ((w.alloc (.cells (Rc.vals ⟨11,t,s,pv,cm,n,pt,rd,wr,ps,pr,st⟩ h) 69))).heap.size 5 i0 _ 1 1 Tryz.underlying49 hi0 hz0 hz1 hz2 rfl (by omega) (.slice A1 (encSp pv).length q1) _ (bytesV (encSp pv)) (by rfl) hrow2.1 w2.heap.size A2 (encSp s).length q2 (bytesV (encSp s)) (by rfl) (Reads.of_own hown2) (bytesV_one _) za zb hrow2.2.size ?_
 intro v2' w2' hown2' hg2' hat2'
 have hr2:=hrow2.push (Below.refl _ _) hown2' hg2'
 obtain⟨P2,HP2,LP2⟩:=named (encSp pv) (encSp s)
 rw[←HP2.out]at hr2
 obtain⟨A2',q2',rfl,hq2',hm2'⟩:=own_form hr2.1
 refine hK.out _ _ hr2.2 (fun hHeld=>?_)
 clear hK K
 try go_frame
 refine tc 7 3 ?_
 go_frame
 refine td ?_
 clear za zb hown2' hg2' hat2' hrow1 hrow2 hown1 hown2 hb1 hb2 s0 s1 s2 hHeld
 have c2_1:=up C1 hr2.2 HB
 have c2_2:=up C2 hr2.2 HB
 have c2_3:=up C3 hr2.2 HB
 have c2_4:=up C4 hr2.2 HB
 have c2_5:=up C5 hr2.2 HB
 have c2_6:=up C6 hr2.2 HB
 have c2_7:=up C7 hr2.2 HB
 have c2_8:=up C8 hr2.2 HB
 have c2_9:=up C9 hr2.2 HB
 have c2_14:=up C14 hr2.2 HB
 go_wp2_with fail
 refine(xTxn t _ ok.t).mono ?_
 rintro e w3 ⟨A3,q3,rfl,hq3,hm3,hown3,hb3⟩
 have hrow3:=hr2.below hb3
 have z3a:(P2).length+(encTx t).length≤maxLen:=by unfold maxLen;have:=LP2.out;omega
 have z3b:((P2).length+(encTx t).length)*1≤140737488355328:=by have:=LP2.out;omega
 go_wp2_with (at_builtin;refine wpList_append_any _ rfl _ _ _ rfl ((w.alloc (.cells (Rc.vals ⟨11,t,s,pv,cm,n,pt,rd,wr,ps,pr,st⟩ h) 69))).heap.size 5 i0 _ 1 1 Tryz.underlying49 hi0 hz0 hz1 hz2 rfl (by omega) (.slice A2' P2.length q2') _ (bytesV (P2)) (by rfl) hrow3.1 w3.heap.size A3 (encTx t).length q3 (bytesV (encTx t)) (by rfl) (Reads.of_own hown3) (bytesV_one _) z3a z3b hrow3.2.size ?_;intro v3' w3' hown3' hg3' hat3';have hr3:=hrow3.push (Below.refl _ _) hown3' hg3';obtain⟨P3,HP3,LP3⟩:=named (P2) (encTx t);rw[←HP3.out]at hr3;obtain⟨A3',q3',rfl,hq3',hm3'⟩:=own_form hr3.1;have c3_1:=up C1 hr3.2 HB;have c3_2:=up C2 hr3.2 HB;have c3_3:=up C3 hr3.2 HB;have c3_4:=up C4 hr3.2 HB;have c3_5:=up C5 hr3.2 HB;have c3_6:=up C6 hr3.2 HB;have c3_7:=up C7 hr3.2 HB;have c3_8:=up C8 hr3.2 HB;have c3_9:=up C9 hr3.2 HB;have c3_14:=up C14 hr3.2 HB)
 clear z3a z3b hown3' hg3' hat3' hrow3 hown3 hb3
 go_wp2_with fail
 refine(xWrites h.b.A h.b.n h.b.c wr _ ((IX.below hr3.2).wr) IX.nb (by omega)).mono ?_
 rintro e w4 ⟨A4,q4,rfl,hq4,hm4,hown4,hb4⟩
 have hrow4:=hr3.below hb4
 have z4a:(P3).length+(encLs encWt wr).length≤maxLen:=by unfold maxLen;have:=LP2.out;have:=LP3.out;omega
 have z4b:((P3).length+(encLs encWt wr).length)*1≤140737488355328:=by have:=LP2.out;have:=LP3.out;omega
 go_wp2_with (at_builtin;refine wpList_append_any _ rfl _ _ _ rfl ((w.alloc (.cells (Rc.vals ⟨11,t,s,pv,cm,n,pt,rd,wr,ps,pr,st⟩ h) 69))).heap.size 5 i0 _ 1 1 Tryz.underlying49 hi0 hz0 hz1 hz2 rfl (by omega) (.slice A3' P3.length q3') _ (bytesV (P3)) (by rfl) hrow4.1 w4.heap.size A4 (encLs encWt wr).length q4 (bytesV (encLs encWt wr)) (by rfl) (Reads.of_own hown4) (bytesV_one _) z4a z4b hrow4.2.size ?_;intro v4' w4' hown4' hg4' hat4';have hr4:=hrow4.push (Below.refl _ _) hown4' hg4';obtain⟨P4,HP4,LP4⟩:=named (P3) (encLs encWt wr);rw[←HP4.out]at hr4;obtain⟨A4',q4',rfl,hq4',hm4'⟩:=own_form hr4.1;have c4_1:=up C1 hr4.2 HB;have c4_2:=up C2 hr4.2 HB;have c4_3:=up C3 hr4.2 HB;have c4_4:=up C4 hr4.2 HB;have c4_5:=up C5 hr4.2 HB;have c4_6:=up C6 hr4.2 HB;have c4_7:=up C7 hr4.2 HB;have c4_8:=up C8 hr4.2 HB;have c4_9:=up C9 hr4.2 HB;have c4_14:=up C14 hr4.2 HB)
 clear z4a z4b hown4' hg4' hat4' hrow4 hown4 hb4
 go_wp2
 have HP:=RowPost.down HX hr4.post
 have HQ:encSp pv++(encSp s++(encTx t++(encLs encWt wr)))=P4:=by rw[HP4.out,HP3.out,HP2.out];simp only[List.append_assoc]
 go_ret
 rw[HQ]
 exact HP
theorem xBody_12 (r:Rc) (h:Hds) (w:World) (hk:r.k=12) (ok:r.ok) (i:RcIn w r h) (hlen:(encBody r).length≤1000000000000):
 Calls Tryz.prog 120 #[.agg (r.vals h)] w (RowPost w (encBody r)):=by
 obtain⟨i0,hi0,hz0,hz1,hz2⟩:=info_partsW u8_info
 have hE:encBody r=encSp r.s++(encLs encWt r.pr):=by unfold encBody;simp[hk]
 rw[hE]at hlen ⊢
 clear hE
 obtain⟨k,t,s,pv,cm,n,pt,rd,wr,ps,pr,st⟩:=r
 change k=12 at hk
 subst hk
 have HX:Below w.heap.size w (w.alloc (.cells (Rc.vals ⟨12,t,s,pv,cm,n,pt,rd,wr,ps,pr,st⟩ h) 69)):=by go_grown
 have HB:w.heap.size<(w.alloc (.cells (Rc.vals ⟨12,t,s,pv,cm,n,pt,rd,wr,ps,pr,st⟩ h) 69)).heap.size:=by simp
 have HBK:Blk (w.alloc (.cells (Rc.vals ⟨12,t,s,pv,cm,n,pt,rd,wr,ps,pr,st⟩ h) 69)) w.heap.size 69 #[.int .i64 12,.int .i64 t.c,.int .i64 t.l,.int .i64 t.s,.int .i64 s.w,.int .i64 s.l,.int .i64 s.n,.int .i64 pv.w,.int .i64 pv.l,.int .i64 pv.n,.bool cm,.int .i64 n,.float .f64 pt,h.a.v,h.b.v,h.c.v,h.d.v,.int .i64 st.r.id,.int .i64 st.r.ep,.float .f64 st.r.lo,.float .f64 st.r.hi,.int .i64 st.f.w,.int .i64 st.f.l,.int .i64 st.f.n,.int .i64 st.c.w,.int .i64 st.c.l,.int .i64 st.c.n,h.e.v,h.f.v]:=Blk.new _ _ _
 have IX:=i.below HX
 have C4:=cl (HBK.cell 4)
 have C5:=cl (HBK.cell 5)
 have C6:=cl (HBK.cell 6)
 have C16:=cl (HBK.cell 16)
 have K0:=cl (HBK.cell 0)
 simp only[List.length_append]at hlen
 go_enter Tryz.func120,Tryz.ntmps120
 have kn1:=ok.n.1
 have kn2:=ok.n.2
 have e1:=encTx_len ok.t
 have e2:=encSp_len ok.s
 have e3:=encSp_len ok.pv
 have e4:(encI n).length≤10:=encI_len ok.n.1 ok.n.2
 have e5:(encF64 pt).length=8:=leW_len 8 _
 have e6:(encB cm).length=1:=rfl
 go_wp2_with fail
 refine wp_region_held_drew (S:=fun W'=>Below ((w.alloc (.cells (Rc.vals ⟨12,t,s,pv,cm,n,pt,rd,wr,ps,pr,st⟩ h) 69))).heap.size ((w.alloc (.cells (Rc.vals ⟨12,t,s,pv,cm,n,pt,rd,wr,ps,pr,st⟩ h) 69))) W') (by kernel_rfl) (Below.refl _ _).drew (fun hHeld=>?_)
 refine tc 0 113 ?_
 go_frame
 refine tl 1 114 rfl (yieldsIf_load_mid (by rfl) _ _ rfl (w.heap.size) 4 rfl [.int .i64 s.w,.int .i64 s.l,.int .i64 s.n] _ (fun W hSw=>(HBK.below hSw HB).range 4 _ (three_of rfl rfl rfl)) rfl rfl (by kernel_rfl)) ?_
 go_frame
 refine tc 3 116 ?_
 go_frame
 refine ts 4 117 rfl (v:=h.d.v) (fun W hSw=>by have z:=(hSw.cell (p:=⟨w.heap.size,16,none⟩) HB).trans C16;clear hSw;go_simp) ?_
 go_frame
 have s0:Below ((w.alloc (.cells (Rc.vals ⟨12,t,s,pv,cm,n,pt,rd,wr,ps,pr,st⟩ h) 69))).heap.size ((w.alloc (.cells (Rc.vals ⟨12,t,s,pv,cm,n,pt,rd,wr,ps,pr,st⟩ h) 69))) ((w.alloc (.cells (Rc.vals ⟨12,t,s,pv,cm,n,pt,rd,wr,ps,pr,st⟩ h) 69))).drew:=(Below.refl _ _).drew
 refine tr (o:=⟨some 115,_,_,_,_,_⟩) 2 rfl fun K hK=>?_
 go_simp
 (with_reducible refine(xStamp s _ ok.s).mono ?_)
 rintro e w1 ⟨A1,q1,rfl,hq1,hm1,hown1,hb1⟩
 have s1:Below ((w.alloc (.cells (Rc.vals ⟨12,t,s,pv,cm,n,pt,rd,wr,ps,pr,st⟩ h) 69))).heap.size ((w.alloc (.cells (Rc.vals ⟨12,t,s,pv,cm,n,pt,rd,wr,ps,pr,st⟩ h) 69))) w1:=s0.trans (hb1.mono (s0).size)
 refine hK.out _ _ s1 (fun hHeld=>?_)
 clear hK K
 try go_frame
 have hrow1:RowRel ((w.alloc (.cells (Rc.vals ⟨12,t,s,pv,cm,n,pt,rd,wr,ps,pr,st⟩ h) 69))) (encSp s) (.slice A1 (encSp s).length q1) w1:=⟨hown1,s1⟩
 refine tr (o:=⟨some 118,_,_,_,_,_⟩) 5 rfl fun K hK=>?_
 go_simp
 (with_reducible refine(xPairs h.d.A h.d.n h.d.c pr _ (IX.below s1).pr IX.nd (by omega)).mono ?_)
 rintro e w2 ⟨A2,q2,rfl,hq2,hm2,hown2,hb2⟩
 have s2:Below ((w.alloc (.cells (Rc.vals ⟨12,t,s,pv,cm,n,pt,rd,wr,ps,pr,st⟩ h) 69))).heap.size ((w.alloc (.cells (Rc.vals ⟨12,t,s,pv,cm,n,pt,rd,wr,ps,pr,st⟩ h) 69))) w2:=s1.trans (hb2.mono (s1).size)
 refine hK.out _ _ s2 (fun hHeld=>?_)
 clear hK K
 try go_frame
 have hrow2:=hrow1.below hb2
 have za:(encSp s).length+(encLs encWt pr).length≤maxLen:=by unfold maxLen;omega
 have zb:((encSp s).length+(encLs encWt pr).length)*1≤140737488355328:=by omega
 refine tr (o:=⟨some 119,_,_,_,_,_⟩) 6 rfl fun K hK=>?_
 refine step_append_any _ rfl _ _ _ rfl ((w.alloc (.cells (Rc.vals ⟨12,t,s,pv,cm,n,pt,rd,wr,ps,pr,st⟩ h) 69))).heap.size 5 i0 _ 1 1 Tryz.underlying49 hi0 hz0 hz1 hz2 rfl (by omega) (.slice A1 (encSp s).length q1) _ (bytesV (encSp s)) (by rfl) hrow2.1 w2.heap.size A2 (encLs encWt pr).length q2 (bytesV (encLs encWt pr)) (by rfl) (Reads.of_own hown2) (bytesV_one _) za zb hrow2.2.size ?_
 intro v2' w2' hown2' hg2' hat2'
 have hr2:=hrow2.push (Below.refl _ _) hown2' hg2'
 obtain⟨P2,HP2,LP2⟩:=named (encSp s) (encLs encWt pr)
 rw[←HP2.out]at hr2
 obtain⟨A2',q2',rfl,hq2',hm2'⟩:=own_form hr2.1
 refine hK.out _ _ hr2.2 (fun hHeld=>?_)
 clear hK K
 try go_frame
 refine tc 7 2 ?_
 go_frame
 refine td ?_
 clear za zb hown2' hg2' hat2' hrow1 hrow2 hown1 hown2 hb1 hb2 s0 s1 s2 hHeld
 have c2_4:=up C4 hr2.2 HB
 have c2_5:=up C5 hr2.2 HB
 have c2_6:=up C6 hr2.2 HB
 have c2_16:=up C16 hr2.2 HB
 go_wp2
 have HP:=RowPost.down HX hr2.post
 have HQ:encSp s++(encLs encWt pr)=P2:=by rw[HP2.out]
 go_ret
 rw[HQ]
 exact HP
end Go.Proofs.YtcalkfgibflbnaaGreat
