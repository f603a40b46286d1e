/- The walk of a coder that writes a record of kind 3. -/
import Derived.Test.YtcalkfgibflbnaaGreatDaaj
namespace Go.Proofs.YtcalkfgibflbnaaGreat
set_option linter.unusedVariables false
open Go.RowKit Fl
attribute [local go_sem] run_store_float
set_option maxRecDepth 100000 in
set_option maxHeartbeats 4000000 in
theorem walk_3 (r:Rc) (h:Hds) (w:World) (B g:Nat) (v:Value) (bs:List UInt8) (gc gr:Nat) (hk:r.k=3) (hc:CW w B g v bs gc) (hp:Apt w g v gr) (hb:Blk w gr 69 (r.vals h)) (ok:r.ok) (i:RcLo w B r h) (cp:h.caps)
 (hlen:bs.length+(encRc r).length+10≤1000000000000):
 Calls Tryz.prog 159 #[.pointer (some ⟨gc,0,none⟩),.pointer (some ⟨gr,0,none⟩)] w (CPost w B g v bs gc (encRc r)):=by
 have hE:encRc r=encI r.k++(encPn ⟨r.t,r.s,r.rd,r.wr⟩++encLs encI r.ps):=by unfold encRc encBody;simp[hk]
 rw[hE]at hlen ⊢
 simp only[List.length_append]at hlen
 have hA:=At.blk hb
 have A3:At w ⟨gr,15,none⟩ [h.c.v]:=hA.sub (a:=[_,_,_,_,_,_,_,_,_,_,_,_,_,_,_]) (b:=[_]) (c:=[_,_,_,_,_,_,_,_,_,_,_,_,_])
 clear hE
 obtain⟨k,t,s,pv,cm,n,pt,rd,wr,ps,pr,st⟩:=r
 change k=3 at hk
 subst hk
 go_enter Tryz.func159,Tryz.ntmps159
 go_wp2_with fail
 refine(wcInt 3 w B g v bs gc ⟨gr,0,none⟩ _ hc hp rfl (hA.sub (a:=[]) (b:=[_])) ⟨rfl,by unfold i64ok;omega⟩ (by omega)).mono ?_
 rintro e w1 ⟨rfl,v1,hc1,hf1⟩
 have hp1:=hf1.apt hp
 have hb1:Blk w1 gr 69 _:=(hf1.heap hp).trans hb
 have c0:=cl (hb1.cell 0)
 replace i:=i.below (hc.lo hf1)
 replace A3:=hf1.at_ (p:=⟨gr,15,none⟩) hp A3
 go_wp2_with fail
 refine wp_region_held_drew (S:=fun w'=>Below w1.heap.size w1 w') (by kernel_rfl) (Below.refl _ _).drew (fun hHeld=>?_)
 refine tc 0 32 ?_
 go_frame
 refine tc 1 33 ?_
 go_frame
 refine tc 2 34 ?_
 go_frame
 refine tl 3 35 rfl (yieldsIf_load_mid (by rfl) _ _ rfl gr 1 rfl [.int .i64 t.c,.int .i64 t.l,.int .i64 t.s] _ (fun W hSw=>(hb1.below hSw hb1.lt).range 1 _ (three_of rfl rfl rfl)) rfl rfl (by kernel_rfl)) ?_
 go_frame
 refine tc 4 36 ?_
 go_frame
 refine tc 5 37 ?_
 go_frame
 refine tc 6 38 ?_
 go_frame
 refine tl 7 39 rfl (yieldsIf_load_mid (by rfl) _ _ rfl gr 4 rfl [.int .i64 s.w,.int .i64 s.l,.int .i64 s.n] _ (fun W hSw=>(hb1.below hSw hb1.lt).range 4 _ (three_of rfl rfl rfl)) rfl rfl (by kernel_rfl)) ?_
 go_frame
 refine tc 8 40 ?_
 go_frame
 refine tc 9 41 ?_
 go_frame
 refine tc 10 42 ?_
 go_frame
 refine ts 11 43 rfl (v:=h.a.v) (fun W hSw=>by have z:W.cell? ⟨gr,13,none⟩=some h.a.v:=(hb1.below hSw hb1.lt).cell 13;clear hSw;go_simp) ?_
 go_frame
 refine tc 12 44 ?_
 go_frame
 refine tc 13 45 ?_
 go_frame
 refine tc 14 46 ?_
 go_frame
 refine ts 15 47 rfl (v:=h.b.v) (fun W hSw=>by have z:W.cell? ⟨gr,14,none⟩=some h.b.v:=(hb1.below hSw hb1.lt).cell 14;clear hSw;go_simp) ?_
 go_frame
 refine tc 16 48 ?_
 go_frame
 have hbA:Below w1.heap.size w1 (w1.drew.alloc (.cells zeroPn 162)):=(Below.refl _ _).drew.alloc (Nat.le_refl _) _
 refine wpAnyH_alloc (i:=17) (by kernel_rfl) rfl rfl _ rfl (.cells zeroPn 162) (alloc_pn _ _ rfl _) hbA ?_
 go_frame
 have i13:=Blk.new w1.drew 162 zeroPn
 have hbB:Below w1.heap.size w1 ((w1.drew.alloc (.cells zeroPn 162)).setRow w1.drew.heap.size #[.int .i64 t.c,.int .i64 t.l,.int .i64 t.s,.int .i64 s.w,.int .i64 s.l,.int .i64 s.n,h.a.v,h.b.v]):=below_setRow hbA (Nat.le_refl _) _
 refine wpAnyH_store_rowE (i:=18) (by kernel_rfl) rfl rfl _ _ _ rfl w1.drew.heap.size #[.int .i64 t.c,.int .i64 t.l,.int .i64 t.s,.int .i64 s.w,.int .i64 s.l,.int .i64 s.n,h.a.v,h.b.v] (by kernel_rfl) (by kernel_rfl) _ zeroPn i13 (by kernel_rfl) (by kernel_rfl) (by kernel_rfl) hbB ?_
 intro w5 hw5
 go_frame
 refine td ?_
 have hpB:Blk w5 w1.heap.size 162 #[.int .i64 t.c,.int .i64 t.l,.int .i64 t.s,.int .i64 s.w,.int .i64 s.l,.int .i64 s.n,h.a.v,h.b.v]:=by rw[hw5];exact i13.setRow _
 rw[←hw5]at hbB
 have hc5:=hc1.below hbB
 have hap5:Apt w5 g v1 w1.heap.size:=⟨hpB.lt,by have:=hc1.wr.lt;omega,fun e=>by have:=hc1.wr.own_lt _ e.symm;omega⟩
 have hp5:Apt w5 g v1 gr:=⟨Nat.lt_of_lt_of_le hp1.1 hbB.size,hp1.2⟩
 have hb5:=hb1.below hbB hb1.lt
 have hlo5:Below B w1 w5:=hbB.mono hc1.hB
 replace i:=i.below hlo5
 replace A3:At w5 ⟨gr,15,none⟩ [h.c.v]:=fun j u hj=>(hbB.cell (by rw[block_of_add];exact hp1.1)).trans (A3 j u hj)
 have hf5:=Foot.ofBelow g v1 hbB
 clear hw5 hbA i13 hHeld hb1 c0
 have hlc:(encPn ⟨t,s,rd,wr⟩).length=(encPn ⟨t,s,rd,wr⟩).length:=rfl
 clear hlc
 go_wp2_with fail
 refine(wcPending ⟨t,s,rd,wr⟩ w5 B g v1 _ gc ⟨w1.heap.size,0,none⟩ _ hc5 hap5 rfl (At.blk hpB) ⟨_,_,rfl,ok.t,ok.s,⟨_,_,_,rfl,cp.a.1,cp.a.2,i.rd⟩,_,_,_,rfl,cp.b.1,cp.b.2,i.wr⟩ (by simp only[List.length_append];omega)).mono ?_
 rintro e w6 ⟨rfl,v6,hc6,hf6⟩
 have hb6:Blk w6 gr 69 _:=(hf6.heap hp5).trans hb5
 have hq6:Blk w6 w1.heap.size 162 #[.int .i64 t.c,.int .i64 t.l,.int .i64 t.s,.int .i64 s.w,.int .i64 s.l,.int .i64 s.n,h.a.v,h.b.v]:=(hf6.heap hap5).trans hpB
 have hp6:=hf6.apt hp5
 replace A3:=hf6.at_ (p:=⟨gr,15,none⟩) hp5 A3
 replace i:=i.below (hc5.lo hf6)
 have d0:=cl (hq6.cell 0)
 have d1:=cl (hq6.cell 1)
 have d2:=cl (hq6.cell 2)
 have d3:=cl (hq6.cell 3)
 have d4:=cl (hq6.cell 4)
 have d5:=cl (hq6.cell 5)
 have d6:=cl (hq6.cell 6)
 have d7:=cl (hq6.cell 7)
 have s1:w6.setCells gr 1 [.int .i64 t.c,.int .i64 t.l,.int .i64 t.s]=w6:=setCells3_same hb6 rfl rfl rfl
 have s2:w6.setCells gr 4 [.int .i64 s.w,.int .i64 s.l,.int .i64 s.n]=w6:=setCells3_same hb6 rfl rfl rfl
 have s3:w6.setCell ⟨gr,13,none⟩ h.a.v=w6:=setCell_same hb6 rfl
 have s4:w6.setCell ⟨gr,14,none⟩ h.b.v=w6:=setCell_same hb6 rfl
 have e13:=cl (hb6.cell 13)
 have e14:=cl (hb6.cell 14)
 have f13:w6.frozen? ⟨gr,13,none⟩=false:=hb6.frozen 13
 have f14:w6.frozen? ⟨gr,14,none⟩=false:=hb6.frozen 14
 go_wp2_with (first
  |(refine wpList_store_mid rfl _ _ _ rfl gr 1 #[.int .i64 t.c,.int .i64 t.l,.int .i64 t.s] rfl rfl (hb6.there 1 3 (by simp)) (by kernel_rfl) (by kernel_rfl) ?_;rw[s1])
  |(refine wpList_store_mid rfl _ _ _ rfl gr 4 #[.int .i64 s.w,.int .i64 s.l,.int .i64 s.n] rfl rfl (hb6.there 4 3 (by simp)) (by kernel_rfl) (by kernel_rfl) ?_;rw[s2]))
 refine(wlInt ps _ _ _ w6 B g v6 _ gc ⟨gr,15,none⟩ hc6 hp6 A3.head i.nc i.ps (by simp only[List.length_append];omega)).mono ?_
 rintro e w7 ⟨rfl,v7,hc7,hf7⟩
 go_wp2
 go_end0
 refine⟨rfl,v7,?_,((hf1.trans hf5).trans hf6).trans hf7⟩
 simpa only[List.append_assoc] using hc7
end Go.Proofs.YtcalkfgibflbnaaGreat
