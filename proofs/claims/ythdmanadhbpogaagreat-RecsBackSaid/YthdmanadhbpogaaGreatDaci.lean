/- The walk of a coder that writes a record of kind 3. -/
import Derived.Test.YthdmanadhbpogaaGreatDaab
import Derived.Test.YthdmanadhbpogaaGreatDaac
import Derived.Test.YthdmanadhbpogaaGreatDaaf
import Derived.Test.YthdmanadhbpogaaGreatDabf
import Derived.Test.YthdmanadhbpogaaGreatDacd
namespace Go.Proofs.YthdmanadhbpogaaGreat
set_option linter.unusedVariables false
open Go.RowKit Fl
attribute [local go_sem] run_store_float
set_option maxRecDepth 100000 in
set_option maxHeartbeats 4000000 in
theorem walk_3 (r:Rc) (h:Hds) (w:World) (B g:Nat) (v:Value) (bs:List UInt8) (gc gr:Nat) (hk:r.k=3) (hc:CW w B g v bs gc) (hp:Apt w g v gr) (hb:Blk w gr 38 (r.vals h)) (ok:r.ok) (i:RcLo w B r h) (cp:h.caps)
 (hlen:bs.length+(encRc r).length+10≤1000000000000):
 Calls Tryz.prog 61 #[.pointer (some ⟨gc,0,none⟩),.pointer (some ⟨gr,0,none⟩)] w (CPost w B g v bs gc (encRc r)):=by
 have hE:encRc r=encI r.k++(encPn ⟨r.t,r.s,r.rd,r.wr⟩++encLs encI r.ps):=by unfold encRc encBody;simp[hk]
 rw[hE]at hlen ⊢
 simp only[List.length_append]at hlen
 have hA:=At.blk hb
 have A3:At w ⟨gr,15,none⟩ [h.c.v]:=hA.sub (a:=[_,_,_,_,_,_,_,_,_,_,_,_,_,_,_]) (b:=[_]) (c:=[_,_,_,_,_,_,_,_,_,_,_,_,_])
 clear hE
 obtain⟨k,t,s,pv,cm,n,pt,rd,wr,ps,pr,st⟩:=r
 change k=3 at hk
 subst hk
 go_enter Tryz.func61,Tryz.ntmps61
 go_wp2_with fail
 refine(wcInt 3 w B g v bs gc ⟨gr,0,none⟩ _ hc hp rfl (hA.sub (a:=[]) (b:=[_])) ⟨rfl,by unfold i64ok;omega⟩ (by omega)).mono ?_
 rintro e w1 ⟨rfl,v1,hc1,hf1⟩
 have hp1:=hf1.apt hp
 have hb1:Blk w1 gr 38 _:=(hf1.heap hp).trans hb
 have c0:w1.cell? ⟨gr,0,none⟩=some (.int .i64 3):=hb1.cell 0
 replace i:=i.below (hc.lo hf1)
 replace A3:=hf1.at_ (p:=⟨gr,15,none⟩) hp A3
 go_wp2_with fail
 refine wp_region_held_drew (S:=fun w'=>Below w1.heap.size w1 w') (by kernel_rfl) (Below.refl _ _).drew (fun hHeld=>?_)
 refine tc 0 32 ?_
 go_frame
 refine tc 1 33 ?_
 go_frame
 refine tc 2 34 ?_
 go_frame
 refine tl 3 35 rfl (yieldsIf_load_mid (by rfl) _ _ rfl gr 1 rfl [.int .i64 t.c,.int .i64 t.l,.int .i64 t.s] _ (fun W hSw=>(hb1.below hSw hb1.lt).range 1 _ (three_of rfl rfl rfl)) rfl rfl (by kernel_rfl)) ?_
 go_frame
 refine tc 4 36 ?_
 go_frame
 refine tc 5 37 ?_
 go_frame
 refine tc 6 38 ?_
 go_frame
 refine tl 7 39 rfl (yieldsIf_load_mid (by rfl) _ _ rfl gr 4 rfl [.int .i64 s.w,.int .i64 s.l,.int .i64 s.n] _ (fun W hSw=>(hb1.below hSw hb1.lt).range 4 _ (three_of rfl rfl rfl)) rfl rfl (by kernel_rfl)) ?_
 go_frame
 refine tc 8 40 ?_
 go_frame
 refine tc 9 41 ?_
 go_frame
 refine tc 10 42 ?_
 go_frame
 refine ts 11 43 rfl (v:=h.a.v) (fun W hSw=>by have z:W.cell? ⟨gr,13,none⟩=some h.a.v:=(hb1.below hSw hb1.lt).cell 13;clear hSw;go_simp) ?_
 go_frame
 refine tc 12 44 ?_
 go_frame
 refine tc 13 45 ?_
 go_frame
 refine tc 14 46 ?_
 go_frame
 refine ts 15 47 rfl (v:=h.b.v) (fun W hSw=>by have z:W.cell? ⟨gr,14,none⟩=some h.b.v:=(hb1.below hSw hb1.lt).cell 14;clear hSw;go_simp) ?_
 go_frame
 refine tc 16 48 ?_
 go_frame
 have hbA:Below w1.heap.size w1 (w1.drew.alloc (.cells zeroPn 96)):=(Below.refl _ _).drew.alloc (Nat.le_refl _) _
 refine wpAnyH_alloc (i:=17) (by kernel_rfl) rfl rfl _ rfl (.cells zeroPn 96) (alloc_pn _ _ rfl _) hbA ?_
 go_frame
 have i13:=Blk.new w1.drew 96 zeroPn
 have hbB:Below w1.heap.size w1 ((w1.drew.alloc (.cells zeroPn 96)).setRow w1.drew.heap.size #[.int .i64 t.c,.int .i64 t.l,.int .i64 t.s,.int .i64 s.w,.int .i64 s.l,.int .i64 s.n,h.a.v,h.b.v]):=below_setRow hbA (Nat.le_refl _) _
 refine wpAnyH_store_rowE (i:=18) (by kernel_rfl) rfl rfl _ _ _ rfl w1.drew.heap.size #[.int .i64 t.c,.int .i64 t.l,.int .i64 t.s,.int .i64 s.w,.int .i64 s.l,.int .i64 s.n,h.a.v,h.b.v] (by kernel_rfl) (by kernel_rfl) _ zeroPn i13 (by kernel_rfl) (by kernel_rfl) (by kernel_rfl) hbB ?_
 intro w5 hw5
 go_frame
 refine td ?_
 have hpB:Blk w5 w1.heap.size 96 #[.int .i64 t.c,.int .i64 t.l,.int .i64 t.s,.int .i64 s.w,.int .i64 s.l,.int .i64 s.n,h.a.v,h.b.v]:=by rw[hw5];exact i13.setRow _
 rw[←hw5]at hbB
 have hc5:=hc1.below hbB
 have hap5:Apt w5 g v1 w1.heap.size:=⟨hpB.lt,by have:=hc1.wr.lt;omega,fun e=>by have:=hc1.wr.own_lt _ e.symm;omega⟩
 have hp5:Apt w5 g v1 gr:=⟨Nat.lt_of_lt_of_le hp1.1 hbB.size,hp1.2⟩
 have hb5:=hb1.below hbB hb1.lt
 have hlo5:Below B w1 w5:=hbB.mono hc1.hB
 replace i:=i.below hlo5
 replace A3:At w5 ⟨gr,15,none⟩ [h.c.v]:=fun j u hj=>(hbB.cell (by rw[block_of_add];exact hp1.1)).trans (A3 j u hj)
 have hf5:=Foot.ofBelow g v1 hbB
 clear hw5 hbA i13 hHeld hb1 c0
 have hlc:(encPn ⟨t,s,rd,wr⟩).length=(encPn ⟨t,s,rd,wr⟩).length:=rfl
 clear hlc
 go_wp2_with fail
 refine(wcPending ⟨t,s,rd,wr⟩ w5 B g v1 _ gc ⟨w1.heap.size,0,none⟩ _ hc5 hap5 rfl (At.blk hpB) ⟨_,_,rfl,ok.t,ok.s,⟨_,_,_,rfl,cp.a.1,cp.a.2,i.rd⟩,_,_,_,rfl,cp.b.1,cp.b.2,i.wr⟩ (by simp only[List.length_append];omega)).mono ?_
 rintro e w6 ⟨rfl,v6,hc6,hf6⟩
 have hb6:Blk w6 gr 38 _:=(hf6.heap hp5).trans hb5
 have hq6:Blk w6 w1.heap.size 96 #[.int .i64 t.c,.int .i64 t.l,.int .i64 t.s,.int .i64 s.w,.int .i64 s.l,.int .i64 s.n,h.a.v,h.b.v]:=(hf6.heap hap5).trans hpB
 have hp6:=hf6.apt hp5
 replace A3:=hf6.at_ (p:=⟨gr,15,none⟩) hp5 A3
 replace i:=i.below (hc5.lo hf6)
 have d0:w6.cell? ⟨w1.heap.size,0,none⟩=some (.int .i64 t.c):=hq6.cell 0
 have d1:w6.cell? ⟨w1.heap.size,1,none⟩=some (.int .i64 t.l):=hq6.cell 1
 have d2:w6.cell? ⟨w1.heap.size,2,none⟩=some (.int .i64 t.s):=hq6.cell 2
 have d3:w6.cell? ⟨w1.heap.size,3,none⟩=some (.int .i64 s.w):=hq6.cell 3
 have d4:w6.cell? ⟨w1.heap.size,4,none⟩=some (.int .i64 s.l):=hq6.cell 4
 have d5:w6.cell? ⟨w1.heap.size,5,none⟩=some (.int .i64 s.n):=hq6.cell 5
 have d6:w6.cell? ⟨w1.heap.size,6,none⟩=some h.a.v:=hq6.cell 6
 have d7:w6.cell? ⟨w1.heap.size,7,none⟩=some h.b.v:=hq6.cell 7
 have s1:w6.setCells gr 1 [.int .i64 t.c,.int .i64 t.l,.int .i64 t.s]=w6:=setCells3_same hb6 rfl rfl rfl
 have s2:w6.setCells gr 4 [.int .i64 s.w,.int .i64 s.l,.int .i64 s.n]=w6:=setCells3_same hb6 rfl rfl rfl
 have s3:w6.setCell ⟨gr,13,none⟩ h.a.v=w6:=setCell_same hb6 rfl
 have s4:w6.setCell ⟨gr,14,none⟩ h.b.v=w6:=setCell_same hb6 rfl
 have e13:w6.cell? ⟨gr,13,none⟩=some h.a.v:=hb6.cell 13
 have e14:w6.cell? ⟨gr,14,none⟩=some h.b.v:=hb6.cell 14
 have f13:w6.frozen? ⟨gr,13,none⟩=false:=hb6.frozen 13
 have f14:w6.frozen? ⟨gr,14,none⟩=false:=hb6.frozen 14
 go_wp2_with (first
  |(refine wpList_store_mid rfl _ _ _ rfl gr 1 #[.int .i64 t.c,.int .i64 t.l,.int .i64 t.s] rfl rfl (hb6.there 1 3 (by simp)) (by kernel_rfl) (by kernel_rfl) ?_;rw[s1])
  |(refine wpList_store_mid rfl _ _ _ rfl gr 4 #[.int .i64 s.w,.int .i64 s.l,.int .i64 s.n] rfl rfl (hb6.there 4 3 (by simp)) (by kernel_rfl) (by kernel_rfl) ?_;rw[s2]))
 refine(wlInt ps _ _ _ w6 B g v6 _ gc ⟨gr,15,none⟩ hc6 hp6 A3.head i.nc i.ps (by simp only[List.length_append];omega)).mono ?_
 rintro e w7 ⟨rfl,v7,hc7,hf7⟩
 go_wp2
 go_end0
 refine⟨rfl,v7,?_,((hf1.trans hf5).trans hf6).trans hf7⟩
 simpa only[List.append_assoc] using hc7
end Go.Proofs.YthdmanadhbpogaaGreat
/- The walk of recs.Encode. -/
namespace Go.Proofs.YthdmanadhbpogaaGreat
set_option linter.unusedVariables false
open Go.RowKit Fl
attribute [local go_sem] run_store_float
theorem kind_cases {k:Int} (h:kindB k=true):k=1∨k=2∨k=3∨k=4∨k=5∨k=6∨k=7∨k=8∨k=9∨k=10∨k=11∨k=12:=by
 unfold kindB at h
 rw[decide_eq_true_eq]at h
 omega
theorem walk_any (r:Rc) (h:Hds) (w:World) (B g:Nat) (v:Value) (bs:List UInt8) (gc gr:Nat) (hk:kindB r.k=true) (hc:CW w B g v bs gc) (hp:Apt w g v gr) (hb:Blk w gr 38 (r.vals h)) (ok:r.ok) (i:RcLo w B r h) (cp:h.caps)
 (hlen:bs.length+(encRc r).length+10≤1000000000000):
 Calls Tryz.prog 61 #[.pointer (some ⟨gc,0,none⟩),.pointer (some ⟨gr,0,none⟩)] w (CPost w B g v bs gc (encRc r)):=by
 rcases kind_cases hk with e|e|e|e|e|e|e|e|e|e|e|e
 · exact walk_1 r h w B g v bs gc gr e hc hp hb ok i cp hlen
 · exact walk_2 r h w B g v bs gc gr e hc hp hb ok i cp hlen
 · exact walk_3 r h w B g v bs gc gr e hc hp hb ok i cp hlen
 · exact walk_4 r h w B g v bs gc gr e hc hp hb ok i cp hlen
 · exact walk_5 r h w B g v bs gc gr e hc hp hb ok i cp hlen
 · exact walk_6 r h w B g v bs gc gr e hc hp hb ok i cp hlen
 · exact walk_7 r h w B g v bs gc gr e hc hp hb ok i cp hlen
 · exact walk_8 r h w B g v bs gc gr e hc hp hb ok i cp hlen
 · exact walk_9 r h w B g v bs gc gr e hc hp hb ok i cp hlen
 · exact walk_10 r h w B g v bs gc gr e hc hp hb ok i cp hlen
 · exact walk_11 r h w B g v bs gc gr e hc hp hb ok i cp hlen
 · exact walk_12 r h w B g v bs gc gr e hc hp hb ok i cp hlen
theorem owns_down {w:World} {base base':Nat} {e:TypeId} {size n:Nat} {v:Value} {xs:List Value} (h:w.ownsRow base e size v n xs) (hB:base'≤base):w.ownsRow base' e size v n xs:=by
 obtain⟨h6,h7⟩:=h
 refine⟨h6,?_⟩
 rcases h7 with h7|⟨k,cap,cur,e,hk,r⟩
 · exact .inl h7
 · exact .inr ⟨k,cap,cur,e,Nat.le_trans hB hk,r⟩
def encE (r:Rc):Int:=if recMay r=0 then (if 262144<(encRc r).length then 2 else 0) else recMay r
def encOut (r:Rc):List UInt8:=if encE r=0 then encRc r else []
def RowE (w:World) (bs:List UInt8) (er:Int):Ending→World→Prop:=fun e w'=>
 ∃A c,e=.returned (.tuple #[.slice A bs.length c,.int .i64 er])∧bs.length≤c∧c≤maxLen∧w'.ownsRow w.heap.size 5 1 (.slice A bs.length c) bs.length (bytesV bs)∧Below w.heap.size w w'
theorem RowE.nil {w w':World} (er:Int) (hb:Below w.heap.size w w'):RowE w [] er (.returned (.tuple #[.slice none 0 0,.int .i64 er])) w':=
 ⟨none,0,rfl,Nat.le_refl _,by unfold maxLen;omega,World.ownsRow_nil _ _ _ _,hb⟩
set_option maxRecDepth 100000 in
set_option maxHeartbeats 4000000 in
theorem encode_any (r:Rc) (h:Hds) (w:World) (ok:r.ok) (i:RcIn w r h) (cp:h.caps) (sm:RcSm r h) (hlen:(encRc r).length+10≤1000000000000):
 Calls Tryz.prog 19 #[.agg (r.vals h)] w (RowE w (encOut r) (encE r)):=by
 have hM:=fun w' (hb:Below w.heap.size w w')=>recMay_any r h w' ok (i.below hb) sm
 have hX:Below w.heap.size w (w.alloc (.cells (r.vals h) 38)):=by go_grown
 have B0:Blk (w.alloc (.cells (r.vals h) 38)) w.heap.size 38 (r.vals h):=Blk.new _ _ _
 by_cases hm:recMay r=0
 · have hk:kindB r.k=true:=by
    cases hq:kindB r.k
    · unfold recMay at hm;rw[hq]at hm;cases hm
    · rfl
   have HE:=Lib.hid (show encE r=if 262144<(encRc r).length then 2 else 0 by unfold encE;rw[if_pos hm])
   have HO:=Lib.hid (show encOut r=if 262144<(encRc r).length then [] else encRc r by unfold encOut;rw[HE.out];by_cases hq:262144<(encRc r).length<;>simp[hq])
   rw[hm]at hM
   clear hm
   go_enter Tryz.func19,Tryz.ntmps19
   go_wp2_with (first
    |(refine wpList_load_row rfl 38 _ rfl w.heap.size rfl _ _ (0,0) _ B0 rfl rfl (by kernel_rfl) ?_)
    |((with_reducible refine(hM _ hX).mono ?_);rintro e w1 ⟨rfl,hb1⟩
      have hX1:=hX.trans (hb1.mono hX.size)
      have B1:=B0.below hb1 B0.lt)
    |((with_reducible refine(wnew _).mono ?_);rintro e w2 ⟨rfl,rfl⟩))
   have hW:=Wr.new w1
   have hD:Below (w1.alloc (.cells #[.slice none 0 0] 123)).heap.size (w1.alloc (.cells #[.slice none 0 0] 123)) ((w1.alloc (.cells #[.slice none 0 0] 123)).alloc (.cells #[.pointer (some ⟨w1.heap.size,0,none⟩),.pointer none] 109)):=(Below.refl _ _).alloc (Nat.le_refl _) _
   have hY1:Below w1.heap.size w1 ((w1.alloc (.cells #[.slice none 0 0] 123)).alloc (.cells #[.pointer (some ⟨w1.heap.size,0,none⟩),.pointer none] 109)):=by go_grown
   have kC:Blk ((w1.alloc (.cells #[.slice none 0 0] 123)).alloc (.cells #[.pointer (some ⟨w1.heap.size,0,none⟩),.pointer none] 109)) (w1.heap.size+1) 109 #[.pointer (some ⟨w1.heap.size,0,none⟩),.pointer none]:=Blk.new' _ _ (by simp)
   have hc:CW ((w1.alloc (.cells #[.slice none 0 0] 123)).alloc (.cells #[.pointer (some ⟨w1.heap.size,0,none⟩),.pointer none] 109)) w1.heap.size w1.heap.size (.slice none 0 0) [] (w1.heap.size+1):=
    ⟨hW.below hD,hY1.size,kC,kC.lt,by omega,by intro e;cases e⟩
   have B2:=B1.below hY1 B1.lt
   have hlo:RcLo w1 w1.heap.size r h:=RcLo.of (i.below hX1)
   have hl0:w.heap.size<w1.heap.size:=B1.lt
   have HX1:=Lib.hid hX1
   have HY1:=Lib.hid hY1
   clear hX hX1 hM B0 i sm hb1 kC hD hW
   go_wp2_with fail
   refine(walk_any r h _ w1.heap.size w1.heap.size (.slice none 0 0) [] (w1.heap.size+1) w.heap.size hk hc (Apt.low hc hl0) B2 ok (hlo.below hY1) cp (by simpa using hlen)).mono ?_
   rintro e w2 ⟨rfl,v2,hc2,hf2⟩
   rw[List.nil_append]at hc2
   have HZ:=Lib.hid (hY1.trans (hc.lo hf2))
   have hl1:=B2.lt
   clear hc hlo B2 hf2 hY1
   go_wp2_with ((with_reducible refine(wbytes _ v2 (encRc r) w1.heap.size w2 hc2.wr (by omega)).mono ?_);rintro e w3 ⟨A,c,rfl,q1,q2,q3,q4⟩)
   all_goals have hB2:=HX1.out.trans (HZ.out.mono HX1.out.size)
   all_goals have hB3:=hB2.trans (q4.mono hB2.size)
   · have hgt:262144<(encRc r).length:=by
        have hz:decide (262144<((encRc r).length:Int))=true:=by simp;omega
        simp at hz;omega
     go_ret2
     rw[HE.out,HO.out,if_pos hgt,if_pos hgt]
     exact RowE.nil 2 hB3
   · have hgt:¬262144<(encRc r).length:=by omega
     go_ret2
     rw[HE.out,HO.out,if_neg hgt,if_neg hgt]
     exact⟨A,c,rfl,q1,q2,owns_down q3 hB2.size,hB3⟩
 · have h1:encE r=recMay r:=by unfold encE;rw[if_neg hm]
   have h2:encOut r=[]:=by unfold encOut;rw[h1,if_neg hm]
   rw[h1,h2]
   have hb0:(recMay r !=0)=true:=by simp[hm]
   generalize recMay r=m at*
   clear h1 h2 hm
   go_enter Tryz.func19,Tryz.ntmps19
   go_wp2_with (first
    |(refine wpList_load_row rfl 38 _ rfl w.heap.size rfl _ _ (0,0) _ B0 rfl rfl (by kernel_rfl) ?_)
    |((with_reducible refine(hM _ hX).mono ?_);rintro e w1 ⟨rfl,hb1⟩))
   go_ret2
   exact RowE.nil m (hX.trans (hb1.mono hX.size))
end Go.Proofs.YthdmanadhbpogaaGreat
