/- The walk of a coder that writes a record of kind 3. -/
import Derived.Deep.MidRow
import Derived.Test.YtcalkfgibflbnaaGreatKaab
import Derived.Test.YtcalkfgibflbnaaGreatKaac
import Derived.Test.YtcalkfgibflbnaaGreatKaae
import Derived.Test.YtcalkfgibflbnaaGreatKaag
import Derived.Test.YtcalkfgibflbnaaGreatKaaj
import Derived.Test.YtcalkfgibflbnaaGreatKaba
import Derived.Test.YtcalkfgibflbnaaGreatKabb
import Derived.Test.YtcalkfgibflbnaaGreatKace
import Derived.Test.YtcalkfgibflbnaaGreatKacf
import Derived.Test.YtcalkfgibflbnaaGreatKacj
namespace Go.Proofs.YtcalkfgibflbnaaGreat
set_option linter.unusedVariables false
open Go.RowKit Fl
attribute [local go_sem] run_store_float
set_option maxRecDepth 100000 in
set_option maxHeartbeats 4000000 in
theorem walk_3 (r:Rc) (h:Hds) (w:World) (B g:Nat) (v:Value) (bs:List UInt8) (gc gr:Nat) (hk:r.k=3) (hc:CW w B g v bs gc) (hp:Apt w g v gr) (hb:Blk w gr 69 (r.vals h)) (ok:r.ok) (i:RcLo w B r h) (cp:h.caps)
 (hlen:bs.length+(encRc r).length+10≤1000000000000):
 Calls Tryz.prog 159 #[.pointer (some ⟨gc,0,none⟩),.pointer (some ⟨gr,0,none⟩)] w (CPost w B g v bs gc (encRc r)):=by
 have hE:encRc r=encI r.k++(encPn ⟨r.t,r.s,r.rd,r.wr⟩++encLs encI r.ps):=by unfold encRc encBody;simp[hk]
 rw[hE]at hlen ⊢
 simp only[List.length_append]at hlen
 have hA:=At.blk hb
 have A3:At w ⟨gr,15,none⟩ [h.c.v]:=hA.sub (a:=[_,_,_,_,_,_,_,_,_,_,_,_,_,_,_]) (b:=[_]) (c:=[_,_,_,_,_,_,_,_,_,_,_,_,_])
 clear hE
 obtain⟨k,t,s,pv,cm,n,pt,rd,wr,ps,pr,st⟩:=r
 change k=3 at hk
 subst hk
 go_enter Tryz.func159,Tryz.ntmps159
 go_wp2_with fail
 refine(wcInt 3 w B g v bs gc ⟨gr,0,none⟩ _ hc hp rfl (hA.sub (a:=[]) (b:=[_])) ⟨rfl,by unfold i64ok;omega⟩ (by omega)).mono ?_
 rintro e w1 ⟨rfl,v1,hc1,hf1⟩
 have hp1:=hf1.apt hp
 have hb1:Blk w1 gr 69 _:=(hf1.heap hp).trans hb
 have c0:=cl (hb1.cell 0)
 replace i:=i.below (hc.lo hf1)
 replace A3:=hf1.at_ (p:=⟨gr,15,none⟩) hp A3
 go_wp2_with fail
 refine wp_region_held_drew (S:=fun w'=>Below w1.heap.size w1 w') (by kernel_rfl) (Below.refl _ _).drew (fun hHeld=>?_)
 refine tc 0 32 ?_
 go_frame
 refine tc 1 33 ?_
 go_frame
 refine tc 2 34 ?_
 go_frame
 refine tl 3 35 rfl (yieldsIf_load_mid (by rfl) _ _ rfl gr 1 rfl [.int .i64 t.c,.int .i64 t.l,.int .i64 t.s] _ (fun W hSw=>(hb1.below hSw hb1.lt).range 1 _ (three_of rfl rfl rfl)) rfl rfl (by kernel_rfl)) ?_
 go_frame
 refine tc 4 36 ?_
 go_frame
 refine tc 5 37 ?_
 go_frame
 refine tc 6 38 ?_
 go_frame
 refine tl 7 39 rfl (yieldsIf_load_mid (by rfl) _ _ rfl gr 4 rfl [.int .i64 s.w,.int .i64 s.l,.int .i64 s.n] _ (fun W hSw=>(hb1.below hSw hb1.lt).range 4 _ (three_of rfl rfl rfl)) rfl rfl (by kernel_rfl)) ?_
 go_frame
 refine tc 8 40 ?_
 go_frame
 refine tc 9 41 ?_
 go_frame
 refine tc 10 42 ?_
 go_frame
 refine ts 11 43 rfl (v:=h.a.v) (fun W hSw=>by have z:W.cell? ⟨gr,13,none⟩=some h.a.v:=(hb1.below hSw hb1.lt).cell 13;clear hSw;go_simp) ?_
 go_frame
 refine tc 12 44 ?_
 go_frame
 refine tc 13 45 ?_
 go_frame
 refine tc 14 46 ?_
 go_frame
 refine ts 15 47 rfl (v:=h.b.v) (fun W hSw=>by have z:W.cell? ⟨gr,14,none⟩=some h.b.v:=(hb1.below hSw hb1.lt).cell 14;clear hSw;go_simp) ?_
 go_frame
 refine tc 16 48 ?_
 go_frame
 have hbA:Below w1.heap.size w1 (w1.drew.alloc (.cells zeroPn 162)):=(Below.refl _ _).drew.alloc (Nat.le_refl _) _
 refine wpAnyH_alloc (i:=17) (by kernel_rfl) rfl rfl _ rfl (.cells zeroPn 162) (alloc_pn _ _ rfl _) hbA ?_
 go_frame
 have i13:=Blk.new w1.drew 162 zeroPn
 have hbB:Below w1.heap.size w1 ((w1.drew.alloc (.cells zeroPn 162)).setRow w1.drew.heap.size #[.int .i64 t.c,.int .i64 t.l,.int .i64 t.s,.int .i64 s.w,.int .i64 s.l,.int .i64 s.n,h.a.v,h.b.v]):=below_setRow hbA (Nat.le_refl _) _
 refine wpAnyH_store_rowE (i:=18) (by kernel_rfl) rfl rfl _ _ _ rfl w1.drew.heap.size #[.int .i64 t.c,.int .i64 t.l,.int .i64 t.s,.int .i64 s.w,.int .i64 s.l,.int .i64 s.n,h.a.v,h.b.v] (by kernel_rfl) (by kernel_rfl) _ zeroPn i13 (by kernel_rfl) (by kernel_rfl) (by kernel_rfl) hbB ?_
 intro w5 hw5
 go_frame
 refine td ?_
 have hpB:Blk w5 w1.heap.size 162 #[.int .i64 t.c,.int .i64 t.l,.int .i64 t.s,.int .i64 s.w,.int .i64 s.l,.int .i64 s.n,h.a.v,h.b.v]:=by rw[hw5];exact i13.setRow _
 rw[←hw5]at hbB
 have hc5:=hc1.below hbB
 have hap5:Apt w5 g v1 w1.heap.size:=⟨hpB.lt,by have:=hc1.wr.lt;omega,fun e=>by have:=hc1.wr.own_lt _ e.symm;omega⟩
 have hp5:Apt w5 g v1 gr:=⟨Nat.lt_of_lt_of_le hp1.1 hbB.size,hp1.2⟩
 have hb5:=hb1.below hbB hb1.lt
 have hlo5:Below B w1 w5:=hbB.mono hc1.hB
 replace i:=i.below hlo5
 replace A3:At w5 ⟨gr,15,none⟩ [h.c.v]:=fun j u hj=>(hbB.cell (by rw[block_of_add];exact hp1.1)).trans (A3 j u hj)
 have hf5:=Foot.ofBelow g v1 hbB
 clear hw5 hbA i13 hHeld hb1 c0
 have hlc:(encPn ⟨t,s,rd,wr⟩).length=(encPn ⟨t,s,rd,wr⟩).length:=rfl
 clear hlc
 go_wp2_with fail
 refine(wcPending ⟨t,s,rd,wr⟩ w5 B g v1 _ gc ⟨w1.heap.size,0,none⟩ _ hc5 hap5 rfl (At.blk hpB) ⟨_,_,rfl,ok.t,ok.s,⟨_,_,_,rfl,cp.a.1,cp.a.2,i.rd⟩,_,_,_,rfl,cp.b.1,cp.b.2,i.wr⟩ (by simp only[List.length_append];omega)).mono ?_
 rintro e w6 ⟨rfl,v6,hc6,hf6⟩
 have hb6:Blk w6 gr 69 _:=(hf6.heap hp5).trans hb5
 have hq6:Blk w6 w1.heap.size 162 #[.int .i64 t.c,.int .i64 t.l,.int .i64 t.s,.int .i64 s.w,.int .i64 s.l,.int .i64 s.n,h.a.v,h.b.v]:=(hf6.heap hap5).trans hpB
 have hp6:=hf6.apt hp5
 replace A3:=hf6.at_ (p:=⟨gr,15,none⟩) hp5 A3
 replace i:=i.below (hc5.lo hf6)
 have d0:=cl (hq6.cell 0)
 have d1:=cl (hq6.cell 1)
 have d2:=cl (hq6.cell 2)
 have d3:=cl (hq6.cell 3)
 have d4:=cl (hq6.cell 4)
 have d5:=cl (hq6.cell 5)
 have d6:=cl (hq6.cell 6)
 have d7:=cl (hq6.cell 7)
 have s1:w6.setCells gr 1 [.int .i64 t.c,.int .i64 t.l,.int .i64 t.s]=w6:=setCells3_same hb6 rfl rfl rfl
 have s2:w6.setCells gr 4 [.int .i64 s.w,.int .i64 s.l,.int .i64 s.n]=w6:=setCells3_same hb6 rfl rfl rfl
 have s3:w6.setCell ⟨gr,13,none⟩ h.a.v=w6:=setCell_same hb6 rfl
 have s4:w6.setCell ⟨gr,14,none⟩ h.b.v=w6:=setCell_same hb6 rfl
 have e13:=cl (hb6.cell 13)
 have e14:=cl (hb6.cell 14)
 have f13:w6.frozen? ⟨gr,13,none⟩=false:=hb6.frozen 13
 have f14:w6.frozen? ⟨gr,14,none⟩=false:=hb6.frozen 14
 go_wp2_with (first
  |(refine wpList_store_mid rfl _ _ _ rfl gr 1 #[.int .i64 t.c,.int .i64 t.l,.int .i64 t.s] rfl rfl (hb6.there 1 3 (by simp)) (by kernel_rfl) (by kernel_rfl) ?_;rw[s1])
  |(refine wpList_store_mid rfl _ _ _ rfl gr 4 #[.int .i64 s.w,.int .i64 s.l,.int .i64 s.n] rfl rfl (hb6.there 4 3 (by simp)) (by kernel_rfl) (by kernel_rfl) ?_;rw[s2]))
 refine(wlInt ps _ _ _ w6 B g v6 _ gc ⟨gr,15,none⟩ hc6 hp6 A3.head i.nc i.ps (by simp only[List.length_append];omega)).mono ?_
 rintro e w7 ⟨rfl,v7,hc7,hf7⟩
 go_wp2
 go_end0
 refine⟨rfl,v7,?_,((hf1.trans hf5).trans hf6).trans hf7⟩
 simpa only[List.append_assoc] using hc7
end Go.Proofs.YtcalkfgibflbnaaGreat
/- The walk of recs.Encode. -/
namespace Go.Proofs.YtcalkfgibflbnaaGreat
set_option linter.unusedVariables false
open Go.RowKit Fl
attribute [local go_sem] run_store_float
theorem kind_cases {k:Int} (h:kindB k=true):k=1∨k=2∨k=3∨k=4∨k=5∨k=6∨k=7∨k=8∨k=9∨k=10∨k=11∨k=12:=by
 unfold kindB at h
 rw[decide_eq_true_eq]at h
 omega
theorem walk_any (r:Rc) (h:Hds) (w:World) (B g:Nat) (v:Value) (bs:List UInt8) (gc gr:Nat) (hk:kindB r.k=true) (hc:CW w B g v bs gc) (hp:Apt w g v gr) (hb:Blk w gr 69 (r.vals h)) (ok:r.ok) (i:RcLo w B r h) (cp:h.caps)
 (hlen:bs.length+(encRc r).length+10≤1000000000000):
 Calls Tryz.prog 159 #[.pointer (some ⟨gc,0,none⟩),.pointer (some ⟨gr,0,none⟩)] w (CPost w B g v bs gc (encRc r)):=by
 rcases kind_cases hk with e|e|e|e|e|e|e|e|e|e|e|e
 · exact walk_1 r h w B g v bs gc gr e hc hp hb ok i cp hlen
 · exact walk_2 r h w B g v bs gc gr e hc hp hb ok i cp hlen
 · exact walk_3 r h w B g v bs gc gr e hc hp hb ok i cp hlen
 · exact walk_4 r h w B g v bs gc gr e hc hp hb ok i cp hlen
 · exact walk_5 r h w B g v bs gc gr e hc hp hb ok i cp hlen
 · exact walk_6 r h w B g v bs gc gr e hc hp hb ok i cp hlen
 · exact walk_7 r h w B g v bs gc gr e hc hp hb ok i cp hlen
 · exact walk_8 r h w B g v bs gc gr e hc hp hb ok i cp hlen
 · exact walk_9 r h w B g v bs gc gr e hc hp hb ok i cp hlen
 · exact walk_10 r h w B g v bs gc gr e hc hp hb ok i cp hlen
 · exact walk_11 r h w B g v bs gc gr e hc hp hb ok i cp hlen
 · exact walk_12 r h w B g v bs gc gr e hc hp hb ok i cp hlen
theorem owns_down {w:World} {base base':Nat} {e:TypeId} {size n:Nat} {v:Value} {xs:List Value} (h:w.ownsRow base e size v n xs) (hB:base'≤base):w.ownsRow base' e size v n xs:=by
 obtain⟨h6,h7⟩:=h
 refine⟨h6,?_⟩
 rcases h7 with h7|⟨k,cap,cur,e,hk,r⟩
 · exact .inl h7
 · exact .inr ⟨k,cap,cur,e,Nat.le_trans hB hk,r⟩
def encE (r:Rc):Int:=if recMay r=0 then (if 262144<(encRc r).length then 2 else 0) else recMay r
def encOut (r:Rc):List UInt8:=if encE r=0 then encRc r else []
def RowE (w:World) (bs:List UInt8) (er:Int):Ending→World→Prop:=fun e w'=>
 ∃A c,e=.returned (.tuple #[.slice A bs.length c,.int .i64 er])∧bs.length≤c∧c≤maxLen∧w'.ownsRow w.heap.size 5 1 (.slice A bs.length c) bs.length (bytesV bs)∧Below w.heap.size w w'
theorem RowE.nil {w w':World} (er:Int) (hb:Below w.heap.size w w'):RowE w [] er (.returned (.tuple #[.slice none 0 0,.int .i64 er])) w':=
 ⟨none,0,rfl,Nat.le_refl _,by unfold maxLen;omega,World.ownsRow_nil _ _ _ _,hb⟩
set_option maxRecDepth 100000 in
set_option maxHeartbeats 4000000 in
theorem encode_any (r:Rc) (h:Hds) (w:World) (ok:r.ok) (i:RcIn w r h) (cp:h.caps) (sm:RcSm r h) (hlen:(encRc r).length+10≤1000000000000):
 Calls Tryz.prog 108 #[.agg (r.vals h)] w (RowE w (encOut r) (encE r)):=by
 have hM:=fun w' (hb:Below w.heap.size w w')=>recMay_any r h w' ok (i.below hb) sm
 have hX:Below w.heap.size w (w.alloc (.cells (r.vals h) 69)):=by go_grown
 have B0:Blk (w.alloc (.cells (r.vals h) 69)) w.heap.size 69 (r.vals h):=Blk.new _ _ _
 by_cases hm:recMay r=0
 · have hk:kindB r.k=true:=by
    cases hq:kindB r.k
    · unfold recMay at hm;rw[hq]at hm;cases hm
    · rfl
   have HE:=Lib.hid (show encE r=if 262144<(encRc r).length then 2 else 0 by unfold encE;rw[if_pos hm])
   have HO:=Lib.hid (show encOut r=if 262144<(encRc r).length then [] else encRc r by unfold encOut;rw[HE.out];by_cases hq:262144<(encRc r).length<;>simp[hq])
   rw[hm]at hM
   clear hm
   go_enter Tryz.func108,Tryz.ntmps108
   go_wp2_with (first
    |(refine wpList_load_row rfl 69 _ rfl w.heap.size rfl _ _ (0,0) _ B0 rfl rfl (by kernel_rfl) ?_)
    |((with_reducible refine(hM _ hX).mono ?_);rintro e w1 ⟨rfl,hb1⟩
      have hX1:=hX.trans (hb1.mono hX.size)
      have B1:=B0.below hb1 B0.lt)
    |((with_reducible refine(wnew _).mono ?_);rintro e w2 ⟨rfl,rfl⟩))
   have hW:=Wr.new w1
   have hD:Below (w1.alloc (.cells #[.slice none 0 0] 129)).heap.size (w1.alloc (.cells #[.slice none 0 0] 129)) ((w1.alloc (.cells #[.slice none 0 0] 129)).alloc (.cells #[.pointer (some ⟨w1.heap.size,0,none⟩),.pointer none] 87)):=(Below.refl _ _).alloc (Nat.le_refl _) _
   have hY1:Below w1.heap.size w1 ((w1.alloc (.cells #[.slice none 0 0] 129)).alloc (.cells #[.pointer (some ⟨w1.heap.size,0,none⟩),.pointer none] 87)):=by go_grown
   have kC:Blk ((w1.alloc (.cells #[.slice none 0 0] 129)).alloc (.cells #[.pointer (some ⟨w1.heap.size,0,none⟩),.pointer none] 87)) (w1.heap.size+1) 87 #[.pointer (some ⟨w1.heap.size,0,none⟩),.pointer none]:=Blk.new' _ _ (by simp)
   have hc:CW ((w1.alloc (.cells #[.slice none 0 0] 129)).alloc (.cells #[.pointer (some ⟨w1.heap.size,0,none⟩),.pointer none] 87)) w1.heap.size w1.heap.size (.slice none 0 0) [] (w1.heap.size+1):=
    ⟨hW.below hD,hY1.size,kC,kC.lt,by omega,by intro e;cases e⟩
   have B2:=B1.below hY1 B1.lt
   have hlo:RcLo w1 w1.heap.size r h:=RcLo.of (i.below hX1)
   have hl0:w.heap.size<w1.heap.size:=B1.lt
   have HX1:=Lib.hid hX1
   have HY1:=Lib.hid hY1
   clear hX hX1 hM B0 i sm hb1 kC hD hW
   go_wp2_with fail
   refine(walk_any r h _ w1.heap.size w1.heap.size (.slice none 0 0) [] (w1.heap.size+1) w.heap.size hk hc (Apt.low hc hl0) B2 ok (hlo.below hY1) cp (by simpa using hlen)).mono ?_
   rintro e w2 ⟨rfl,v2,hc2,hf2⟩
   rw[List.nil_append]at hc2
   have HZ:=Lib.hid (hY1.trans (hc.lo hf2))
   have hl1:=B2.lt
   clear hc hlo B2 hf2 hY1
   go_wp2_with ((with_reducible refine(wbytes _ v2 (encRc r) w1.heap.size w2 hc2.wr (by omega)).mono ?_);rintro e w3 ⟨A,c,rfl,q1,q2,q3,q4⟩)
   all_goals have hB2:=HX1.out.trans (HZ.out.mono HX1.out.size)
   all_goals have hB3:=hB2.trans (q4.mono hB2.size)
   · have hgt:262144<(encRc r).length:=by
        have hz:decide (262144<((encRc r).length:Int))=true:=by simp;omega
        simp at hz;omega
     go_ret2
     rw[HE.out,HO.out,if_pos hgt,if_pos hgt]
     exact RowE.nil 2 hB3
   · have hgt:¬262144<(encRc r).length:=by omega
     go_ret2
     rw[HE.out,HO.out,if_neg hgt,if_neg hgt]
     exact⟨A,c,rfl,q1,q2,owns_down q3 hB2.size,hB3⟩
 · have h1:encE r=recMay r:=by unfold encE;rw[if_neg hm]
   have h2:encOut r=[]:=by unfold encOut;rw[h1,if_neg hm]
   rw[h1,h2]
   have hb0:(recMay r !=0)=true:=by simp[hm]
   generalize recMay r=m at*
   clear h1 h2 hm
   go_enter Tryz.func108,Tryz.ntmps108
   go_wp2_with (first
    |(refine wpList_load_row rfl 69 _ rfl w.heap.size rfl _ _ (0,0) _ B0 rfl rfl (by kernel_rfl) ?_)
    |((with_reducible refine(hM _ hX).mono ?_);rintro e w1 ⟨rfl,hb1⟩))
   go_ret2
   exact RowE.nil m (hX.trans (hb1.mono hX.size))
end Go.Proofs.YtcalkfgibflbnaaGreat
/- The walks of the document's bytes: stamps, numbers of transactions, values. -/
namespace Go.Proofs.YtcalkfgibflbnaaGreat
set_option maxHeartbeats 2000000
set_option maxRecDepth 100000
set_option linter.unusedVariables false
open Go.RowKit Fl
attribute [local go_sem] run_store_float
theorem RowPost.down {w X w':World} {bs:List UInt8} {e:Ending} (hX:Below w.heap.size w X) (h:RowPost X bs e w'):RowPost w bs e w':=by
 obtain⟨A,c,h1,h2,h3,h4,h5⟩:=h
 exact⟨A,c,h1,h2,h3,owns_down h4 hX.size,hX.trans (h5.mono hX.size)⟩
theorem named (a b:List UInt8):∃P:List UInt8,RowKit.Hid (P=a++b)∧RowKit.Hid (P.length=a.length+b.length):=⟨a++b,Lib.hid rfl,Lib.hid (List.length_append)⟩
theorem RowRel.below {w wr w2:World} {bs:List UInt8} {v:Value} (h:RowRel w bs v wr) (hb:Below wr.heap.size wr w2):RowRel w bs v w2:=
 ⟨h.1.kept (row:=none) ⟨hb.os,hb.tape,hb.output,hb.size,fun k hk _=>hb.block k hk⟩ (by cases v.ownBlock<;>simp),h.2.trans (hb.mono h.2.size)⟩
theorem xStamp (s:Sp) (w:World) (ok:s.ok):Calls Tryz.prog 92 #[s.val] w (RowPost w (encSp s)):=by
 obtain⟨⟨k1,k1'⟩,⟨k2,k2'⟩,k3,k3'⟩:=ok
 have e1:(encI s.w).length≤10:=encI_len k1 k1'
 have e2:(encI s.l).length≤10:=encI_len k2 k2'
 have e3:(encI s.n).length≤10:=encI_len k3 k3'
 obtain⟨i0,hi0,hz0,hz1,hz2⟩:=info_partsW u8_info
 have HX:Below w.heap.size w (w.alloc (.cells #[.int .i64 s.w,.int .i64 s.l,.int .i64 s.n] 26)):=by go_grown
 have HB:w.heap.size<((w.alloc (.cells #[.int .i64 s.w,.int .i64 s.l,.int .i64 s.n] 26))).heap.size:=by simp
 have C0:=cn HX 0
 have C1:=cn HX 1
 have C2:=cn HX 2
 go_enter Tryz.func92,Tryz.ntmps92
 go_wp2_with fail
 refine(xint s.w _ k1 k1').mono ?_
 rintro e w1 ⟨A1,q1,rfl,hq1,hm1,hown1,hb1⟩
 have hrow1:RowRel (w.alloc (.cells #[.int .i64 s.w,.int .i64 s.l,.int .i64 s.n] 26)) (encI s.w) (.slice A1 (encI s.w).length q1) w1:=⟨hown1,hb1⟩
 have c1_0:=up C0 hrow1.2 HB
 have c1_1:=up C1 hrow1.2 HB
 have c1_2:=up C2 hrow1.2 HB
 go_wp2_with fail
 refine(xint s.l _ k2 k2').mono ?_
 rintro e w2 ⟨A2,q2,rfl,hq2,hm2,hown2,hb2⟩
 have hrow2:=hrow1.below hb2
 have z2a:(encI s.w).length+(encI s.l).length≤maxLen:=by unfold maxLen;omega
 have z2b:((encI s.w).length+(encI s.l).length)*1≤140737488355328:=by omega
 go_wp2_with (at_builtin;refine wpList_append_any _ rfl _ _ _ rfl ((w.alloc (.cells #[.int .i64 s.w,.int .i64 s.l,.int .i64 s.n] 26))).heap.size 5 i0 _ 1 1 Tryz.underlying49 hi0 hz0 hz1 hz2 rfl (by omega) (.slice A1 (encI s.w).length q1) _ (bytesV (encI s.w)) (by rfl) hrow2.1 w2.heap.size A2 (encI s.l).length q2 (bytesV (encI s.l)) (by rfl) (Reads.of_own hown2) (bytesV_one _) z2a z2b hrow2.2.size ?_;intro v2' w2' hown2' hg2' hat2';have hr2:=hrow2.push (Below.refl _ _) hown2' hg2';obtain⟨P2,HP2,LP2⟩:=named (encI s.w) (encI s.l);rw[←HP2.out]at hr2;obtain⟨A2',q2',rfl,hq2',hm2'⟩:=own_form hr2.1;have c2_0:=up C0 hr2.2 HB;have c2_1:=up C1 hr2.2 HB;have c2_2:=up C2 hr2.2 HB)
 clear z2a z2b hown2' hg2' hat2' hrow2 hown2 hb2
 go_wp2_with fail
 refine(xint s.n _ k3 k3').mono ?_
 rintro e w3 ⟨A3,q3,rfl,hq3,hm3,hown3,hb3⟩
 have hrow3:=hr2.below hb3
 have z3a:(P2).length+(encI s.n).length≤maxLen:=by unfold maxLen;have:=LP2.out;omega
 have z3b:((P2).length+(encI s.n).length)*1≤140737488355328:=by have:=LP2.out;omega
 go_wp2_with (at_builtin;refine wpList_append_any _ rfl _ _ _ rfl ((w.alloc (.cells #[.int .i64 s.w,.int .i64 s.l,.int .i64 s.n] 26))).heap.size 5 i0 _ 1 1 Tryz.underlying49 hi0 hz0 hz1 hz2 rfl (by omega) (.slice A2' P2.length q2') _ (bytesV (P2)) (by rfl) hrow3.1 w3.heap.size A3 (encI s.n).length q3 (bytesV (encI s.n)) (by rfl) (Reads.of_own hown3) (bytesV_one _) z3a z3b hrow3.2.size ?_;intro v3' w3' hown3' hg3' hat3';have hr3:=hrow3.push (Below.refl _ _) hown3' hg3';obtain⟨P3,HP3,LP3⟩:=named (P2) (encI s.n);rw[←HP3.out]at hr3;obtain⟨A3',q3',rfl,hq3',hm3'⟩:=own_form hr3.1;have c3_0:=up C0 hr3.2 HB;have c3_1:=up C1 hr3.2 HB;have c3_2:=up C2 hr3.2 HB)
 clear z3a z3b hown3' hg3' hat3' hrow3 hown3 hb3
 have HP:=RowPost.down HX hr3.post
 have HQ:encSp s=P3:=by rw[HP3.out,HP2.out];simp only[encSp,List.append_assoc]
 go_ret
 rw[HQ]
 exact HP
theorem xTxn (s:Tx) (w:World) (ok:s.ok):Calls Tryz.prog 95 #[s.val] w (RowPost w (encTx s)):=by
 obtain⟨⟨k1,k1'⟩,⟨k2,k2'⟩,k3,k3'⟩:=ok
 have e1:(encI s.c).length≤10:=encI_len k1 k1'
 have e2:(encI s.l).length≤10:=encI_len k2 k2'
 have e3:(encI s.s).length≤10:=encI_len k3 k3'
 obtain⟨i0,hi0,hz0,hz1,hz2⟩:=info_partsW u8_info
 have HX:Below w.heap.size w (w.alloc (.cells #[.int .i64 s.c,.int .i64 s.l,.int .i64 s.s] 23)):=by go_grown
 have HB:w.heap.size<((w.alloc (.cells #[.int .i64 s.c,.int .i64 s.l,.int .i64 s.s] 23))).heap.size:=by simp
 have C0:=cn HX 0
 have C1:=cn HX 1
 have C2:=cn HX 2
 go_enter Tryz.func95,Tryz.ntmps95
 go_wp2_with fail
 refine(xint s.c _ k1 k1').mono ?_
 rintro e w1 ⟨A1,q1,rfl,hq1,hm1,hown1,hb1⟩
 have hrow1:RowRel (w.alloc (.cells #[.int .i64 s.c,.int .i64 s.l,.int .i64 s.s] 23)) (encI s.c) (.slice A1 (encI s.c).length q1) w1:=⟨hown1,hb1⟩
 have c1_0:=up C0 hrow1.2 HB
 have c1_1:=up C1 hrow1.2 HB
 have c1_2:=up C2 hrow1.2 HB
 go_wp2_with fail
 refine(xint s.l _ k2 k2').mono ?_
 rintro e w2 ⟨A2,q2,rfl,hq2,hm2,hown2,hb2⟩
 have hrow2:=hrow1.below hb2
 have z2a:(encI s.c).length+(encI s.l).length≤maxLen:=by unfold maxLen;omega
 have z2b:((encI s.c).length+(encI s.l).length)*1≤140737488355328:=by omega
 go_wp2_with (at_builtin;refine wpList_append_any _ rfl _ _ _ rfl ((w.alloc (.cells #[.int .i64 s.c,.int .i64 s.l,.int .i64 s.s] 23))).heap.size 5 i0 _ 1 1 Tryz.underlying49 hi0 hz0 hz1 hz2 rfl (by omega) (.slice A1 (encI s.c).length q1) _ (bytesV (encI s.c)) (by rfl) hrow2.1 w2.heap.size A2 (encI s.l).length q2 (bytesV (encI s.l)) (by rfl) (Reads.of_own hown2) (bytesV_one _) z2a z2b hrow2.2.size ?_;intro v2' w2' hown2' hg2' hat2';have hr2:=hrow2.push (Below.refl _ _) hown2' hg2';obtain⟨P2,HP2,LP2⟩:=named (encI s.c) (encI s.l);rw[←HP2.out]at hr2;obtain⟨A2',q2',rfl,hq2',hm2'⟩:=own_form hr2.1;have c2_0:=up C0 hr2.2 HB;have c2_1:=up C1 hr2.2 HB;have c2_2:=up C2 hr2.2 HB)
 clear z2a z2b hown2' hg2' hat2' hrow2 hown2 hb2
 go_wp2_with fail
 refine(xint s.s _ k3 k3').mono ?_
 rintro e w3 ⟨A3,q3,rfl,hq3,hm3,hown3,hb3⟩
 have hrow3:=hr2.below hb3
 have z3a:(P2).length+(encI s.s).length≤maxLen:=by unfold maxLen;have:=LP2.out;omega
 have z3b:((P2).length+(encI s.s).length)*1≤140737488355328:=by have:=LP2.out;omega
 go_wp2_with (at_builtin;refine wpList_append_any _ rfl _ _ _ rfl ((w.alloc (.cells #[.int .i64 s.c,.int .i64 s.l,.int .i64 s.s] 23))).heap.size 5 i0 _ 1 1 Tryz.underlying49 hi0 hz0 hz1 hz2 rfl (by omega) (.slice A2' P2.length q2') _ (bytesV (P2)) (by rfl) hrow3.1 w3.heap.size A3 (encI s.s).length q3 (bytesV (encI s.s)) (by rfl) (Reads.of_own hown3) (bytesV_one _) z3a z3b hrow3.2.size ?_;intro v3' w3' hown3' hg3' hat3';have hr3:=hrow3.push (Below.refl _ _) hown3' hg3';obtain⟨P3,HP3,LP3⟩:=named (P2) (encI s.s);rw[←HP3.out]at hr3;obtain⟨A3',q3',rfl,hq3',hm3'⟩:=own_form hr3.1;have c3_0:=up C0 hr3.2 HB;have c3_1:=up C1 hr3.2 HB;have c3_2:=up C2 hr3.2 HB)
 clear z3a z3b hown3' hg3' hat3' hrow3 hown3 hb3
 have HP:=RowPost.down HX hr3.post
 have HQ:encTx s=P3:=by rw[HP3.out,HP2.out];simp only[encTx,List.append_assoc]
 go_ret
 rw[HQ]
 exact HP
theorem xRange (r:Rg) (w:World) (ok:r.ok):Calls Tryz.prog 153 #[.agg #[.int .i64 r.id,.int .i64 r.ep,.float .f64 r.lo,.float .f64 r.hi]] w (RowPost w (encRg r)):=by
 obtain⟨⟨k1,k1'⟩,⟨k2,k2'⟩,k3,k4⟩:=ok
 have e1:(encI r.id).length≤10:=encI_len k1 k1'
 have e2:(encI r.ep).length≤10:=encI_len k2 k2'
 have e3:(encF64 r.lo).length=8:=leW_len 8 _
 have e4:(encF64 r.hi).length=8:=leW_len 8 _
 obtain⟨i0,hi0,hz0,hz1,hz2⟩:=info_partsW u8_info
 have HX:Below w.heap.size w (w.alloc (.cells #[.int .i64 r.id,.int .i64 r.ep,.float .f64 r.lo,.float .f64 r.hi] 35)):=by go_grown
 have HB:w.heap.size<((w.alloc (.cells #[.int .i64 r.id,.int .i64 r.ep,.float .f64 r.lo,.float .f64 r.hi] 35))).heap.size:=by simp
 have C0:=cn HX 0
 have C1:=cn HX 1
 have C2:=cn HX 2
 have C3:=cn HX 3
 go_enter Tryz.func153,Tryz.ntmps153
 go_wp2_with fail
 refine wp_region_held_drew (S:=fun W'=>Below ((w.alloc (.cells #[.int .i64 r.id,.int .i64 r.ep,.float .f64 r.lo,.float .f64 r.hi] 35))).heap.size ((w.alloc (.cells #[.int .i64 r.id,.int .i64 r.ep,.float .f64 r.lo,.float .f64 r.hi] 35))) W') (by kernel_rfl) (Below.refl _ _).drew (fun hHeld=>?_)
 refine tc 0 4 ?_
 go_frame
 refine ts 1 5 rfl (v:=.int .i64 r.id) (fun W hSw=>by have z:=(hSw.cell (p:=⟨w.heap.size,0,none⟩) HB).trans C0;clear hSw;go_simp) ?_
 go_frame
 refine tc 3 7 ?_
 go_frame
 refine ts 4 8 rfl (v:=.int .i64 r.ep) (fun W hSw=>by have z:=(hSw.cell (p:=⟨w.heap.size,1,none⟩) HB).trans C1;clear hSw;go_simp) ?_
 go_frame
 have s0:Below ((w.alloc (.cells #[.int .i64 r.id,.int .i64 r.ep,.float .f64 r.lo,.float .f64 r.hi] 35))).heap.size ((w.alloc (.cells #[.int .i64 r.id,.int .i64 r.ep,.float .f64 r.lo,.float .f64 r.hi] 35))) ((w.alloc (.cells #[.int .i64 r.id,.int .i64 r.ep,.float .f64 r.lo,.float .f64 r.hi] 35))).drew:=(Below.refl _ _).drew
 refine tr (o:=⟨some 6,_,_,_,_,_⟩) 2 rfl fun K hK=>?_
 go_simp
 (with_reducible refine(xint r.id _ k1 k1').mono ?_)
 rintro e w1 ⟨A1,q1,rfl,hq1,hm1,hown1,hb1⟩
 have s1:Below ((w.alloc (.cells #[.int .i64 r.id,.int .i64 r.ep,.float .f64 r.lo,.float .f64 r.hi] 35))).heap.size ((w.alloc (.cells #[.int .i64 r.id,.int .i64 r.ep,.float .f64 r.lo,.float .f64 r.hi] 35))) w1:=s0.trans (hb1.mono (s0).size)
 refine hK.out _ _ s1 (fun hHeld=>?_)
 clear hK K
 try go_frame
 have hrow1:RowRel ((w.alloc (.cells #[.int .i64 r.id,.int .i64 r.ep,.float .f64 r.lo,.float .f64 r.hi] 35))) (encI r.id) (.slice A1 (encI r.id).length q1) w1:=⟨hown1,s1⟩
 refine tr (o:=⟨some 9,_,_,_,_,_⟩) 5 rfl fun K hK=>?_
 go_simp
 (with_reducible refine(xint r.ep _ k2 k2').mono ?_)
 rintro e w2 ⟨A2,q2,rfl,hq2,hm2,hown2,hb2⟩
 have s2:Below ((w.alloc (.cells #[.int .i64 r.id,.int .i64 r.ep,.float .f64 r.lo,.float .f64 r.hi] 35))).heap.size ((w.alloc (.cells #[.int .i64 r.id,.int .i64 r.ep,.float .f64 r.lo,.float .f64 r.hi] 35))) w2:=s1.trans (hb2.mono (s1).size)
 refine hK.out _ _ s2 (fun hHeld=>?_)
 clear hK K
 try go_frame
 have hrow2:=hrow1.below hb2
 have za:(encI r.id).length+(encI r.ep).length≤maxLen:=by unfold maxLen;omega
 have zb:((encI r.id).length+(encI r.ep).length)*1≤140737488355328:=by omega
 refine tr (o:=⟨some 10,_,_,_,_,_⟩) 6 rfl fun K hK=>?_
 refine step_append_any _ rfl _ _ _ rfl ((w.alloc (.cells #[.int .i64 r.id,.int .i64 r.ep,.float .f64 r.lo,.float .f64 r.hi] 35))).heap.size 5 i0 _ 1 1 Tryz.underlying49 hi0 hz0 hz1 hz2 rfl (by omega) (.slice A1 (encI r.id).length q1) _ (bytesV (encI r.id)) (by rfl) hrow2.1 w2.heap.size A2 (encI r.ep).length q2 (bytesV (encI r.ep)) (by rfl) (Reads.of_own hown2) (bytesV_one _) za zb hrow2.2.size ?_
 intro v2' w2' hown2' hg2' hat2'
 have hr2:=hrow2.push (Below.refl _ _) hown2' hg2'
 obtain⟨P2,HP2,LP2⟩:=named (encI r.id) (encI r.ep)
 rw[←HP2.out]at hr2
 obtain⟨A2',q2',rfl,hq2',hm2'⟩:=own_form hr2.1
 refine hK.out _ _ hr2.2 (fun hHeld=>?_)
 clear hK K
 try go_frame
 refine tc 7 3 ?_
 go_frame
 refine td ?_
 clear za zb hown2' hg2' hat2' hrow1 hrow2 hown1 hown2 hb1 hb2 s0 s1 s2 hHeld
 have c2_0:=up C0 hr2.2 HB
 have c2_1:=up C1 hr2.2 HB
 have c2_2:=up C2 hr2.2 HB
 have c2_3:=up C3 hr2.2 HB
 go_wp2_with fail
 refine(xfloat r.lo _ k3).mono ?_
 rintro e w3 ⟨A3,q3,rfl,hq3,hm3,hown3,hb3⟩
 have hrow3:=hr2.below hb3
 have z3a:(P2).length+(encF64 r.lo).length≤maxLen:=by unfold maxLen;have:=LP2.out;omega
 have z3b:((P2).length+(encF64 r.lo).length)*1≤140737488355328:=by have:=LP2.out;omega
 go_wp2_with (at_builtin;refine wpList_append_any _ rfl _ _ _ rfl ((w.alloc (.cells #[.int .i64 r.id,.int .i64 r.ep,.float .f64 r.lo,.float .f64 r.hi] 35))).heap.size 5 i0 _ 1 1 Tryz.underlying49 hi0 hz0 hz1 hz2 rfl (by omega) (.slice A2' P2.length q2') _ (bytesV (P2)) (by rfl) hrow3.1 w3.heap.size A3 (encF64 r.lo).length q3 (bytesV (encF64 r.lo)) (by rfl) (Reads.of_own hown3) (bytesV_one _) z3a z3b hrow3.2.size ?_;intro v3' w3' hown3' hg3' hat3';have hr3:=hrow3.push (Below.refl _ _) hown3' hg3';obtain⟨P3,HP3,LP3⟩:=named (P2) (encF64 r.lo);rw[←HP3.out]at hr3;obtain⟨A3',q3',rfl,hq3',hm3'⟩:=own_form hr3.1;have c3_0:=up C0 hr3.2 HB;have c3_1:=up C1 hr3.2 HB;have c3_2:=up C2 hr3.2 HB;have c3_3:=up C3 hr3.2 HB)
 clear z3a z3b hown3' hg3' hat3' hrow3 hown3 hb3
 go_wp2_with fail
 refine(xfloat r.hi _ k4).mono ?_
 rintro e w4 ⟨A4,q4,rfl,hq4,hm4,hown4,hb4⟩
 have hrow4:=hr3.below hb4
 have z4a:(P3).length+(encF64 r.hi).length≤maxLen:=by unfold maxLen;have:=LP2.out;have:=LP3.out;omega
 have z4b:((P3).length+(encF64 r.hi).length)*1≤140737488355328:=by have:=LP2.out;have:=LP3.out;omega
 go_wp2_with (at_builtin;refine wpList_append_any _ rfl _ _ _ rfl ((w.alloc (.cells #[.int .i64 r.id,.int .i64 r.ep,.float .f64 r.lo,.float .f64 r.hi] 35))).heap.size 5 i0 _ 1 1 Tryz.underlying49 hi0 hz0 hz1 hz2 rfl (by omega) (.slice A3' P3.length q3') _ (bytesV (P3)) (by rfl) hrow4.1 w4.heap.size A4 (encF64 r.hi).length q4 (bytesV (encF64 r.hi)) (by rfl) (Reads.of_own hown4) (bytesV_one _) z4a z4b hrow4.2.size ?_;intro v4' w4' hown4' hg4' hat4';have hr4:=hrow4.push (Below.refl _ _) hown4' hg4';obtain⟨P4,HP4,LP4⟩:=named (P3) (encF64 r.hi);rw[←HP4.out]at hr4;obtain⟨A4',q4',rfl,hq4',hm4'⟩:=own_form hr4.1;have c4_0:=up C0 hr4.2 HB;have c4_1:=up C1 hr4.2 HB;have c4_2:=up C2 hr4.2 HB;have c4_3:=up C3 hr4.2 HB)
 clear z4a z4b hown4' hg4' hat4' hrow4 hown4 hb4
 have HP:=RowPost.down HX hr4.post
 have HQ:encRg r=P4:=by rw[HP4.out,HP3.out,HP2.out];simp only[encRg,List.append_assoc]
 go_ret
 rw[HQ]
 exact HP
end Go.Proofs.YtcalkfgibflbnaaGreat
/- The document's bytes as they grow: the machine. -/
namespace Go.Proofs.YtcalkfgibflbnaaGreat
set_option linter.unusedVariables false
open Go.RowKit Fl
attribute [local go_sem] run_store_float
theorem Blk.push {w w':World} {g:Nat} {t:TypeId} {cs:Array Value} {base n:Nat} {v:Value} {xs:List Value} (hb:Blk w g t cs) (ht:t≠5) (hown:w.ownsRow base 5 1 v n xs) (hg:w.grownBy w' v.ownBlock):Blk w' g t cs:=
 hb.grown hg fun e=>by
  obtain⟨c,fz,hc⟩:=Go.Lib.ownsRow_kind hown g e.symm
  unfold Blk at hb
  rw[hc]at hb
  injection hb with h1
  injection h1 with h2 h3
  exact ht h3.symm
structure BW (X:World) (T suf P:List UInt8) (A:Option Addr) (n c:Nat) (w:World):Prop where
 r:RowRel X P (.slice A n c) w
 l:P.length=n
 e:P++suf=T
 s:T.length≤1000000000000
structure BC (X:World) (T suf P:List UInt8) (A:Option Addr) (n c:Nat) (more:List UInt8) (A2:Option Addr) (n2 c2:Nat) (w:World):Prop where
 b:BW X T (more++suf) P A n c w
 o:∃B,w.ownsRow B 5 1 (.slice A2 n2 c2) n2 (bytesV more)
 l:more.length=n2
section
variable {X w w':World} {T suf suf' P more:List UInt8} {A A2:Option Addr} {n c n2 c2 F:Nat} {vs:Array Value}
theorem BW.as (b:BW X T suf P A n c w) (e:suf=suf'):BW X T suf' P A n c w:=e▸b
theorem BW.below (b:BW X T suf P A n c w) (hb:Below w.heap.size w w'):BW X T suf P A n c w':=⟨b.r.below hb,b.l,b.e,b.s⟩
theorem BW.blk (b:BW X T suf P A n c w) {g:Nat} {t:TypeId} {cs:Array Value} (B:Blk X g t cs):Blk w g t cs:=B.below b.r.2 B.lt
theorem BW.post (b:BW X T [] P A n c w):RowPost X T (.returned (.slice A n c)) w:=by
 have h:=b.r.post
 rw[b.l.symm,←b.e,List.append_nil]
 have e:=b.l
 subst e
 exact h
theorem BW.fst (hX:Below X.heap.size X w) (e:more++suf=T) (s:T.length≤1000000000000) (H:more.length≤1000000000000→Calls Tryz.prog F vs w (RowPost w more)):
 Calls Tryz.prog F vs w (fun e w'=>∃A n c P,e=.returned (.slice A n c)∧BW X T suf P A n c w'):=by
 refine(H (by rw[←e,List.length_append]at s;omega)).mono ?_
 rintro _ w1 ⟨A1,q1,rfl,-,-,ho,hb⟩
 exact⟨A1,_,q1,more,rfl,⟨⟨owns_down ho hX.size,hX.trans (hb.mono hX.size)⟩,rfl,e,s⟩⟩
theorem BW.call (b:BW X T (more++suf) P A n c w) (H:more.length≤1000000000000→Calls Tryz.prog F vs w (RowPost w more)):
 Calls Tryz.prog F vs w (fun e w'=>∃A2 n2 c2,e=.returned (.slice A2 n2 c2)∧BC X T suf P A n c more A2 n2 c2 w'):=by
 refine(H (by have s:=b.s;rw[←b.e,List.length_append,List.length_append]at s;omega)).mono ?_
 rintro _ w1 ⟨A1,q1,rfl,-,-,ho,hb⟩
 exact⟨A1,_,q1,rfl,⟨b.below hb,⟨_,ho⟩,rfl⟩⟩
theorem BC.wp2 (k:BC X T suf P A n c more A2 n2 c2 w) {a:Act} {o:Operand} {x y:Operand} {K:Act→World→Prop} {Q:Exit→Act→World→Prop} {op:Oper} (ho:op.op=.call {callee:=.builtin .append,args:=#[x,y],argTypes:=#[49,49]})
 (hx:a.eval x=.slice A n c) (hy:a.eval y=.slice A2 n2 c2) (h:∀A n c P w',BW X T suf P A n c w'→(∀g t cs,t≠5→Blk w g t cs→Blk w' g t cs)→K (a.put op.dst (.slice A n c)) w'):Oper.wp Tryz.prog op a w K Q:=by
 obtain⟨i0,hi0,hz0,hz1,hz2⟩:=info_partsW u8_info
 obtain⟨B,hB⟩:=k.o
 have s:=k.b.s
 rw[←k.b.e,List.length_append,List.length_append]at s
 have l1:=k.b.l
 have l2:=k.l
 refine wp_append_any w x y 49 ho X.heap.size 5 i0 _ 1 1 Tryz.underlying49 hi0 hz0 hz1 hz2 rfl (by omega) (.slice A n c) n (bytesV P) hx (by have:=k.b.r.1;rw[l1]at this;exact this) w.heap.size A2 n2 c2 (bytesV more) hy (Reads.of_own hB) (bytesV_one _) (by unfold maxLen;omega) (by omega) k.b.r.2.size ?_
 intro v' w' hown hg hat
 have hr:=k.b.r.push (more:=more) (Below.refl _ _) (by rw[l1,l2];exact hown) hg
 obtain⟨A',q',rfl,hq',hm'⟩:=own_form hr.1
 exact h _ _ _ _ _ ⟨hr,rfl,by rw[List.append_assoc];exact k.b.e,k.b.s⟩ fun g t cs d B=>B.push d k.b.r.1 hg
theorem BC.wp (k:BC X T suf P A n c more A2 n2 c2 w) {a:Act} {o:Operand} {x y:Operand} {K:Act→World→Prop} {Q:Exit→Act→World→Prop} {op:Oper} (ho:op.op=.call {callee:=.builtin .append,args:=#[x,y],argTypes:=#[49,49]})
 (hx:a.eval x=.slice A n c) (hy:a.eval y=.slice A2 n2 c2) (h:∀A n c P w,BW X T suf P A n c w→K (a.put op.dst (.slice A n c)) w):Oper.wp Tryz.prog op a w K Q:=
 k.wp2 (o:=o) ho hx hy fun A n c P w b _=>h A n c P w b
theorem BC.app (k:BC X T suf P A n c more A2 n2 c2 w) {ops:Array Oper} {rest:List Oper} {o:Oper} {a:Act} {Q:Exit→Act→World→Prop} (hgd:o.guard=none) (x y:Operand) (ho:o.op=.call {callee:=.builtin .append,args:=#[x,y],argTypes:=#[49,49]})
 (hx:a.eval x=.slice A n c) (hy:a.eval y=.slice A2 n2 c2) (h:∀A n c P w,BW X T suf P A n c w→wpList Tryz.prog ops Q rest (a.put o.dst (.slice A n c)) w):wpList Tryz.prog ops Q (o::rest) a w:=
 wpList_plain hgd fun _ hK=>k.wp (o:=x) ho hx hy fun A n c P w b=>hK _ _ (h A n c P w b)
structure BB (X:World) (T suf P:List UInt8) (A:Option Addr) (n c:Nat) (w:World) (g:Nat) (t:TypeId) (cs:Array Value):Prop where
 b:BW X T suf P A n c w
 d:t≠5
 k:Blk w g t cs
structure BD (X:World) (T suf P:List UInt8) (A:Option Addr) (n c:Nat) (more:List UInt8) (A2:Option Addr) (n2 c2:Nat) (w:World) (g:Nat) (t:TypeId) (cs:Array Value):Prop where
 c:BC X T suf P A n c more A2 n2 c2 w
 d:t≠5
 k:Blk w g t cs
variable {g:Nat} {t:TypeId} {cs:Array Value}
theorem BB.call (b:BB X T (more++suf) P A n c w g t cs) (H:more.length≤1000000000000→Calls Tryz.prog F vs w (RowPost w more)):
 Calls Tryz.prog F vs w (fun e w'=>∃A2 n2 c2,e=.returned (.slice A2 n2 c2)∧BD X T suf P A n c more A2 n2 c2 w' g t cs):=by
 refine(H (by have s:=b.b.s;rw[←b.b.e,List.length_append,List.length_append]at s;omega)).mono ?_
 rintro _ w1 ⟨A1,q1,rfl,-,-,ho,hb⟩
 exact⟨A1,_,q1,rfl,⟨b.b.below hb,⟨_,ho⟩,rfl⟩,b.d,b.k.below hb b.k.lt⟩
theorem BD.app (k:BD X T suf P A n c more A2 n2 c2 w g t cs) {ops:Array Oper} {rest:List Oper} {o:Oper} {a:Act} {Q:Exit→Act→World→Prop} (hgd:o.guard=none) (x y:Operand) (ho:o.op=.call {callee:=.builtin .append,args:=#[x,y],argTypes:=#[49,49]})
 (hx:a.eval x=.slice A n c) (hy:a.eval y=.slice A2 n2 c2) (h:∀A n c P w,BB X T suf P A n c w g t cs→wpList Tryz.prog ops Q rest (a.put o.dst (.slice A n c)) w):wpList Tryz.prog ops Q (o::rest) a w:=
 wpList_plain hgd fun _ hK=>k.c.wp2 (o:=x) ho hx hy fun A n c P w b q=>hK _ _ (h A n c P w ⟨b,k.d,q _ _ _ k.d k.k⟩)
end
theorem flat_drop {α:Type} {f:α→List UInt8} {l:List α} {k:Nat} {a:α} (h:l[k]?=some a):(l.drop k).flatMap f=f a++(l.drop (k+1)).flatMap f:=by
 obtain⟨hk,e⟩:=List.getElem?_eq_some_iff.1 h
 rw[List.drop_eq_getElem_cons hk,e,List.flatMap_cons]
theorem Blk.rng {w:World} {g:Nat} {t:TypeId} {cs:Array Value} (h:Blk w g t cs) (o:Nat) (xs:List Value) (e:(cs.toList.drop o).take xs.length=xs:=by rfl):w.rangeAt g o xs:=h.range o xs fun j u hj=>by
 have hlt:=(List.getElem?_eq_some_iff.1 hj).1
 have h3:((cs.toList.drop o).take xs.length)[j]?=some u:=by rw[e];exact hj
 rw[List.getElem?_take_of_lt hlt,List.getElem?_drop,Array.getElem?_toList]at h3
 exact h3
theorem BW.hb {X w:World} {T suf P:List UInt8} {A:Option Addr} {n c:Nat} (b:BW X T suf P A n c w):Below X.heap.size X w:=b.r.2
theorem BW.fin {X w:World} {T P:List UInt8} {A:Option Addr} {n c:Nat} (b:BW X T [] P A n c w):n=T.length∧P=T:=by
 have e:=b.e
 rw[List.append_nil]at e
 exact⟨by rw[←b.l,e],e⟩
theorem BC.apH {X w:World} {T suf P more:List UInt8} {A A2:Option Addr} {n c n2 c2:Nat} (k:BC X T suf P A n c more A2 n2 c2 w) {ops:Array Oper} {o:Oper} {a:Act} {K:Act→World→Prop} {Q:Exit→Act→World→Prop} {E:Prop} (hgd:o.guard=none) (x y:Operand) (ho:o.op=.call {callee:=.builtin .append,args:=#[x,y],argTypes:=#[49,49]})
 (hx:a.eval x=.slice A n c) (hy:a.eval y=.slice A2 n2 c2) (h:∀A n c P w,BW X T suf P A n c w→K (a.put o.dst (.slice A n c)) w):if Region.wanted o (yielded ops a.tmps)=true then Oper.wp Tryz.prog o a w K Q else E:=by
 have hw:Region.wanted o (yielded ops a.tmps)=true:=by simp[Region.wanted,hgd]
 rw[if_pos hw]
 exact k.wp (o:=x) ho hx hy h
theorem xi (n:Int) (w:World) (h:i64ok n):Calls Tryz.prog 44 #[.int .i64 n] w (RowPost w (encI n)):=xint n w (And.left h) (And.right h)
end Go.Proofs.YtcalkfgibflbnaaGreat
/- The walks of the document's bytes: values, lists. -/
namespace Go.Proofs.YtcalkfgibflbnaaGreat
set_option maxHeartbeats 4000000
set_option maxRecDepth 100000
set_option linter.unusedVariables false
open Go.RowKit Fl
attribute [local go_sem] run_store_float
theorem xPut (v:Vl) (w:World) (hok:v.ok) (hlen:(encVl v).length≤1000000000000):Calls Tryz.prog 154 #[v.val] w (RowPost w (encVl v)):=by
 have hM:=fun w'=>rvmay_any v w'
 cases hm:v.may
 · have he:encVl v=encI 0:=by unfold encVl;rw[hm];rfl
   rw[he]
   rw[hm]at hM
   clear he hm hlen
   have HX:Below w.heap.size w (w.alloc (.cells v.cells.toArray 59)):=by go_grown
   go_enter Tryz.func154,Tryz.ntmps154
   go_wp2_with ((with_reducible refine(hM _).mono ?_);rintro e w1 ⟨rfl,hb1⟩)
   have hB:=HX.trans (hb1.mono HX.size)
   go_ret
   exact⟨some ⟨w1.heap.size,0,none⟩,1,rfl,Nat.le_refl _,by unfold maxLen;omega,owns_down (World.ownsRow_lit w1 #[.int .u8 0] 1 (Nat.le_refl _) (by unfold maxLen;omega) rfl) hB.size,hB.alloc hB.size _⟩
 · rcases may_kind hm with hk|hk|hk
   · have he:encVl v=encI 0:=by unfold encVl;rw[hm,hk];rfl
     rw[he]at hlen ⊢
     rw[hm]at hM
     have hx:=hok.2.1
     have hy:=hok.2.2
     obtain⟨vk,vn,vt⟩:=v
     change vk=0 at hk
     subst hk
     clear he hm hok
     obtain⟨i0,hi0,hz0,hz1,hz2⟩:=info_partsW u8_info
     have HX:Below w.heap.size w (w.alloc (.cells #[.int .i64 0,.float .f64 vn,.string vt] 59)):=by go_grown
     have HB:w.heap.size<((w.alloc (.cells #[.int .i64 0,.float .f64 vn,.string vt] 59))).heap.size:=by simp
     have C0:=cn HX 0
     have C1:=cn HX 1
     have C2:=cn HX 2
     go_enter Tryz.func154,Tryz.ntmps154
     have eK:(encI (0:Int)).length=1:=rfl
     go_wp2_with fail
     refine(hM _).mono ?_
     rintro e w0 ⟨rfl,hb0⟩
     have d0:=up C0 hb0 HB
     have d1:=up C1 hb0 HB
     have d2:=up C2 hb0 HB
     go_wp2_with fail
     refine(xint 0 _ (by omega) (by omega)).mono ?_
     rintro e w1 ⟨A1,q1,rfl,hq1,hm1,hown1,hb1⟩
     have hrow1:RowRel (w.alloc (.cells #[.int .i64 0,.float .f64 vn,.string vt] 59)) (encI 0) (.slice A1 (encI 0).length q1) w1:=⟨owns_down hown1 hb0.size,hb0.trans (hb1.mono hb0.size)⟩
     have c1_0:=up C0 hrow1.2 HB
     have c1_1:=up C1 hrow1.2 HB
     have c1_2:=up C2 hrow1.2 HB
     go_wp2
     have HP:=RowPost.down HX hrow1.post
     go_ret
     exact HP
   · have he:encVl v=encI 1++encF64 v.n:=by unfold encVl;rw[hm,hk];rfl
     rw[he]at hlen ⊢
     rw[hm]at hM
     have hx:=hok.2.1
     have hy:=hok.2.2
     obtain⟨vk,vn,vt⟩:=v
     change vk=1 at hk
     subst hk
     clear he hm hok
     obtain⟨i0,hi0,hz0,hz1,hz2⟩:=info_partsW u8_info
     have HX:Below w.heap.size w (w.alloc (.cells #[.int .i64 1,.float .f64 vn,.string vt] 59)):=by go_grown
     have HB:w.heap.size<((w.alloc (.cells #[.int .i64 1,.float .f64 vn,.string vt] 59))).heap.size:=by simp
     have C0:=cn HX 0
     have C1:=cn HX 1
     have C2:=cn HX 2
     go_enter Tryz.func154,Tryz.ntmps154
     have eK:(encI (1:Int)).length=1:=rfl
     simp only[List.length_append]at hlen
     go_wp2_with fail
     refine(hM _).mono ?_
     rintro e w0 ⟨rfl,hb0⟩
     have d0:=up C0 hb0 HB
     have d1:=up C1 hb0 HB
     have d2:=up C2 hb0 HB
     go_wp2_with fail
     refine(xint 1 _ (by omega) (by omega)).mono ?_
     rintro e w1 ⟨A1,q1,rfl,hq1,hm1,hown1,hb1⟩
     have hrow1:RowRel (w.alloc (.cells #[.int .i64 1,.float .f64 vn,.string vt] 59)) (encI 1) (.slice A1 (encI 1).length q1) w1:=⟨owns_down hown1 hb0.size,hb0.trans (hb1.mono hb0.size)⟩
     have c1_0:=up C0 hrow1.2 HB
     have c1_1:=up C1 hrow1.2 HB
     have c1_2:=up C2 hrow1.2 HB
     have e8:(encF64 vn).length=8:=leW_len 8 _
     go_wp2_with fail
     refine(xfloat vn _ hx).mono ?_
     rintro e w2 ⟨A2,q2,rfl,hq2,hm2,hown2,hb2⟩
     have hrow2:=hrow1.below hb2
     have z2a:(encI 1).length+(encF64 vn).length≤maxLen:=by unfold maxLen;omega
     have z2b:((encI 1).length+(encF64 vn).length)*1≤140737488355328:=by omega
     go_wp2_with (at_builtin;refine wpList_append_any _ rfl _ _ _ rfl ((w.alloc (.cells #[.int .i64 1,.float .f64 vn,.string vt] 59))).heap.size 5 i0 _ 1 1 Tryz.underlying49 hi0 hz0 hz1 hz2 rfl (by omega) (.slice A1 (encI 1).length q1) _ (bytesV (encI 1)) (by rfl) hrow2.1 w2.heap.size A2 (encF64 vn).length q2 (bytesV (encF64 vn)) (by rfl) (Reads.of_own hown2) (bytesV_one _) z2a z2b hrow2.2.size ?_;intro v2' w2' hown2' hg2' hat2';have hr2:=hrow2.push (Below.refl _ _) hown2' hg2';obtain⟨P2,HP2,LP2⟩:=named (encI 1) (encF64 vn);rw[←HP2.out]at hr2;obtain⟨A2',q2',rfl,hq2',hm2'⟩:=own_form hr2.1;have c2_0:=up C0 hr2.2 HB;have c2_1:=up C1 hr2.2 HB;have c2_2:=up C2 hr2.2 HB)
     clear z2a z2b hown2' hg2' hat2' hrow2 hown2 hb2
     go_wp2
     have HP:=RowPost.down HX hr2.post
     have HQ:encI 1++encF64 vn=P2:=by rw[HP2.out]
     go_ret
     rw[HQ]
     exact HP
   · have he:encVl v=encI 2++encKy v.t:=by unfold encVl;rw[hm,hk];rfl
     rw[he]at hlen ⊢
     rw[hm]at hM
     have hx:=hok.2.1
     have hy:=hok.2.2
     obtain⟨vk,vn,vt⟩:=v
     change vk=2 at hk
     subst hk
     clear he hm hok
     obtain⟨i0,hi0,hz0,hz1,hz2⟩:=info_partsW u8_info
     have HX:Below w.heap.size w (w.alloc (.cells #[.int .i64 2,.float .f64 vn,.string vt] 59)):=by go_grown
     have HB:w.heap.size<((w.alloc (.cells #[.int .i64 2,.float .f64 vn,.string vt] 59))).heap.size:=by simp
     have C0:=cn HX 0
     have C1:=cn HX 1
     have C2:=cn HX 2
     go_enter Tryz.func154,Tryz.ntmps154
     have eK:(encI (2:Int)).length=1:=rfl
     simp only[List.length_append]at hlen
     go_wp2_with fail
     refine(hM _).mono ?_
     rintro e w0 ⟨rfl,hb0⟩
     have d0:=up C0 hb0 HB
     have d1:=up C1 hb0 HB
     have d2:=up C2 hb0 HB
     go_wp2_with fail
     refine(xint 2 _ (by omega) (by omega)).mono ?_
     rintro e w1 ⟨A1,q1,rfl,hq1,hm1,hown1,hb1⟩
     have hrow1:RowRel (w.alloc (.cells #[.int .i64 2,.float .f64 vn,.string vt] 59)) (encI 2) (.slice A1 (encI 2).length q1) w1:=⟨owns_down hown1 hb0.size,hb0.trans (hb1.mono hb0.size)⟩
     have c1_0:=up C0 hrow1.2 HB
     have c1_1:=up C1 hrow1.2 HB
     have c1_2:=up C2 hrow1.2 HB
     have e8:vt.size≤(encKy vt).length:=by {have e:vt.size=vt.data.toList.length:=(Array.length_toList (xs:=vt.data)).symm;unfold encKy encT;rw[List.length_append];omega}
     go_wp2_with fail
     refine(xtext vt _ (by omega)).mono ?_
     rintro e w2 ⟨A2,q2,rfl,hq2,hm2,hown2,hb2⟩
     have hrow2:=hrow1.below hb2
     have z2a:(encI 2).length+(encKy vt).length≤maxLen:=by unfold maxLen;omega
     have z2b:((encI 2).length+(encKy vt).length)*1≤140737488355328:=by omega
     go_wp2_with (at_builtin;refine wpList_append_any _ rfl _ _ _ rfl ((w.alloc (.cells #[.int .i64 2,.float .f64 vn,.string vt] 59))).heap.size 5 i0 _ 1 1 Tryz.underlying49 hi0 hz0 hz1 hz2 rfl (by omega) (.slice A1 (encI 2).length q1) _ (bytesV (encI 2)) (by rfl) hrow2.1 w2.heap.size A2 (encKy vt).length q2 (bytesV (encKy vt)) (by rfl) (Reads.of_own hown2) (bytesV_one _) z2a z2b hrow2.2.size ?_;intro v2' w2' hown2' hg2' hat2';have hr2:=hrow2.push (Below.refl _ _) hown2' hg2';obtain⟨P2,HP2,LP2⟩:=named (encI 2) (encKy vt);rw[←HP2.out]at hr2;obtain⟨A2',q2',rfl,hq2',hm2'⟩:=own_form hr2.1;have c2_0:=up C0 hr2.2 HB;have c2_1:=up C1 hr2.2 HB;have c2_2:=up C2 hr2.2 HB)
     clear z2a z2b hown2' hg2' hat2' hrow2 hown2 hb2
     go_wp2
     have HP:=RowPost.down HX hr2.post
     have HQ:encI 2++encKy vt=P2:=by rw[HP2.out]
     go_ret
     rw[HQ]
     exact HP
theorem xTexts (A:Option Addr) (n c:Nat) (l:List ByteArray) (w:World) (h:Sl KyRel 1 w w.heap.size A n l) (hn:n≤maxLen) (hlen:(encLs encKy l).length≤1000000000000):
 Calls Tryz.prog 147 #[.slice A n c] w (RowPost w (encLs encKy l)):=by
 unfold maxLen at hn
 have hln:l.length=n:=h.1
 have hle:l.length≤n:=by omega
 have hge:n≤l.length:=by omega
 have e0:encI (n:Int)++l.flatMap encKy=encLs encKy l:=by unfold encLs;rw[hln]
 generalize encLs encKy l=T at*
 clear hln
 go_enter Tryz.func147,Tryz.ntmps147
 go_wp2_with fail
 refine(BW.fst (Below.refl w.heap.size w) e0 hlen fun _=>xint (n:Int) _ (by omega) (by omega)).mono ?_
 rintro e w1 ⟨A0,m0,c0,P0,rfl,b0⟩
 clear e0 hlen
 go_wp2_with fail
 go_loopw [3,4] (fun out i wr=>∃(k:Nat) (A0:Option Addr) (m0 c0:Nat) (P0:List UInt8),k≤n∧i=.int .i64 (k:Int)∧out=.slice A0 m0 c0∧BW w T ((l.drop k).flatMap encKy) P0 A0 m0 c0 wr) (fun _ i _=>n-(intOf i).toNat)
 case atStart=>exact⟨0,A0,m0,c0,P0,by omega,rfl,rfl,b0⟩
 case round=>
  clear b0
  obtain⟨k,A0,m0,c0,P0,hk,rfl,rfl,b⟩:=hrel
  by_cases hlt:k<n
  · obtain⟨ad,a,rfl,hl,hbk,hok,C0⟩:=h.ky hlt
    have hd1:decide ((k:Int)<(n:Int))=true:=by simp;omega
    have hk0:(0:Int)≤(k:Int):=by omega
    have hk1:(k:Int)<(n:Int):=by omega
    replace b:=b.as (suf':=encKy a++(l.drop (k+1)).flatMap encKy) (by rw[flat_drop hl])
    clear hl
    have x0:=(b.r.2.cell (p:=(ad.add k)) hbk).trans C0
    go_wp2_with fail
    refine(b.call fun hl=>xtext a _ (by have e:a.size=a.data.toList.length:=(Array.length_toList (xs:=a.data)).symm;unfold encKy encT at hl;rw[List.length_append]at hl;omega)).mono ?_
    rintro e w2 ⟨A5,n5,c5,rfl,b2⟩
    go_wp2_with (at_builtin;refine b2.app rfl _ _ rfl rfl rfl ?_;intro A0 m0 c0 P0 w3 b)
    clear b2
    go_roundw
    case rel=>exact⟨k+1,_,_,_,_,by omega,by go_num,rfl,b⟩
    case measure=>simp[intOf];omega
  · have hd1:decide ((k:Int)<(n:Int))=false:=by simp;omega
    go_wp2_with fail
    go_ret
    rw[List.drop_of_length_le (by omega)]at b
    exact b.post
theorem xInts (A:Option Addr) (n c:Nat) (l:List Int) (w:World) (h:Sl NmRel 1 w w.heap.size A n l) (hn:n≤maxLen) (hlen:(encLs encI l).length≤1000000000000):
 Calls Tryz.prog 150 #[.slice A n c] w (RowPost w (encLs encI l)):=by
 unfold maxLen at hn
 have hln:l.length=n:=h.1
 have hle:l.length≤n:=by omega
 have hge:n≤l.length:=by omega
 have e0:encI (n:Int)++l.flatMap encI=encLs encI l:=by unfold encLs;rw[hln]
 generalize encLs encI l=T at*
 clear hln
 go_enter Tryz.func150,Tryz.ntmps150
 go_wp2_with fail
 refine(BW.fst (Below.refl w.heap.size w) e0 hlen fun _=>xint (n:Int) _ (by omega) (by omega)).mono ?_
 rintro e w1 ⟨A0,m0,c0,P0,rfl,b0⟩
 clear e0 hlen
 go_wp2_with fail
 go_loopw [3,4] (fun out i wr=>∃(k:Nat) (A0:Option Addr) (m0 c0:Nat) (P0:List UInt8),k≤n∧i=.int .i64 (k:Int)∧out=.slice A0 m0 c0∧BW w T ((l.drop k).flatMap encI) P0 A0 m0 c0 wr) (fun _ i _=>n-(intOf i).toNat)
 case atStart=>exact⟨0,A0,m0,c0,P0,by omega,rfl,rfl,b0⟩
 case round=>
  clear b0
  obtain⟨k,A0,m0,c0,P0,hk,rfl,rfl,b⟩:=hrel
  by_cases hlt:k<n
  · obtain⟨ad,a,rfl,hl,hbk,hok,C0⟩:=h.nm hlt
    have hd1:decide ((k:Int)<(n:Int))=true:=by simp;omega
    have hk0:(0:Int)≤(k:Int):=by omega
    have hk1:(k:Int)<(n:Int):=by omega
    replace b:=b.as (suf':=encI a++(l.drop (k+1)).flatMap encI) (by rw[flat_drop hl])
    clear hl
    have x0:=(b.r.2.cell (p:=(ad.add k)) hbk).trans C0
    go_wp2_with fail
    refine(b.call fun hl=>xi a _ hok).mono ?_
    rintro e w2 ⟨A5,n5,c5,rfl,b2⟩
    go_wp2_with (at_builtin;refine b2.app rfl _ _ rfl rfl rfl ?_;intro A0 m0 c0 P0 w3 b)
    clear b2
    go_roundw
    case rel=>exact⟨k+1,_,_,_,_,by omega,by go_num,rfl,b⟩
    case measure=>simp[intOf];omega
  · have hd1:decide ((k:Int)<(n:Int))=false:=by simp;omega
    go_wp2_with fail
    go_ret
    rw[List.drop_of_length_le (by omega)]at b
    exact b.post
theorem xWrites (A:Option Addr) (n c:Nat) (l:List Wt) (w:World) (h:Sl WtRel 4 w w.heap.size A n l) (hn:n≤maxLen) (hlen:(encLs encWt l).length≤1000000000000):
 Calls Tryz.prog 96 #[.slice A n c] w (RowPost w (encLs encWt l)):=by
 unfold maxLen at hn
 have hln:l.length=n:=h.1
 have hle:l.length≤n:=by omega
 have hge:n≤l.length:=by omega
 have e0:encI (n:Int)++l.flatMap encWt=encLs encWt l:=by unfold encLs;rw[hln]
 generalize encLs encWt l=T at*
 clear hln
 go_enter Tryz.func96,Tryz.ntmps96
 go_wp2_with fail
 refine(BW.fst (Below.refl w.heap.size w) e0 hlen fun _=>xint (n:Int) _ (by omega) (by omega)).mono ?_
 rintro e w1 ⟨A0,m0,c0,P0,rfl,b0⟩
 clear e0 hlen
 go_wp2_with fail
 go_loopw [3,4] (fun out i wr=>∃(k:Nat) (A0:Option Addr) (m0 c0:Nat) (P0:List UInt8),k≤n∧i=.int .i64 (k:Int)∧out=.slice A0 m0 c0∧BW w T ((l.drop k).flatMap encWt) P0 A0 m0 c0 wr) (fun _ i _=>n-(intOf i).toNat)
 case atStart=>exact⟨0,A0,m0,c0,P0,by omega,rfl,rfl,b0⟩
 case round=>
  clear b0
  obtain⟨k,A0,m0,c0,P0,hk,rfl,rfl,b⟩:=hrel
  by_cases hlt:k<n
  · obtain⟨ad,a,rfl,hl,hbk,hok,C0,C1,C2,C3⟩:=h.wt hlt
    have hd1:decide ((k:Int)<(n:Int))=true:=by simp;omega
    have hk0:(0:Int)≤(k:Int):=by omega
    have hk1:(k:Int)<(n:Int):=by omega
    replace b:=b.as (suf':=encKy a.key++(encVl a.v++(l.drop (k+1)).flatMap encWt)) (by rw[flat_drop hl];simp only[encWt,List.append_assoc])
    clear hl
    have x0:=(b.r.2.cell (p:=(ad.add (k*4))) hbk).trans C0
    go_wp2_with fail
    refine(b.call fun hl=>xtext a.key _ (by have e:a.key.size=a.key.data.toList.length:=(Array.length_toList (xs:=a.key.data)).symm;unfold encKy encT at hl;rw[List.length_append]at hl;omega)).mono ?_
    rintro e w2 ⟨A5,n5,c5,rfl,b2⟩
    go_wp2_with (at_builtin;refine b2.app rfl _ _ rfl rfl rfl ?_;intro A0 m0 c0 P0 w3 b;have x1:=(b.r.2.cell (p:=⟨(ad.add (k*4)).block,(ad.add (k*4)).off+1,none⟩) hbk).trans C1;have x2:=(b.r.2.cell (p:=⟨(ad.add (k*4)).block,(ad.add (k*4)).off+2,none⟩) hbk).trans C2;have x3:=(b.r.2.cell (p:=⟨(ad.add (k*4)).block,(ad.add (k*4)).off+3,none⟩) hbk).trans C3)
    clear b2 x0
    go_wp2_with fail
    refine(b.call fun hl=>xPut a.v _ hok.2 hl).mono ?_
    rintro e w4 ⟨A5,n5,c5,rfl,b2⟩
    go_wp2_with (at_builtin;refine b2.app rfl _ _ rfl rfl rfl ?_;intro A0 m0 c0 P0 w5 b)
    clear b2
    go_roundw
    case rel=>exact⟨k+1,_,_,_,_,by omega,by go_num,rfl,b⟩
    case measure=>simp[intOf];omega
  · have hd1:decide ((k:Int)<(n:Int))=false:=by simp;omega
    go_wp2_with fail
    go_ret
    rw[List.drop_of_length_le (by omega)]at b
    exact b.post
theorem xPairs (A:Option Addr) (n c:Nat) (l:List Wt) (w:World) (h:Sl WtRel 4 w w.heap.size A n l) (hn:n≤maxLen) (hlen:(encLs encWt l).length≤1000000000000):
 Calls Tryz.prog 175 #[.slice A n c] w (RowPost w (encLs encWt l)):=by
 unfold maxLen at hn
 have hln:l.length=n:=h.1
 have hle:l.length≤n:=by omega
 have hge:n≤l.length:=by omega
 have e0:encI (n:Int)++l.flatMap encWt=encLs encWt l:=by unfold encLs;rw[hln]
 generalize encLs encWt l=T at*
 clear hln
 go_enter Tryz.func175,Tryz.ntmps175
 go_wp2_with fail
 refine(BW.fst (Below.refl w.heap.size w) e0 hlen fun _=>xint (n:Int) _ (by omega) (by omega)).mono ?_
 rintro e w1 ⟨A0,m0,c0,P0,rfl,b0⟩
 clear e0 hlen
 go_wp2_with fail
 go_loopw [3,4] (fun out i wr=>∃(k:Nat) (A0:Option Addr) (m0 c0:Nat) (P0:List UInt8),k≤n∧i=.int .i64 (k:Int)∧out=.slice A0 m0 c0∧BW w T ((l.drop k).flatMap encWt) P0 A0 m0 c0 wr) (fun _ i _=>n-(intOf i).toNat)
 case atStart=>exact⟨0,A0,m0,c0,P0,by omega,rfl,rfl,b0⟩
 case round=>
  clear b0
  obtain⟨k,A0,m0,c0,P0,hk,rfl,rfl,b⟩:=hrel
  by_cases hlt:k<n
  · obtain⟨ad,a,rfl,hl,hbk,hok,C0,C1,C2,C3⟩:=h.wt hlt
    have hd1:decide ((k:Int)<(n:Int))=true:=by simp;omega
    have hk0:(0:Int)≤(k:Int):=by omega
    have hk1:(k:Int)<(n:Int):=by omega
    replace b:=b.as (suf':=encKy a.key++(encVl a.v++(l.drop (k+1)).flatMap encWt)) (by rw[flat_drop hl];simp only[encWt,List.append_assoc])
    clear hl
    have x0:=(b.r.2.cell (p:=(ad.add (k*4))) hbk).trans C0
    go_wp2_with fail
    refine(b.call fun hl=>xtext a.key _ (by have e:a.key.size=a.key.data.toList.length:=(Array.length_toList (xs:=a.key.data)).symm;unfold encKy encT at hl;rw[List.length_append]at hl;omega)).mono ?_
    rintro e w2 ⟨A5,n5,c5,rfl,b2⟩
    go_wp2_with (at_builtin;refine b2.app rfl _ _ rfl rfl rfl ?_;intro A0 m0 c0 P0 w3 b;have x1:=(b.r.2.cell (p:=⟨(ad.add (k*4)).block,(ad.add (k*4)).off+1,none⟩) hbk).trans C1;have x2:=(b.r.2.cell (p:=⟨(ad.add (k*4)).block,(ad.add (k*4)).off+2,none⟩) hbk).trans C2;have x3:=(b.r.2.cell (p:=⟨(ad.add (k*4)).block,(ad.add (k*4)).off+3,none⟩) hbk).trans C3)
    clear b2 x0
    go_wp2_with fail
    refine(b.call fun hl=>xPut a.v _ hok.2 hl).mono ?_
    rintro e w4 ⟨A5,n5,c5,rfl,b2⟩
    go_wp2_with (at_builtin;refine b2.app rfl _ _ rfl rfl rfl ?_;intro A0 m0 c0 P0 w5 b)
    clear b2
    go_roundw
    case rel=>exact⟨k+1,_,_,_,_,by omega,by go_num,rfl,b⟩
    case measure=>simp[intOf];omega
  · have hd1:decide ((k:Int)<(n:Int))=false:=by simp;omega
    go_wp2_with fail
    go_ret
    rw[List.drop_of_length_le (by omega)]at b
    exact b.post
end Go.Proofs.YtcalkfgibflbnaaGreat
/- Plain: the bytes of a record that weighs no more than 20000 are few. -/
namespace Go.Proofs.YtcalkfgibflbnaaGreat
set_option linter.unusedVariables false
open Go.RowKit Fl
theorem Sl.mem {α:Type} {R:Rel α} {size:Nat} {w:World} {B n:Nat} {A:Option Addr} {l:List α} (h:Sl R size w B A n l) {a:α} (ha:a∈l):∃cs,R w B cs a:=by
 obtain⟨i,hi⟩:=List.mem_iff_getElem?.1 ha
 obtain⟨ad,cs,_,_,_,_,hr⟩:=h.2 i a hi
 exact⟨cs,hr⟩
theorem ba_size (s:ByteArray):s.data.toList.length=s.size:=Array.length_toList (xs:=s.data)
theorem lenKy {s:ByteArray} (h:s.size≤140737488351232):((encKy s).length:Int)≤10*wtT s:=by
 have h1:=ba_size s
 have h2:=encI_len (n:=(s.data.toList.length:Int)) (by omega) (by omega)
 unfold encKy encT wtT
 rw[List.length_append]
 omega
theorem lenVl {v:Vl} (h:v.ok):((encVl v).length:Int)≤20+(v.t.size:Int):=by
 have hv:=h.2.2
 have e1:∀k:Int,k=0∨k=1∨k=2→(encI k).length=1:=by rintro k (rfl|rfl|rfl)<;>rfl
 have h1:=ba_size v.t
 have h2:=encI_len (n:=(v.t.data.toList.length:Int)) (by omega) (by omega)
 have h8:(encF64 v.n).length=8:=leW_len 8 _
 unfold encVl
 split
 · split
   · rw[List.length_append,e1 1 (by omega),h8];omega
   · split
     · rw[List.length_append,e1 2 (by omega)];unfold encKy encT;rw[List.length_append];omega
     · rw[e1 0 (by omega)];omega
 · rw[e1 0 (by omega)];omega
theorem lenWt {a:Wt} (h:a.ok):((encWt a).length:Int)≤30*wtW a:=by
 have h1:=lenKy h.1
 have h2:=lenVl h.2
 unfold wtT at h1
 unfold encWt wtW
 rw[List.length_append]
 omega
theorem lenSp {s:Sp} (ok:s.ok):((encSp s).length:Int)≤30:=by
 have h1:=encI_len ok.1.1 ok.1.2
 have h2:=encI_len ok.2.1.1 ok.2.1.2
 have h3:=encI_len ok.2.2.1 ok.2.2.2
 unfold encSp;rw[List.length_append,List.length_append];omega
theorem lenTx {s:Tx} (ok:s.ok):((encTx s).length:Int)≤30:=by
 have h1:=encI_len ok.1.1 ok.1.2
 have h2:=encI_len ok.2.1.1 ok.2.1.2
 have h3:=encI_len ok.2.2.1 ok.2.2.2
 unfold encTx;rw[List.length_append,List.length_append];omega
theorem lenVn {a:Vn} (h:a.ok):((encVn a).length:Int)≤50*wtV a:=by
 have h1:=lenSp h.1
 have h2:=lenVl h.2
 unfold encVn wtV
 rw[List.length_append]
 omega
theorem lenN {n:Nat} (h:n≤1000000000):((encI (n:Int)).length:Int)≤10:=by
 have:=encI_len (n:=(n:Int)) (by omega) (by omega)
 omega
theorem lenHs {w:World} {B:Nat} {cs:List Value} {h:Hs} (hr:HsRel w B cs h) (hl:h.vs.length≤1000000000):((encHs h).length:Int)≤50*wtH h:=by
 obtain⟨v,rfl,hk,A,n,c,rfl,_,_,hS⟩:=hr
 have h1:=lenKy hk
 have h2:=flat_leC encVn wtV 50 h.vs fun a ha=>by obtain⟨_,_,hok⟩:=hS.mem ha;exact lenVn hok
 have h3:=lenN hl
 unfold wtT at h1
 unfold encHs encLs wtH
 rw[List.length_append,List.length_append]
 omega
theorem lenPn {w:World} {B:Nat} {cs:List Value} {p:Pn} (hr:PnRel w B cs p) (hl:p.r.length≤1000000000) (hl2:p.w.length≤1000000000):((encPn p).length:Int)≤80*wtP p:=by
 obtain⟨v,q,rfl,ht,hs,⟨A,n,c,rfl,_,_,hS⟩,A2,n2,c2,rfl,_,_,hS2⟩:=hr
 have h1:=lenTx ht
 have h2:=lenSp hs
 have h3:=flat_leC encKy wtT 10 p.r fun a ha=>by obtain⟨_,_,hok⟩:=hS.mem ha;exact lenKy hok
 have h4:=flat_leC encWt wtW 30 p.w fun a ha=>by obtain⟨_,_,hok⟩:=hS2.mem ha;exact lenWt hok
 have h5:=lenN hl
 have h6:=lenN hl2
 have h7:=sum_nn wtT wtT_nn p.r
 have h8:=sum_nn wtW wtW_nn p.w
 unfold encPn encLs wtP
 rw[List.length_append,List.length_append,List.length_append,List.length_append,List.length_append]
 omega
theorem lenSt {w:World} {s:Stt} {A1 A2:Option Addr} {n1 n2:Nat} (hr:s.r.ok) (hf:s.f.ok) (hc:s.c.ok) (h1:Sl HsRel 2 w w.heap.size A1 n1 s.h) (h2:Sl PnRel 8 w w.heap.size A2 n2 s.p) (h:weighS 20000 s≤20000):
 ((encSt s).length:Int)≤200+80*((s.h.map wtH).sum+(s.p.map wtP).sum)∧SmallH s.h∧SmallP s.p:=by
 have hg:=weighS_gain (by omega) s h
 have hsm:=weighS_small (by omega) (by omega) h
 have k1:=sum_nn wtH wtH_nn s.h
 have k2:=sum_nn wtP wtP_nn s.p
 have l1:=len_sum wtH (fun a=>by unfold wtH;have:=sum_nn wtV wtV_nn a.vs;omega) s.h
 have l2:=len_sum wtP (fun a=>by unfold wtP;have:=sum_nn wtT wtT_nn a.r;have:=sum_nn wtW wtW_nn a.w;omega) s.p
 have f1:=flat_leC encHs wtH 50 s.h fun a ha=>by
  obtain⟨_,hok⟩:=h1.mem ha
  refine lenHs hok ?_
  have m1:=mem_sum wtH wtH_nn ha
  have m2:=len_sum wtV (fun a=>by unfold wtV;omega) a.vs
  have m0:wtH a=1+(a.key.size:Int)+(a.vs.map wtV).sum:=rfl
  omega
 have f2:=flat_leC encPn wtP 80 s.p fun a ha=>by
  obtain⟨_,hok⟩:=h2.mem ha
  have m1:=mem_sum wtP wtP_nn ha
  have m2:=len_sum wtT (fun a=>by unfold wtT;omega) a.r
  have m3:=len_sum wtW (fun a=>by unfold wtW;omega) a.w
  have m4:=sum_nn wtT wtT_nn a.r
  have m5:=sum_nn wtW wtW_nn a.w
  have m0:wtP a=1+(a.r.map wtT).sum+(a.w.map wtW).sum:=rfl
  exact lenPn hok (by omega) (by omega)
 have e1:=encI_len hr.1.1 hr.1.2
 have e2:=encI_len hr.2.1.1 hr.2.1.2
 have e3:(encF64 s.r.lo).length=8:=leW_len 8 _
 have e4:(encF64 s.r.hi).length=8:=leW_len 8 _
 have e5:=lenSp hf
 have e6:=lenSp hc
 have e7:=lenN (n:=s.h.length) (by omega)
 have e8:=lenN (n:=s.p.length) (by omega)
 refine⟨?_,hsm⟩
 unfold encSt encRg encLs
 simp only[List.length_append]
 omega
theorem rec_small {w:World} {r:Rc} {h:Hds} (ok:r.ok) (i:RcIn w r h) (hw:weighRec 20000 r≤20000):RcSm r h∧(encRc r).length≤2000000:=by
 obtain⟨hg,hS⟩:=weighRec_gain (by omega) r hw
 obtain⟨hSt,hsm1,hsm2⟩:=lenSt ok.rg ok.fl ok.cl i.hs i.pn hS
 have k1:=sum_nn wtH wtH_nn r.st.h
 have k2:=sum_nn wtP wtP_nn r.st.p
 have k3:=sum_nn wtT wtT_nn r.rd
 have k4:=sum_nn wtW wtW_nn r.wr
 have k5:=sum_nn wtW wtW_nn r.pr
 have l3:=len_sum wtT (fun a=>by unfold wtT;omega) r.rd
 have l4:=len_sum wtW (fun a=>by unfold wtW;omega) r.wr
 have l5:=len_sum wtW (fun a=>by unfold wtW;omega) r.pr
 have f3:=flat_leC encKy wtT 10 r.rd fun a ha=>by obtain⟨_,_,hok⟩:=i.rd.mem ha;exact lenKy hok
 have f4:=flat_leC encWt wtW 30 r.wr fun a ha=>by obtain⟨_,_,hok⟩:=i.wr.mem ha;exact lenWt hok
 have f5:=flat_leC encWt wtW 30 r.pr fun a ha=>by obtain⟨_,_,hok⟩:=i.pr.mem ha;exact lenWt hok
 have f6:=flat_leC encI (fun _=>1) 10 r.ps fun a ha=>by
  obtain⟨_,_,hok⟩:=i.ps.mem ha
  have:=encI_len hok.1 hok.2
  omega
 have s6:∀l:List Int,(l.map fun _=>(1:Int)).sum=(l.length:Int):=by
  intro l
  induction l with
  |nil=>rfl
  |cons a l ih=>simp only[List.map_cons,List.sum_cons,List.length_cons,ih];omega
 rw[s6]at f6
 have g1:=lenN (n:=r.rd.length) (by omega)
 have g2:=lenN (n:=r.wr.length) (by omega)
 have g3:=lenN (n:=r.ps.length) (by omega)
 have g4:=lenN (n:=r.pr.length) (by omega)
 have e1:=encI_len ok.k.1 ok.k.2
 have e2:=encI_len ok.n.1 ok.n.2
 have e3:(encF64 r.pt).length=8:=leW_len 8 _
 have e4:=lenSp ok.s
 have e5:=lenSp ok.pv
 have e6:=lenTx ok.t
 have e7:(encB r.cm).length=1:=rfl
 refine⟨⟨by rw[←i.rd.1];omega,by rw[←i.wr.1];omega,by rw[←i.ps.1];omega,by rw[←i.pr.1];omega,hsm1,hsm2⟩,?_⟩
 have hB:(encBody r).length≤1900000:=by
  unfold encBody encPn encLs
  by_cases c1:r.k=1
  · rw[if_pos c1];omega
  rw[if_neg c1]
  by_cases c2:r.k=2
  · rw[if_pos c2];omega
  rw[if_neg c2]
  by_cases c3:r.k=3
  · rw[if_pos c3];simp only[List.length_append];omega
  rw[if_neg c3]
  by_cases c4:r.k=4
  · rw[if_pos c4];simp only[List.length_append];omega
  rw[if_neg c4]
  by_cases c5:r.k=5
  · rw[if_pos c5];omega
  rw[if_neg c5]
  by_cases c6:r.k=6
  · rw[if_pos c6];simp only[List.length_append];omega
  rw[if_neg c6]
  by_cases c7:r.k=7
  · rw[if_pos c7];omega
  rw[if_neg c7]
  by_cases c8:r.k=8
  · rw[if_pos c8];omega
  rw[if_neg c8]
  by_cases c9:r.k=9
  · rw[if_pos c9];simp only[List.length_append];omega
  rw[if_neg c9]
  by_cases c10:r.k=10
  · rw[if_pos c10];omega
  rw[if_neg c10]
  by_cases c11:r.k=11
  · rw[if_pos c11];simp only[List.length_append];omega
  rw[if_neg c11]
  by_cases c12:r.k=12
  · rw[if_pos c12];simp only[List.length_append];omega
  rw[if_neg c12]
  simp
 unfold encRc
 rw[List.length_append]
 omega
end Go.Proofs.YtcalkfgibflbnaaGreat
/- The walk of msgs' batch. -/
namespace Go.Proofs.YtcalkfgibflbnaaGreat
set_option linter.unusedVariables false
open Go.RowKit Fl
attribute [local go_sem] run_store_float
theorem Sl.rm2 {w:World} {B n:Nat} {A:Option Addr} {l:List Rc} (h:Sl RmRel 29 w B A n l) {k:Nat} (hk:k<n):∃(ad:Addr) (r:Rc) (g:Hds) (b o:Nat),A=some ad∧l[k]?=some r∧ad.add (k*29)=⟨b,o,none⟩∧b<B∧w.rangeAt b o (r.vals g).toList∧r.ok∧g.caps∧RcLo w B r g:=by
 obtain⟨ad,r,g,e,hl,hb,hc,ok,cp,i⟩:=h.rm hk
 have c0:w.cell? (ad.add (k*29))=some (.int .i64 r.k):=hc 0 _ rfl
 generalize hq:ad.add (k*29)=q at*
 obtain⟨b,o,sp⟩:=q
 cases sp with
 |some s=>
  unfold World.cell? at c0
  cases h5:w.heap[b]? with
  |none=>simp[h5]at c0
  |some x=>cases x<;>simp[h5]at c0
 |none=>
  exact⟨ad,r,g,b,o,e,hl,hq,hb,fun j u hj=>by have:=hc j u hj;rwa [Addr.add_mid]at this,ok,cp,i⟩
structure RcPl (r:Rc):Prop where
 a:r.rd.length≤1000000
 b:r.wr.length≤1000000
 c:r.ps.length≤1000000
 d:r.pr.length≤1000000
 h:SmallH r.st.h
 p:SmallP r.st.p
 e:(encRc r).length≤2000000
theorem RcLo.into {w:World} {r:Rc} {h:Hds} (i:RcLo w w.heap.size r h):RcIn w r h:=⟨i.rd,i.wr,i.ps,i.pr,i.hs,i.pn,i.na,i.nb,i.nc,i.nd,i.ne,i.nf⟩
theorem RcPl.sm {w:World} {B:Nat} {r:Rc} {h:Hds} (p:RcPl r) (i:RcLo w B r h):RcSm r h:=by
 have h1:=i.rd.1
 have h2:=i.wr.1
 have h3:=i.ps.1
 have h4:=i.pr.1
 exact⟨by have:=p.a;omega,by have:=p.b;omega,by have:=p.c;omega,by have:=p.d;omega,p.h,p.p⟩
def batchB (l:List Rc):Bool:=(l.all fun r=>encE r==0)&&decide ((l.length:Int)≤8)
def BatR (l:List Rc) (w:World) (i:Value) (wr:World):Prop:=∃k:Nat,k≤l.length∧i=.int .i64 (k:Int)∧((l.drop k).all fun r=>encE r==0)=(l.all fun r=>encE r==0)∧Below w.heap.size w wr
set_option maxRecDepth 100000 in
set_option maxHeartbeats 4000000 in
theorem mbatch_any (A:Option Addr) (n c:Nat) (l:List Rc) (w:World) (h:Sl RmRel 29 w w.heap.size A n l) (hn:n≤1000000) (hw:∀r∈l,RcPl r):
 Calls Tryz.prog 61 #[.slice A n c] w fun e w'=>e=.returned (.bool (batchB l))∧Below w.heap.size w w':=by
 have hl:=h.1
 have hge:n≤l.length:=by omega
 have HW:=Lib.hid hw
 clear hw
 go_enter Tryz.func61,Tryz.ntmps61
 go_wp2
 go_loopw [9] (fun i wr=>BatR l w i wr) (fun i _=>n-(intOf i).toNat)
 case atStart=>exact⟨0,by omega,rfl,rfl,Below.refl _ _⟩
 case round=>
  obtain⟨k,hk,rfl,hs,hb⟩:=hrel
  have hzz:=hb.size
  by_cases hlt:k<n
  · obtain⟨ad,r,g,b,o,rfl,ha,hq,hbb,hrg,ok,cp,i⟩:=((h.below RmRel.kept hb).more RmRel.kept hb.size).rm2 hlt
    have hd1:decide ((k:Int)<(n:Int))=true:=by simp;omega
    have hk0:(0:Int)≤(k:Int):=by omega
    have hk1:(k:Int)<(n:Int):=by omega
    have pl:=HW.out r (List.mem_of_getElem? ha)
    have hE:=fun w' (hb:Below wr.heap.size wr w')=>encode_any r g w' ok (i.into.below hb) cp (pl.sm i) (by have:=pl.e;omega)
    rw[all_drop ha]at hs
    have hX:Below wr.heap.size wr (wr.alloc (.cells (r.vals g) 69)):=by go_grown
    have bR:=Blk.new wr 69 (r.vals g)
    clear ha i hl pl
    go_upto_region 4 with (first
        |(guard_target=~ wpList _ _ _ _ _ _;refine wpList_load_mid rfl 69 _ rfl b o (by kernel_rfl) (r.vals g).toList _ hrg rfl rfl (by kernel_rfl) ?_)
        |(guard_target=~ wpList _ _ _ _ _ _;refine wpList_store_new rfl 69 _ _ rfl _ rfl rfl _ _ (by kernel_rfl) (by kernel_rfl) (by kernel_rfl) ?_))
    have HB:=Lib.hid (show encE r≠0→batchB l=false by
        intro hz
        unfold batchB
        rw[←hs,show (encE r==0)=false from by simp[hz]]
        rfl)
    have HS:=Lib.hid (show encE r=0→((l.drop (k+1)).all fun r=>encE r==0)=(l.all fun r=>encE r==0) by
        intro hz
        rw[←hs,hz]
        rfl)
    clear hs
    generalize hz:encE r=z at*
    clear hz
    by_cases hz:z=0
    · subst hz
      go_wp2_with (first
       |(guard_target=~ wpList _ _ _ _ _ _;refine wpList_load_row rfl 69 _ rfl wr.heap.size (by kernel_rfl) _ _ (0,0) _ bR rfl rfl (by kernel_rfl) ?_)
       |((with_reducible refine(hE _ hX).mono ?_);rintro e w5 ⟨A5,c5,rfl,q5,m5,o5,hb5⟩))
      go_roundw
      case rel=>exact⟨k+1,by omega,by go_num,HS.out (by trivial),hb.trans ((hX.trans (hb5.mono hX.size)).mono hzz)⟩
      case measure=>simp[intOf];omega
    · have hz1:(z !=0)=true:=by simp[hz]
      go_wp2_with (first
       |(guard_target=~ wpList _ _ _ _ _ _;refine wpList_load_row rfl 69 _ rfl wr.heap.size (by kernel_rfl) _ _ (0,0) _ bR rfl rfl (by kernel_rfl) ?_)
       |((with_reducible refine(hE _ hX).mono ?_);rintro e w5 ⟨A5,c5,rfl,q5,m5,o5,hb5⟩))
      go_ret
      rw[HB.out hz]
      exact⟨rfl,hb.trans ((hX.trans (hb5.mono hX.size)).mono hzz)⟩
  · have hd1:decide ((k:Int)<(n:Int))=false:=by simp;omega
    have hs2:(l.all fun r=>encE r==0)=true:=by
        rw[←hs,List.drop_of_length_le (by omega)];rfl
    have HV:=Lib.hid (show batchB l=decide ((n:Int)≤8) by unfold batchB;rw[hs2,hl];rfl)
    clear hs hs2 hl
    go_wp2
    go_ret
    rw[HV.out]
    exact⟨rfl,hb⟩
end Go.Proofs.YtcalkfgibflbnaaGreat
/- The walks of WeighSeen and WeighMsg. -/
namespace Go.Proofs.YtcalkfgibflbnaaGreat
set_option maxHeartbeats 16000000
set_option maxRecDepth 100000
set_option linter.unusedVariables false
open Go.RowKit Fl
attribute [local go_sem] run_store_float
def Sn.wt (a:Sn):Wt:=⟨a.key,a.v⟩
theorem weighSn_any (A:Option Addr) (n c:Nat) (l:List Sn) (most:Int) (w:World) (h:Sl SnRel 7 w w.heap.size A n l) (hn:n≤maxLen) (hm0:0≤most) (hm1:most≤1000000):
 Calls Tryz.prog 52 #[.slice A n c,.int .i64 most] w fun e w'=>e=.returned (.int .i64 (weighW most 0 (l.map Sn.wt)))∧∃q,w.drewN q=w':=by
 unfold maxLen at hn
 have hl:=h.1
 have hle:l.length≤n:=by omega
 have hml:(l.map Sn.wt).length=l.length:=List.length_map _
 have HML:=Lib.hid hml
 clear hml
 have hge:n≤l.length:=by omega
 clear hl
 go_enter Tryz.func52,Tryz.ntmps52
 go_wp2
 go_loopw [5,6] (fun s i wr=>WeighRel most (l.map Sn.wt) w s i wr) (fun _ i _=>n-(intOf i).toNat)
 case atStart=>exact⟨0,0,0,Nat.zero_le _,rfl,rfl,by omega,by omega,rfl,rfl⟩
 case round=>
  obtain⟨k,q,s,hk,rfl,rfl,hs0,hs1,hs,rfl⟩:=hrel
  by_cases hlt:k<n
  · have hd1:decide ((k:Int)<(n:Int))=true:=by simp;omega
    by_cases hst:s≤most
    · obtain⟨ad,a,rfl,ha,hbk,hok,c0,c1,c2,c3,c4,c5,c6⟩:=h.sn hlt
      have hd2:decide (s≤most)=true:=by simp[hst]
      have hk0:(0:Int)≤(k:Int):=by omega
      have hk1:(k:Int)<(n:Int):=by omega
      have hsz:=hok.1
      have hsz2:=hok.2.1.2.2
      rw[weighW_drop (a:=a.wt) (by rw[List.getElem?_map,ha];rfl) hst]at hs
      have HS:=Lib.hid hs
      have hr1:=fewI_range (n:=s) (more:=1+(a.key.size:Int)) (most:=most) hs0 (by omega) hm0
      have hr2:0≤stepW most s a.wt∧stepW most s a.wt≤2*most+1:=by
       unfold stepW Sn.wt
       have h9:fewI s (1+(a.key.size:Int)) most≤most+1∨fewI s (1+(a.key.size:Int)) most≤2*most+1:=.inr hr1.2.1
       have h8:=hr1.1
       have h7:fewI s (1+(a.key.size:Int)) most≤2*most+1:=hr1.2.1
       generalize fewI s (1+(a.key.size:Int)) most=z at*
       unfold fewI
       split<;>omega
      have hwr:IntKind.i64.wrap (1+(a.key.size:Int))=1+(a.key.size:Int):=by rw[IntKind.wrap_i64];omega
      have hr3:=hr1.1
      have hr4:=hr1.2.1
      have hr5:=hr2.1
      have hr6:=hr2.2
      clear hr1 hr2
      clear ha hs hok
      go_wp2
      go_quiet (first
       |(go_at_call 50;exact quiet_same (wfew _ _ _ _ (by omega) (by omega) (by omega) (by omega) hm0 (by omega))))
      go_wp2
      go_roundw
      case rel=>exact⟨k+1,q+nq,stepW most s a.wt,by rw[HML.out];omega,by go_num,rfl,hr5,hr6,HS.out,rfl⟩
      case measure=>simp[intOf];omega
    · have hd2:decide (s≤most)=false:=by simp;omega
      rw[weighW_stop _ (by omega)]at hs
      have HS:=Lib.hid hs
      clear hs
      go_wp2
      go_ret
      rw[←HS.out]
      exact⟨rfl,q,rfl⟩
  · have hd1:decide ((k:Int)<(n:Int))=false:=by simp;omega
    rw[List.drop_of_length_le (by rw[HML.out];omega)]at hs
    have HS:RowKit.Hid (s=weighW most 0 (l.map Sn.wt)):=Lib.hid hs
    clear hs
    go_wp2
    go_ret
    rw[←HS.out]
    exact⟨rfl,q,rfl⟩
def weighM1 (most:Int) (m:Mg):Int:=fewI (weighT most m.ks) (weighW most 0 (m.sn.map Sn.wt)) most
def weighM2 (most:Int) (m:Mg):Int:=fewI (weighM1 most m) (weighW most 0 m.ws) most
def weighM3 (most:Int) (m:Mg):Int:=fewI (weighM2 most m) (min (m.ps.length:Int) (most+1)) most
def weighM4 (most:Int) (m:Mg):Int:=fewI (weighM3 most m) (min (m.rs.length:Int) (most+1)) most
def stepRc (most:Int) (r:Rc) (n:Int):Int:=fewI n (weighRec most r) most
def weighMsg (most:Int) (m:Mg):Int:=fewI (weighG (stepRc most) most (weighM4 most m) m.rc+1) (weighS most m.st) most
theorem weighRec_range (r:Rc) {most:Int} (hm:0≤most):1≤weighRec most r∧weighRec most r≤2*most+1:=by
 have hT:=weighT_range r.rd hm
 have hW:=weighW_range r.wr 0 hm (by omega) (by omega)
 have h1:=fewI_range (n:=weighT most r.rd) (more:=weighW most 0 r.wr) (most:=most) hT.1 hW.1 hm
 have h2:=fewI_range (n:=weigh1 most r) (more:=min (r.ps.length:Int) (most+1)) (most:=most) h1.1 (by omega) hm
 have h3:=weighW_range r.pr (weigh2 most r) hm h2.1 h2.2.1
 have hS:=weighS_range r.st hm
 have h4:=fewI_range (n:=weighW most (weigh2 most r) r.pr+1) (more:=weighS most r.st) (most:=most) (by omega) hS.1 hm
 refine⟨?_,h4.2.1⟩
 unfold weighRec fewI
 split<;>omega
theorem stepRc_range (r:Rc) {most n:Int} (hm:0≤most) (h0:0≤n):0≤stepRc most r n∧stepRc most r n≤2*most+1:=by
 have:=fewI_range (n:=n) (more:=weighRec most r) (most:=most) h0 (by have:=(weighRec_range r hm).1;omega) hm
 exact⟨this.1,this.2.1⟩
def WeighMR (most:Int) (l:List Rc) (n0:Int) (W:World) (s i:Value) (wr:World):Prop:=
 ∃(k:Nat) (n:Int),k≤l.length∧i=.int .i64 (k:Int)∧s=.int .i64 n∧0≤n∧n≤2*most+1∧weighG (stepRc most) most n (l.drop k)=weighG (stepRc most) most n0 l∧Below W.heap.size W wr
theorem weighMsg_any (m:Mg) (h:Hm) (most:Int) (w:World) (i:MgLo w w.heap.size m h) (c:h.caps) (hm0:0≤most) (hm1:most≤1000000):
 Calls Tryz.prog 21 #[.agg (m.vals h),.int .i64 most] w fun e w'=>e=.returned (.int .i64 (weighMsg most m))∧Below w.heap.size w w':=by
 have hX:Below w.heap.size w (w.alloc (.cells (m.vals h) 41)):=by go_grown
 have bM:Blk (w.alloc (.cells (m.vals h) 41)) w.heap.size 41 (m.vals h):=Blk.new _ _ _
 have hT:=weighT_range m.ks hm0
 have hT1:=hT.1
 have hT2:=hT.2
 have hN:=weighW_range (m.sn.map Sn.wt) 0 hm0 (by omega) (by omega)
 have hN1:=hN.1
 have hN2:=hN.2
 have hW:=weighW_range m.ws 0 hm0 (by omega) (by omega)
 have hW1:=hW.1
 have hW2:=hW.2
 have h1:=fewI_range (n:=weighT most m.ks) (more:=weighW most 0 (m.sn.map Sn.wt)) (most:=most) hT1 hN1 hm0
 have h11:0≤weighM1 most m:=h1.1
 have h12:weighM1 most m≤2*most+1:=h1.2.1
 have h2:=fewI_range (n:=weighM1 most m) (more:=weighW most 0 m.ws) (most:=most) h11 hW1 hm0
 have h21:0≤weighM2 most m:=h2.1
 have h22:weighM2 most m≤2*most+1:=h2.2.1
 have h3:=fewI_range (n:=weighM2 most m) (more:=min (m.ps.length:Int) (most+1)) (most:=most) h21 (by omega) hm0
 have h31:0≤weighM3 most m:=h3.1
 have h32:weighM3 most m≤2*most+1:=h3.2.1
 have h4:=fewI_range (n:=weighM3 most m) (more:=min (m.rs.length:Int) (most+1)) (most:=most) h31 (by omega) hm0
 have h41:0≤weighM4 most m:=h4.1
 have h42:weighM4 most m≤2*most+1:=h4.2.1
 have hS:=weighS_range m.st hm0
 have hS1:=hS.1
 have hS2:=hS.2
 have hwm:IntKind.i64.wrap (most+1)=most+1:=by rw[IntKind.wrap_i64];omega
 have HE1:=Lib.hid (show weighM1 most m=fewI (weighT most m.ks) (weighW most 0 (m.sn.map Sn.wt)) most from rfl)
 have HE2:=Lib.hid (show weighM2 most m=fewI (weighM1 most m) (weighW most 0 m.ws) most from rfl)
 have HE3:=Lib.hid (show weighM3 most m=fewI (weighM2 most m) (min (h.d.n:Int) (most+1)) most by unfold weighM3;rw[i.ps.1])
 have HE4:=Lib.hid (show weighM4 most m=fewI (weighM3 most m) (min (h.e.n:Int) (most+1)) most by unfold weighM4;rw[i.rs.1])
 have HE5:=Lib.hid (show weighMsg most m=fewI (weighG (stepRc most) most (weighM4 most m) m.rc+1) (weighS most m.st) most from rfl)
 have hdn:=Nat.le_trans c.d.1 c.d.2
 have hen:=Nat.le_trans c.e.1 c.e.2
 have hfn:=Nat.le_trans c.f.1 c.f.2
 unfold maxLen at hdn hen hfn
 have cT:=fun w' (hb:Below w.heap.size w w')=>weighT_any h.a.A h.a.n h.a.c m.ks most w' (i.up hb).ks (Nat.le_trans c.a.1 c.a.2) hm0 hm1
 have cN:=fun w' (hb:Below w.heap.size w w')=>weighSn_any h.b.A h.b.n h.b.c m.sn most w' (i.up hb).sn (Nat.le_trans c.b.1 c.b.2) hm0 hm1
 have cW:=fun w' (hb:Below w.heap.size w w')=>weigh_any h.c.A h.c.n h.c.c m.ws most w' (i.up hb).ws (Nat.le_trans c.c.1 c.c.2) hm0 hm1
 have cS:=fun w' (hb:Below w.heap.size w w')=>weighS_any m.st h.g.A h.i.A h.g.n h.i.n h.g.c h.i.c most w' (i.up hb).hs (i.up hb).pn (Nat.le_trans c.g.1 c.g.2) (Nat.le_trans c.i.1 c.i.2) hm0 hm1
 have hrc:=i.rc
 clear hT hN hW h1 h2 h3 h4 hS c
 go_enter Tryz.func21,Tryz.ntmps21
 go_upto_region 1 with fail
 generalize (w.alloc (.cells (m.vals h) 41))=w1 at*
 have lM:=bM.lt
 have x18:=cl (bM.cell 18)
 have x19:=cl (bM.cell 19)
 go_quiet (first
  |(go_at_call 51;exact quietSame (cT _ (by first|exact hX|exact hX.drew|exact hX.trans ((belowN _).mono hX.size))))
  |(go_at_call 52;exact quietMore (cN _ (by first|exact hX|exact hX.drew|exact hX.trans ((belowN _).mono hX.size))))
  |(go_at_call 50;exact quietSame (wfew _ _ _ _ (by omega) (by omega) (by omega) (by omega) hm0 (by omega))))
 have hX2:Below w.heap.size w (w1.drewN nq):=hX.trans ((belowN nq).mono hX.size)
 have bM2:Blk (w1.drewN nq) w.heap.size 41 (m.vals h):=bM
 rw[←HE1.out]
 clear x18 x19 lM bM hX
 generalize (w1.drewN nq)=w2 at*
 have x20:=cl (bM2.cell 20)
 have lM:=bM2.lt
 go_upto_region 3 with (first
  |((with_reducible refine(cW _ hX2).mono ?_);rintro e v1 ⟨rfl,q,rfl⟩)
  |((with_reducible refine(wfew _ _ most _ (by omega) (by omega) (by omega) (by omega) hm0 (by omega)).mono ?_);rintro e v2 ⟨rfl,rfl⟩))
 have hX3:Below w.heap.size w (w2.drewN q):=hX2.trans ((belowN q).mono hX2.size)
 have bM3:Blk (w2.drewN q) w.heap.size 41 (m.vals h):=bM2
 rw[←HE2.out]
 clear x20 lM bM2 hX2
 generalize (w2.drewN q)=w3 at*
 have lM:=bM3.lt
 have x21:=cl (bM3.cell 21)
 go_cut [5] from 24 (fun v w'=>v=.int .i64 (weighM3 most m)∧w'=w3)
 case first=>
  by_cases hmn:most+1<(h.d.n:Int)
  all_goals
   go_wp2_with ((with_reducible refine(wfew _ _ most _ (by omega) (by omega) (by omega) (by omega) hm0 (by omega)).mono ?_);rintro e v2 ⟨rfl,rfl⟩)
   go_meet
   case rel=>exact⟨congrArg (Value.int .i64) (by rw[HE3.out];first|done|rw[Int.min_eq_right (by omega)]|rw[Int.min_eq_left (by omega)]),rfl⟩
 obtain⟨rfl,rfl⟩:=hcut
 clear x21
 have x22:=cl (bM3.cell 22)
 go_upto_region 4 with fail
 go_cut [5] from 33 (fun v w'=>v=.int .i64 (weighM4 most m)∧w'=wc)
 case first=>
  by_cases hmn:most+1<(h.e.n:Int)
  all_goals
   go_wp2_with ((with_reducible refine(wfew _ _ most _ (by omega) (by omega) (by omega) (by omega) hm0 (by omega)).mono ?_);rintro e v2 ⟨rfl,rfl⟩)
   go_meet
   case rel=>exact⟨congrArg (Value.int .i64) (by rw[HE4.out];first|done|rw[Int.min_eq_right (by omega)]|rw[Int.min_eq_left (by omega)]),rfl⟩
 rename_i wd
 obtain⟨rfl,rfl⟩:=hcut
 have x23:=cl (bM3.cell 23)
 have hrl:=hrc.1
 have hle:m.rc.length≤h.f.n:=by omega
 have hge:h.f.n≤m.rc.length:=by omega
 clear x22 hrl HE1 HE2 HE3 HE4 cT cN cW
 go_wp2
 go_loopw [5,6] (fun s i wr=>WeighMR most m.rc (weighM4 most m) wc s i wr) (fun _ i _=>h.f.n-(intOf i).toNat)
 case atStart=>exact⟨0,weighM4 most m,Nat.zero_le _,rfl,rfl,h41,h42,rfl,Below.refl _ _⟩
 case round=>
  obtain⟨k,s,hk,rfl,rfl,hs0,hs1,hs,hb⟩:=hrel
  have hzz:=hb.size
  have bW:=bM3.below hb bM3.lt
  have hXr:=hX3.trans (hb.mono hX3.size)
  have lW:=bW.lt
  have y23:=cl (bW.cell 23)
  by_cases hgo:k<h.f.n∧s≤most
  · obtain⟨hlt,hst⟩:=hgo
    obtain⟨ad,r,g,b,o,hA,ha,hq,hbb,hrg,ok,cp,ir⟩:=((hrc.below RmRel.kept hXr).more RmRel.kept hXr.size).rm2 hlt
    have hd1:decide ((k:Int)<(h.f.n:Int))=true:=by simp;omega
    have hd2:decide (s≤most)=true:=by simp[hst]
    have hk0:(0:Int)≤(k:Int):=by omega
    have hk1:(k:Int)<(h.f.n:Int):=by omega
    rw[hA]at y23
    rw[weighG_drop ha hst]at hs
    have HS:=Lib.hid hs
    have cR:=fun w' (hb:Below wr.heap.size wr w')=>weighRec_any r g most w' (ir.into.below hb) hm0 hm1
    have r1:=(weighRec_range r hm0).1
    have r2:=(weighRec_range r hm0).2
    have s1:=(stepRc_range r hm0 hs0).1
    have s2:=(stepRc_range r hm0 hs0).2
    have HF:=Lib.hid (show stepRc most r s=fewI s (weighRec most r) most from rfl)
    clear ha hs ir hA
    go_wp2_with (first
        |(guard_target=~ wpList _ _ _ _ _ _;refine wpList_load_mid rfl 69 _ rfl b o (by kernel_rfl) (r.vals g).toList _ hrg rfl rfl (by kernel_rfl) ?_)
        |((with_reducible refine(cR _ (Below.refl _ _)).mono ?_);rintro e v1 ⟨rfl,hb1⟩)
        |((with_reducible refine(wfew _ _ most _ (by omega) (by omega) (by omega) (by omega) hm0 (by omega)).mono ?_);rintro e v2 ⟨rfl,rfl⟩))
    go_roundw
    case rel=>exact⟨k+1,stepRc most r s,by omega,by go_num,by rw[HF.out],s1,s2,HS.out,hb.trans (hb1.mono hzz)⟩
    case measure=>simp[intOf];omega
  have HW:RowKit.Hid (s=weighG (stepRc most) most (weighM4 most m) m.rc):=Lib.hid (by
   by_cases hlt:k<h.f.n
   · rw[weighG_stop _ (by omega)]at hs;exact hs
   · rw[List.drop_of_length_le (by omega)]at hs;exact hs)
  have hwn:IntKind.i64.wrap (s+1)=s+1:=by rw[IntKind.wrap_i64];omega
  clear hs
  have y24:=cl (bW.cell 24)
  have y25:=cl (bW.cell 25)
  have y26:=cl (bW.cell 26)
  have y27:=cl (bW.cell 27)
  have y28:=cl (bW.cell 28)
  have y29:=cl (bW.cell 29)
  have y30:=cl (bW.cell 30)
  have y31:=cl (bW.cell 31)
  have y32:=cl (bW.cell 32)
  have y33:=cl (bW.cell 33)
  have y34:=cl (bW.cell 34)
  have y35:=cl (bW.cell 35)
  by_cases hlt:k<h.f.n
  case' pos=>
   have hst:¬s≤most:=fun h=>hgo ⟨hlt,h⟩
   have hd1:decide ((k:Int)<(h.f.n:Int))=true:=by simp;omega
   have hd2:decide (s≤most)=false:=by simp;omega
  case' neg=>
   have hd1:decide ((k:Int)<(h.f.n:Int))=false:=by simp;omega
  all_goals
   clear hgo
   go_wp2_with (first
        |((with_reducible refine(cS _ hXr).mono ?_);rintro e v1 ⟨rfl,hb1⟩)
        |((with_reducible refine(wfew _ _ most _ (by omega) (by omega) (by omega) (by omega) hm0 (by omega)).mono ?_);rintro e v2 ⟨rfl,rfl⟩))
   go_ret
   exact⟨ret_int (by rw[HE5.out,←HW.out]),hXr.trans (hb1.mono hXr.size)⟩
end Go.Proofs.YtcalkfgibflbnaaGreat
/- Plain: a message that weighs no more than 20000 is short, and so are its records. The walk of Few. -/
namespace Go.Proofs.YtcalkfgibflbnaaGreat
set_option linter.unusedVariables false
open Go.RowKit Fl
attribute [local go_sem] run_store_float
theorem stepRc_le {most:Int} (hm:0≤most) (r:Rc) (n:Int) (h0:0≤n) (h1:n≤most):0≤stepRc most r n∧(stepRc most r n≤most→n+1≤stepRc most r n∧weighRec most r≤most):=by
 have hr:=weighRec_range r hm
 have:=fewI_range (n:=n) (more:=weighRec most r) (most:=most) h0 (by omega) hm
 refine⟨this.1,fun h=>?_⟩
 have h2:stepRc most r n=n+weighRec most r:=this.2.2 h
 omega
theorem msg_gain (m:Mg) (hw:weighMsg 20000 m≤20000):m.ks.length≤20000∧m.sn.length≤20000∧m.ws.length≤20000∧m.ps.length≤20000∧m.rs.length≤20000∧m.rc.length≤20000∧(∀r∈m.rc,weighRec 20000 r≤20000)∧weighS 20000 m.st≤20000∧
 weighT 20000 m.ks≤20000∧weighW 20000 0 (m.sn.map Sn.wt)≤20000∧weighW 20000 0 m.ws≤20000:=by
 have hm:(0:Int)≤20000:=by omega
 have hT:=weighT_range m.ks hm
 have hN:=weighW_range (m.sn.map Sn.wt) 0 hm (by omega) (by omega)
 have hW:=weighW_range m.ws 0 hm (by omega) (by omega)
 have h1:=fewI_range (n:=weighT 20000 m.ks) (more:=weighW 20000 0 (m.sn.map Sn.wt)) (most:=20000) hT.1 hN.1 hm
 have h2:=fewI_range (n:=weighM1 20000 m) (more:=weighW 20000 0 m.ws) (most:=20000) h1.1 hW.1 hm
 have h3:=fewI_range (n:=weighM2 20000 m) (more:=min (m.ps.length:Int) (20000+1)) (most:=20000) h2.1 (by omega) hm
 have h4:=fewI_range (n:=weighM3 20000 m) (more:=min (m.rs.length:Int) (20000+1)) (most:=20000) h3.1 (by omega) hm
 have hS:=weighS_range m.st hm
 have h5:=weighG_range (f:=stepRc 20000) (most:=20000) (n:=weighM4 20000 m) (l:=m.rc) (fun a _ n h0 _=>stepRc_range a hm h0) h4.1 h4.2.1
 have h6:=fewI_range (n:=weighG (stepRc 20000) 20000 (weighM4 20000 m) m.rc+1) (more:=weighS 20000 m.st) (most:=20000) (by omega) hS.1 hm
 have e6:=h6.2.2 hw
 have e6':weighMsg 20000 m=weighG (stepRc 20000) 20000 (weighM4 20000 m) m.rc+1+weighS 20000 m.st:=e6
 obtain⟨g1,g2⟩:=weighG_le (f:=stepRc 20000) (fun r=>weighRec 20000 r≤20000) (fun a n h0 h1=>stepRc_le hm a n h0 h1) (n:=weighM4 20000 m) (l:=m.rc) h4.1 (by omega)
 have e4:weighM4 20000 m=weighM3 20000 m+min (m.rs.length:Int) (20000+1):=h4.2.2 (by show weighM4 20000 m≤_;omega)
 have e3:weighM3 20000 m=weighM2 20000 m+min (m.ps.length:Int) (20000+1):=h3.2.2 (by show weighM3 20000 m≤_;have:=h3.1;omega)
 have k3:0≤weighM3 20000 m:=h3.1
 have k2:0≤weighM2 20000 m:=h2.1
 have k1:0≤weighM1 20000 m:=h1.1
 have e2:weighM2 20000 m=weighM1 20000 m+weighW 20000 0 m.ws:=h2.2.2 (by show weighM2 20000 m≤_;omega)
 have e1:weighM1 20000 m=weighT 20000 m.ks+weighW 20000 0 (m.sn.map Sn.wt):=h1.2.2 (by show weighM1 20000 m≤_;omega)
 have l1:=weighT_le (l:=m.ks) hm (by omega)
 have l2:=weighW_len (l:=m.sn.map Sn.wt) hm (by omega)
 have l3:=weighW_len (l:=m.ws) hm (by omega)
 rw[List.length_map]at l2
 exact⟨by omega,by omega,by omega,by omega,by omega,by omega,g2,by omega,by omega,by omega,by omega⟩
theorem msg_small {w:World} {m:Mg} {h:Hm} (i:MgLo w w.heap.size m h) (hw:weighMsg 20000 m≤20000):MgSm m h∧∀r∈m.rc,RcPl r:=by
 obtain⟨a,b,c,d,e,f,g,s,-⟩:=msg_gain m hw
 obtain⟨sh,sp⟩:=weighS_small (by omega) (by omega) s
 refine⟨⟨by rw[←i.ks.1];omega,by rw[←i.sn.1];omega,by rw[←i.ws.1];omega,by rw[←i.ps.1];omega,by rw[←i.rs.1];omega,by rw[←i.rc.1];omega,sh,sp⟩,fun r hr=>?_⟩
 obtain⟨cs,hd,-,ok,cp,lo⟩:=i.rc.mem hr
 obtain⟨sm,hl⟩:=rec_small ok lo.into (g r hr)
 exact⟨by rw[lo.rd.1];exact sm.a,by rw[lo.wr.1];exact sm.b,by rw[lo.ps.1];exact sm.c,by rw[lo.pr.1];exact sm.d,sm.h,sm.p,hl⟩
set_option maxRecDepth 100000 in
set_option maxHeartbeats 1000000 in
theorem few_any (m:Mg) (h:Hm) (w:World) (i:MgLo w w.heap.size m h) (c:h.caps):
 Calls Tryz.prog 9 #[.agg (m.vals h)] w fun e w'=>e=.returned (.bool (decide (weighMsg 20000 m≤20000)))∧Below w.heap.size w w':=by
 have hX:Below w.heap.size w (w.alloc (.cells (m.vals h) 41)):=by go_grown
 have B0:Blk (w.alloc (.cells (m.vals h) 41)) w.heap.size 41 (m.vals h):=Blk.new _ _ _
 have hW:=weighMsg_any m h 20000 _ (i.up hX) c (by omega) (by omega)
 go_enter Tryz.func9,Tryz.ntmps9
 go_wp2_with (guard_target=~ wpList _ _ _ _ _ _;refine wpList_load_row rfl 41 _ rfl w.heap.size (by kernel_rfl) _ _ (0,0) _ B0 rfl rfl (by kernel_rfl) ?_)
 refine hW.mono ?_
 rintro e w1 ⟨rfl,hb1⟩
 go_wp2
 go_ret
 exact⟨rfl,hX.trans (hb1.mono hX.size)⟩
end Go.Proofs.YtcalkfgibflbnaaGreat
