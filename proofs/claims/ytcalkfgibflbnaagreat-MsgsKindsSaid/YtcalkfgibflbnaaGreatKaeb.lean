/- The walk of the document's Encode. -/
import Derived.Test.YtcalkfgibflbnaaGreatKaab
import Derived.Test.YtcalkfgibflbnaaGreatKaaj
import Derived.Test.YtcalkfgibflbnaaGreatKaea
namespace Go.Proofs.YtcalkfgibflbnaaGreat
set_option linter.unusedVariables false
open Go.RowKit Fl
attribute [local go_sem] run_store_float
theorem xBody (r:Rc) (h:Hds) (w:World) (hk:kindB r.k=true) (ok:r.ok) (i:RcIn w r h) (hlen:(encBody r).length≤1000000000000):
 Calls Tryz.prog 120 #[.agg (r.vals h)] w (RowPost w (encBody r)):=by
 rcases kind_cases hk with e|e|e|e|e|e|e|e|e|e|e|e
 · exact xBody_1 r h w e ok i hlen
 · exact xBody_2 r h w e ok i hlen
 · exact xBody_3 r h w e ok i hlen
 · exact xBody_4 r h w e ok i hlen
 · exact xBody_5 r h w e ok i hlen
 · exact xBody_6 r h w e ok i hlen
 · exact xBody_7 r h w e ok i hlen
 · exact xBody_8 r h w e ok i hlen
 · exact xBody_9 r h w e ok i hlen
 · exact xBody_10 r h w e ok i hlen
 · exact xBody_11 r h w e ok i hlen
 · exact xBody_12 r h w e ok i hlen
set_option maxRecDepth 100000 in
set_option maxHeartbeats 4000000 in
theorem xEncode (r:Rc) (h:Hds) (w:World) (ok:r.ok) (i:RcIn w r h) (sm:RcSm r h) (hlen:(encRc r).length+10≤1000000000000):
 Calls Tryz.prog 72 #[.agg (r.vals h)] w (RowE w (encOut r) (encE r)):=by
 have hM:=fun w' (hb:Below w.heap.size w w')=>rrecMay_any r h w' ok (i.below hb) sm
 have hX:Below w.heap.size w (w.alloc (.cells (r.vals h) 69)):=by go_grown
 have B0:Blk (w.alloc (.cells (r.vals h) 69)) w.heap.size 69 (r.vals h):=Blk.new _ _ _
 by_cases hm:recMay r=0
 · have hk:kindB r.k=true:=by
    cases hq:kindB r.k
    · unfold recMay at hm;rw[hq]at hm;cases hm
    · rfl
   have HE:=Lib.hid (show encE r=if 262144<(encRc r).length then 2 else 0 by unfold encE;rw[if_pos hm])
   have HO:=Lib.hid (show encOut r=if 262144<(encRc r).length then [] else encRc r by unfold encOut;rw[HE.out];by_cases hq:262144<(encRc r).length<;>simp[hq])
   rw[hm]at hM
   clear hm
   obtain⟨i0,hi0,hz0,hz1,hz2⟩:=info_partsW u8_info
   have kk1:=ok.k.1
   have kk2:=ok.k.2
   have hl:(encRc r).length=(encI r.k).length+(encBody r).length:=by unfold encRc;rw[List.length_append]
   have hl1:(encI r.k).length+(encBody r).length+10≤1000000000000:=by omega
   have HL:=Lib.hid hl
   clear hl hlen
   go_enter Tryz.func72,Tryz.ntmps72
   go_wp2_with (first
    |(refine wpList_load_row rfl 69 _ rfl w.heap.size rfl _ _ (0,0) _ B0 rfl rfl (by kernel_rfl) ?_)
    |((with_reducible refine(hM _ hX).mono ?_);rintro e w0 ⟨rfl,hb0⟩))
   have HX:Below w.heap.size w w0:=hX.trans (hb0.mono hX.size)
   have HBK:Blk w0 w.heap.size 69 (r.vals h):=B0.below hb0 B0.lt
   have HB:w.heap.size<w0.heap.size:=HBK.lt
   have C0:=cl (HBK.cell 0)
   have IX:=i.below HX
   clear hM hX B0 i sm hb0
   go_wp2_with fail
   refine wp_region_held_drew (S:=fun W'=>Below (w0).heap.size (w0) W') (by kernel_rfl) (Below.refl _ _).drew (fun hHeld=>?_)
   refine tc 0 11 ?_
   go_frame
   refine ts 1 12 rfl (v:=.int .i64 r.k) (fun W hSw=>by have z:=(hSw.cell (p:=⟨w.heap.size,0,none⟩) HB).trans C0;clear hSw;go_simp) ?_
   go_frame
   refine tl 3 14 rfl (yieldsIf_load_blk (by rfl) _ _ rfl (w.heap.size) rfl _ _ _ (fun _ hw=>HBK.below hw HB) rfl rfl (by kernel_rfl)) ?_
   go_frame
   have s0:Below (w0).heap.size (w0) (w0).drew:=(Below.refl _ _).drew
   refine tr (o:=⟨some 13,_,_,_,_,_⟩) 2 rfl fun K hK=>?_
   go_simp
   (with_reducible refine(xint r.k _ kk1 kk2).mono ?_)
   rintro e w1 ⟨A1,q1,rfl,hq1,hm1,hown1,hb1⟩
   have s1:Below (w0).heap.size (w0) w1:=s0.trans (hb1.mono (s0).size)
   refine hK.out _ _ s1 (fun hHeld=>?_)
   clear hK K
   try go_frame
   have hrow1:RowRel (w0) (encI r.k) (.slice A1 (encI r.k).length q1) w1:=⟨hown1,s1⟩
   refine tr (o:=⟨some 15,_,_,_,_,_⟩) 4 rfl fun K hK=>?_
   go_simp
   (with_reducible refine(xBody r h _ hk ok (IX.below s1) (by omega)).mono ?_)
   rintro e w2 ⟨A2,q2,rfl,hq2,hm2,hown2,hb2⟩
   have s2:Below (w0).heap.size (w0) w2:=s1.trans (hb2.mono (s1).size)
   refine hK.out _ _ s2 (fun hHeld=>?_)
   clear hK K
   try go_frame
   have hrow2:=hrow1.below hb2
   have za:(encI r.k).length+(encBody r).length≤maxLen:=by unfold maxLen;omega
   have zb:((encI r.k).length+(encBody r).length)*1≤140737488355328:=by omega
   refine tr (o:=⟨some 16,_,_,_,_,_⟩) 5 rfl fun K hK=>?_
   refine step_append_any _ rfl _ _ _ rfl (w0).heap.size 5 i0 _ 1 1 Tryz.underlying49 hi0 hz0 hz1 hz2 rfl (by omega) (.slice A1 (encI r.k).length q1) _ (bytesV (encI r.k)) (by rfl) hrow2.1 w2.heap.size A2 (encBody r).length q2 (bytesV (encBody r)) (by rfl) (Reads.of_own hown2) (bytesV_one _) za zb hrow2.2.size ?_
   intro v2' w2' hown2' hg2' hat2'
   have hr2:=hrow2.push (Below.refl _ _) hown2' hg2'
   obtain⟨P2,HP2,LP2⟩:=named (encI r.k) (encBody r)
   rw[←HP2.out]at hr2
   obtain⟨A2',q2',rfl,hq2',hm2'⟩:=own_form hr2.1
   refine hK.out _ _ hr2.2 (fun hHeld=>?_)
   clear hK K
   try go_frame
   refine tc 6 5 ?_
   go_frame
   refine td ?_
   clear za zb hown2' hg2' hat2' hrow1 hrow2 hown1 hown2 hb1 hb2 s0 s1 s2 hHeld
   have c2_0:=up C0 hr2.2 HB
   have hB3:Below w.heap.size w w2':=HX.trans (hr2.2.mono HX.size)
   have HQ:RowKit.Hid (P2=encRc r):=Lib.hid (by rw[HP2.out];rfl)
   have hq:P2.length=(encRc r).length:=by rw[HQ.out]
   have HQL:=Lib.hid hq
   clear hq
   go_wp2
   · have hgt:262144<(encRc r).length:=by have:=HQL.out;omega
     go_ret2
     rw[HE.out,HO.out,if_pos hgt,if_pos hgt]
     exact RowE.nil 2 hB3
   · have hgt:¬262144<(encRc r).length:=by have:=HQL.out;omega
     go_ret2
     rw[HE.out,HO.out,if_neg hgt,if_neg hgt,←HQ.out]
     exact⟨A2',q2',rfl,hq2',hm2',owns_down hr2.1 HX.size,hB3⟩
 · have h1:encE r=recMay r:=by unfold encE;rw[if_neg hm]
   have h2:encOut r=[]:=by unfold encOut;rw[h1,if_neg hm]
   rw[h1,h2]
   have hb0:(recMay r !=0)=true:=by simp[hm]
   generalize recMay r=m at*
   clear h1 h2 hm
   go_enter Tryz.func72,Tryz.ntmps72
   go_wp2_with (first
    |(refine wpList_load_row rfl 69 _ rfl w.heap.size rfl _ _ (0,0) _ B0 rfl rfl (by kernel_rfl) ?_)
    |((with_reducible refine(hM _ hX).mono ?_);rintro e w1 ⟨rfl,hb1⟩))
   go_ret2
   exact RowE.nil m (hX.trans (hb1.mono hX.size))
end Go.Proofs.YtcalkfgibflbnaaGreat
