/- The walk of the document's May. -/
import Derived.Test.YtcalkfgibflbnaaGreatDadj
namespace Go.Proofs.YtcalkfgibflbnaaGreat
set_option maxHeartbeats 4000000
set_option maxRecDepth 100000
set_option linter.unusedVariables false
open Go.RowKit Fl
attribute [local go_sem] run_store_float
theorem RcIn.own {w:World} {r:Rc} {h:Hds} (i:RcIn w r h) (hk:kindB r.k=true):RcIn w (ownR r) (ownH r.k h):=by
 unfold kindB at hk
 rw[decide_eq_true_eq]at hk
 have hn:Hd.nil.n≤maxLen:=Nat.zero_le _
 have hc:r.k=1∨r.k=2∨r.k=3∨r.k=4∨r.k=5∨r.k=6∨r.k=7∨r.k=8∨r.k=9∨r.k=10∨r.k=11∨r.k=12:=by omega
 rcases hc with e|e|e|e|e|e|e|e|e|e|e|e
 all_goals
  unfold ownR ownH
  simp only[e]
  first
   |exact⟨Sl.nil,Sl.nil,Sl.nil,Sl.nil,Sl.nil,Sl.nil,hn,hn,hn,hn,hn,hn⟩
   |exact⟨Sl.nil,Sl.nil,Sl.nil,Sl.nil,i.hs,i.pn,hn,hn,hn,hn,i.ne,i.nf⟩
   |exact⟨i.rd,i.wr,i.ps,Sl.nil,Sl.nil,Sl.nil,i.na,i.nb,i.nc,hn,hn,hn⟩
   |exact⟨Sl.nil,Sl.nil,i.ps,Sl.nil,Sl.nil,Sl.nil,hn,hn,i.nc,hn,hn,hn⟩
   |exact⟨Sl.nil,i.wr,Sl.nil,Sl.nil,Sl.nil,Sl.nil,hn,i.nb,hn,hn,hn,hn⟩
   |exact⟨Sl.nil,Sl.nil,Sl.nil,i.pr,Sl.nil,Sl.nil,hn,hn,hn,i.nd,hn,hn⟩
theorem stateOwn_any (r:Rc) (h:Hds) (w:World) (i:RcIn w r h) (hk:kindB r.k=true):
 Calls Tryz.prog 40 #[.agg (r.st.arr (.slice h.e.A h.e.n h.e.c) (.slice h.f.A h.f.n h.f.c)),.agg ((ownR r).st.arr (.slice (ownH r.k h).e.A (ownH r.k h).e.n (ownH r.k h).e.c) (.slice (ownH r.k h).f.A (ownH r.k h).f.n (ownH r.k h).f.c))] w fun e w'=>e=.returned (.bool (decide (r.k=1)||r.st.zeroB))∧Below w.heap.size w w':=by
 by_cases e:r.k=1
 · have e1:(ownR r).st=r.st:=by unfold ownR;simp[e]
   have e2:(ownH r.k h).e=h.e:=by unfold ownH;simp[e]
   have e3:(ownH r.k h).f=h.f:=by unfold ownH;simp[e]
   rw[e1,e2,e3,decide_eq_true e]
   exact state_same r.st h.e.A h.f.A h.e.A h.f.A h.e.n h.f.n h.e.n h.f.n h.e.c h.f.c h.e.c h.f.c w i.hs i.pn i.hs i.pn i.ne i.nf
 · unfold kindB at hk
   rw[decide_eq_true_eq]at hk
   have hc:r.k=2∨r.k=3∨r.k=4∨r.k=5∨r.k=6∨r.k=7∨r.k=8∨r.k=9∨r.k=10∨r.k=11∨r.k=12:=by omega
   have e1:(ownR r).st=zeroS:=by rcases hc with q|q|q|q|q|q|q|q|q|q|q<;>(unfold ownR;simp[q])
   have e2:(ownH r.k h).e=Hd.nil:=by rcases hc with q|q|q|q|q|q|q|q|q|q|q<;>(unfold ownH;simp[q])
   have e3:(ownH r.k h).f=Hd.nil:=by rcases hc with q|q|q|q|q|q|q|q|q|q|q<;>(unfold ownH;simp[q])
   rw[e1,e2,e3,decide_eq_false e]
   exact stateZ_any r.st h.e.A h.f.A h.e.n h.f.n h.e.c h.f.c w i.hs.1 i.pn.1
theorem rrecMay_any (r:Rc) (h:Hds) (w:World) (ok:r.ok) (i:RcIn w r h) (sm:RcSm r h):
 Calls Tryz.prog 119 #[.agg (r.vals h)] w fun e w'=>e=.returned (.int .i64 (recMay r))∧Below w.heap.size w w':=by
 have hX:Below w.heap.size w (w.alloc (.cells (r.vals h) 69)):=by go_grown
 have B0:Blk (w.alloc (.cells (r.vals h) 69)) w.heap.size 69 (r.vals h):=Blk.new _ _ _
 cases hk:kindB r.k
 · have HV:=Lib.hid (show recMay r=7 by unfold recMay;rw[hk];rfl)
   unfold kindB at hk
   rw[decide_eq_false_iff_not]at hk
   have hz:¬(1≤r.k∧r.k≤12):=hk
   clear hk ok i sm
   by_cases h1:r.k<1
   · clear hz
     go_enter Tryz.func119,Tryz.ntmps119
     go_wp2
     go_ret
     exact⟨ret_int HV.out.symm,hX⟩
   · have h2:12<r.k:=by omega
     clear hz
     go_enter Tryz.func119,Tryz.ntmps119
     go_wp2
     go_ret
     exact⟨ret_int HV.out.symm,hX⟩
 · have hO:=fun w'=>own_any r h w' hk
   have hR:=fun w' (hb:Below w.heap.size w w')=>rec_any r (ownR r) h (ownH r.k h) (decide (r.k=1)||r.st.zeroB) w' (i.below hb) ((i.below hb).own hk) fun w'' hb2=>stateOwn_any r h w'' ((i.below hb).below hb2) hk
   have hG:=fun w' (hb:Below w.heap.size w w')=>good_any r h w' hk ok (i.below hb) sm
   have HV:=Lib.hid (show recMay r=(if recSame r (ownR r) (decide (r.k=1)||r.st.zeroB)=false then 4 else if goodB r=false then 4 else 0) by unfold recMay;rw[hk,wipe_own r hk,fields_good r ok];rfl)
   unfold kindB at hk
   rw[decide_eq_true_eq]at hk
   have h1:¬(r.k<1):=by omega
   have h2:¬(12<r.k):=by omega
   clear hk ok i sm
   generalize recSame r (ownR r) (decide (r.k=1)||r.st.zeroB)=bs at*
   generalize goodB r=bg at*
   generalize ownR r=q at*
   generalize ownH r.k h=g at*
   cases bs
   · clear hG
     go_enter Tryz.func119,Tryz.ntmps119
     go_upto_region 3 with fail
     refine wp_region_held_drew (S:=fun W'=>Below (w.alloc (.cells (r.vals h) 69)).heap.size (w.alloc (.cells (r.vals h) 69)) W') (by kernel_rfl) (Below.refl _ _).drew (fun hHeld=>?_)
     have s0:Below (w.alloc (.cells (r.vals h) 69)).heap.size (w.alloc (.cells (r.vals h) 69)) (w.alloc (.cells (r.vals h) 69)).drew:=(Below.refl _ _).drew
     refine wpAnyH_take (i:=0) (oi:=⟨some 11,.load 69 (.tmp 1),_,_,_,_⟩) rfl (by kernel_rfl) (by kernel_rfl) (by kernel_rfl) (fun _ _ _ h=>h) (yieldsIf_load_blk (by rfl) _ _ rfl w.heap.size rfl _ _ _ (fun _ hw=>B0.below hw B0.lt) rfl rfl (by kernel_rfl)) hHeld ?_
     go_frame
     refine wpAnyH_take (i:=1) (oi:=⟨some 12,.load 69 (.tmp 1),_,_,_,_⟩) rfl (by kernel_rfl) (by kernel_rfl) (by kernel_rfl) (fun _ _ _ h=>h) (yieldsIf_load_blk (by rfl) _ _ rfl w.heap.size rfl _ _ _ (fun _ hw=>B0.below hw B0.lt) rfl rfl (by kernel_rfl)) hHeld ?_
     go_frame
     refine tr 2 rfl fun K hK=>?_
     go_simp
     (with_reducible refine(hO _).mono ?_)
     rintro e w1 ⟨rfl,hb1⟩
     have s1:Below (w.alloc (.cells (r.vals h) 69)).heap.size (w.alloc (.cells (r.vals h) 69)) w1:=s0.trans (hb1.mono s0.size)
     refine hK.out _ _ s1 (fun hHeld=>?_)
     clear hK K
     try go_frame
     refine tr 3 rfl fun K hK=>?_
     go_simp
     (with_reducible refine(hR _ (hX.trans (s1.mono hX.size))).mono ?_)
     rintro e w2 ⟨rfl,hb2⟩
     have s2:Below (w.alloc (.cells (r.vals h) 69)).heap.size (w.alloc (.cells (r.vals h) 69)) w2:=s1.trans (hb2.mono s1.size)
     refine hK.out _ _ s2 (fun hHeld=>?_)
     clear hK K
     try go_frame
     refine tk 4 15 (v:=?va4) rfl (Or.inl ⟨by kernel_rfl,?ha4⟩) hHeld ?ra4
     case ha4=>
        intro W hSw
        clear hSw
        go_simp
        try with_reducible rfl
     go_frame
     refine tk 5 16 (v:=?va5) rfl (Or.inl ⟨by kernel_rfl,?ha5⟩) hHeld ?ra5
     case ha5=>
        intro W hSw
        clear hSw
        go_simp
        try with_reducible rfl
     go_frame
     refine tn 6 17 ?_
     go_frame
     refine tn 7 18 ?_
     go_frame
     refine tn 8 19 ?_
     go_frame
     refine tk 9 20 (v:=?va9) rfl (Or.inl ⟨by kernel_rfl,?ha9⟩) hHeld ?ra9
     case ha9=>
        intro W hSw
        clear hSw
        go_simp
        try with_reducible rfl
     go_frame
     refine td ?_
     go_wp2
     go_ret
     exact⟨ret_int (by rw[HV.out];rfl),hX.trans (s2.mono hX.size)⟩
   · cases bg
     · go_enter Tryz.func119,Tryz.ntmps119
       go_upto_region 3 with fail
       refine wp_region_held_drew (S:=fun W'=>Below (w.alloc (.cells (r.vals h) 69)).heap.size (w.alloc (.cells (r.vals h) 69)) W') (by kernel_rfl) (Below.refl _ _).drew (fun hHeld=>?_)
       have s0:Below (w.alloc (.cells (r.vals h) 69)).heap.size (w.alloc (.cells (r.vals h) 69)) (w.alloc (.cells (r.vals h) 69)).drew:=(Below.refl _ _).drew
       refine wpAnyH_take (i:=0) (oi:=⟨some 11,.load 69 (.tmp 1),_,_,_,_⟩) rfl (by kernel_rfl) (by kernel_rfl) (by kernel_rfl) (fun _ _ _ h=>h) (yieldsIf_load_blk (by rfl) _ _ rfl w.heap.size rfl _ _ _ (fun _ hw=>B0.below hw B0.lt) rfl rfl (by kernel_rfl)) hHeld ?_
       go_frame
       refine wpAnyH_take (i:=1) (oi:=⟨some 12,.load 69 (.tmp 1),_,_,_,_⟩) rfl (by kernel_rfl) (by kernel_rfl) (by kernel_rfl) (fun _ _ _ h=>h) (yieldsIf_load_blk (by rfl) _ _ rfl w.heap.size rfl _ _ _ (fun _ hw=>B0.below hw B0.lt) rfl rfl (by kernel_rfl)) hHeld ?_
       go_frame
       refine tr 2 rfl fun K hK=>?_
       go_simp
       (with_reducible refine(hO _).mono ?_)
       rintro e w1 ⟨rfl,hb1⟩
       have s1:Below (w.alloc (.cells (r.vals h) 69)).heap.size (w.alloc (.cells (r.vals h) 69)) w1:=s0.trans (hb1.mono s0.size)
       refine hK.out _ _ s1 (fun hHeld=>?_)
       clear hK K
       try go_frame
       refine tr 3 rfl fun K hK=>?_
       go_simp
       (with_reducible refine(hR _ (hX.trans (s1.mono hX.size))).mono ?_)
       rintro e w2 ⟨rfl,hb2⟩
       have s2:Below (w.alloc (.cells (r.vals h) 69)).heap.size (w.alloc (.cells (r.vals h) 69)) w2:=s1.trans (hb2.mono s1.size)
       refine hK.out _ _ s2 (fun hHeld=>?_)
       clear hK K
       try go_frame
       refine tk 4 15 (v:=?vb4) rfl (Or.inl ⟨by kernel_rfl,?hb4⟩) hHeld ?rb4
       case hb4=>
        intro W hSw
        clear hSw
        go_simp
        try with_reducible rfl
       go_frame
       refine tk 5 16 (v:=?vb5) rfl (Or.inl ⟨by kernel_rfl,?hb5⟩) hHeld ?rb5
       case hb5=>
        intro W hSw
        clear hSw
        go_simp
        try with_reducible rfl
       go_frame
       refine wpAnyH_take (i:=6) (oi:=⟨some 17,.load 69 (.tmp 1),_,_,_,_⟩) rfl (by kernel_rfl) (by kernel_rfl) (by kernel_rfl) (fun _ _ _ h=>h) (yieldsIf_load_blk (by rfl) _ _ rfl w.heap.size rfl _ _ _ (fun _ hw=>B0.below hw B0.lt) rfl rfl (by kernel_rfl)) hHeld ?_
       go_frame
       refine tr 7 rfl fun K hK=>?_
       go_simp
       (with_reducible refine(hG _ (hX.trans (s2.mono hX.size))).mono ?_)
       rintro e w3 ⟨rfl,hb3⟩
       have s3:Below (w.alloc (.cells (r.vals h) 69)).heap.size (w.alloc (.cells (r.vals h) 69)) w3:=s2.trans (hb3.mono s2.size)
       refine hK.out _ _ s3 (fun hHeld=>?_)
       clear hK K
       try go_frame
       refine tk 8 19 (v:=?vb8) rfl (Or.inl ⟨by kernel_rfl,?hb8⟩) hHeld ?rb8
       case hb8=>
        intro W hSw
        clear hSw
        go_simp
        try with_reducible rfl
       go_frame
       refine tk 9 20 (v:=?vb9) rfl (Or.inl ⟨by kernel_rfl,?hb9⟩) hHeld ?rb9
       case hb9=>
        intro W hSw
        clear hSw
        go_simp
        try with_reducible rfl
       go_frame
       refine td ?_
       go_wp2
       go_ret
       exact⟨ret_int (by rw[HV.out];rfl),hX.trans (s3.mono hX.size)⟩
     · go_enter Tryz.func119,Tryz.ntmps119
       go_upto_region 3 with fail
       refine wp_region_held_drew (S:=fun W'=>Below (w.alloc (.cells (r.vals h) 69)).heap.size (w.alloc (.cells (r.vals h) 69)) W') (by kernel_rfl) (Below.refl _ _).drew (fun hHeld=>?_)
       have s0:Below (w.alloc (.cells (r.vals h) 69)).heap.size (w.alloc (.cells (r.vals h) 69)) (w.alloc (.cells (r.vals h) 69)).drew:=(Below.refl _ _).drew
       refine wpAnyH_take (i:=0) (oi:=⟨some 11,.load 69 (.tmp 1),_,_,_,_⟩) rfl (by kernel_rfl) (by kernel_rfl) (by kernel_rfl) (fun _ _ _ h=>h) (yieldsIf_load_blk (by rfl) _ _ rfl w.heap.size rfl _ _ _ (fun _ hw=>B0.below hw B0.lt) rfl rfl (by kernel_rfl)) hHeld ?_
       go_frame
       refine wpAnyH_take (i:=1) (oi:=⟨some 12,.load 69 (.tmp 1),_,_,_,_⟩) rfl (by kernel_rfl) (by kernel_rfl) (by kernel_rfl) (fun _ _ _ h=>h) (yieldsIf_load_blk (by rfl) _ _ rfl w.heap.size rfl _ _ _ (fun _ hw=>B0.below hw B0.lt) rfl rfl (by kernel_rfl)) hHeld ?_
       go_frame
       refine tr 2 rfl fun K hK=>?_
       go_simp
       (with_reducible refine(hO _).mono ?_)
       rintro e w1 ⟨rfl,hb1⟩
       have s1:Below (w.alloc (.cells (r.vals h) 69)).heap.size (w.alloc (.cells (r.vals h) 69)) w1:=s0.trans (hb1.mono s0.size)
       refine hK.out _ _ s1 (fun hHeld=>?_)
       clear hK K
       try go_frame
       refine tr 3 rfl fun K hK=>?_
       go_simp
       (with_reducible refine(hR _ (hX.trans (s1.mono hX.size))).mono ?_)
       rintro e w2 ⟨rfl,hb2⟩
       have s2:Below (w.alloc (.cells (r.vals h) 69)).heap.size (w.alloc (.cells (r.vals h) 69)) w2:=s1.trans (hb2.mono s1.size)
       refine hK.out _ _ s2 (fun hHeld=>?_)
       clear hK K
       try go_frame
       refine tk 4 15 (v:=?vc4) rfl (Or.inl ⟨by kernel_rfl,?hc4⟩) hHeld ?rc4
       case hc4=>
        intro W hSw
        clear hSw
        go_simp
        try with_reducible rfl
       go_frame
       refine tk 5 16 (v:=?vc5) rfl (Or.inl ⟨by kernel_rfl,?hc5⟩) hHeld ?rc5
       case hc5=>
        intro W hSw
        clear hSw
        go_simp
        try with_reducible rfl
       go_frame
       refine wpAnyH_take (i:=6) (oi:=⟨some 17,.load 69 (.tmp 1),_,_,_,_⟩) rfl (by kernel_rfl) (by kernel_rfl) (by kernel_rfl) (fun _ _ _ h=>h) (yieldsIf_load_blk (by rfl) _ _ rfl w.heap.size rfl _ _ _ (fun _ hw=>B0.below hw B0.lt) rfl rfl (by kernel_rfl)) hHeld ?_
       go_frame
       refine tr 7 rfl fun K hK=>?_
       go_simp
       (with_reducible refine(hG _ (hX.trans (s2.mono hX.size))).mono ?_)
       rintro e w3 ⟨rfl,hb3⟩
       have s3:Below (w.alloc (.cells (r.vals h) 69)).heap.size (w.alloc (.cells (r.vals h) 69)) w3:=s2.trans (hb3.mono s2.size)
       refine hK.out _ _ s3 (fun hHeld=>?_)
       clear hK K
       try go_frame
       refine tk 8 19 (v:=?vc8) rfl (Or.inl ⟨by kernel_rfl,?hc8⟩) hHeld ?rc8
       case hc8=>
        intro W hSw
        clear hSw
        go_simp
        try with_reducible rfl
       go_frame
       refine tk 9 20 (v:=?vc9) rfl (Or.inl ⟨by kernel_rfl,?hc9⟩) hHeld ?rc9
       case hc9=>
        intro W hSw
        clear hSw
        go_simp
        try with_reducible rfl
       go_frame
       refine td ?_
       go_wp2
       go_ret
       exact⟨ret_int (by rw[HV.out];rfl),hX.trans (s3.mono hX.size)⟩
end Go.Proofs.YtcalkfgibflbnaaGreat
