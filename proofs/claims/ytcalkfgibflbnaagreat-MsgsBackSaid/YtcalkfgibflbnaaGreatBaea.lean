/- The walk of the document's May. -/
import Derived.Test.YtcalkfgibflbnaaGreatBadj
namespace Go.Proofs.YtcalkfgibflbnaaGreat
set_option maxHeartbeats 4000000
set_option maxRecDepth 100000
set_option linter.unusedVariables false
open Go.RowKit Fl
attribute [local go_sem] dJ
theorem dO.own {w:World} {r:Rc} {h:aV} (i:dO w r h) (hk:gy r.k=true):dO w (iy r) (fJ r.k h):=by
 unfold gy at hk;rw[decide_eq_true_eq]at hk;have hn:Hd.nil.n<=maxLen:=Nat.zero_le _;have hc:r.k=1∨r.k=2∨r.k=3∨r.k=4∨r.k=5∨r.k=6∨r.k=7∨r.k=8∨r.k=9∨r.k=10∨r.k=11∨r.k=12:=byOmega;rcases hc with e|e|e|e|e|e|e|e|e|e|e|e
 all_goals
  unfold iy fJ;simp only[e]
  first
   |exact⟨Sl.nil,Sl.nil,Sl.nil,Sl.nil,Sl.nil,Sl.nil,hn,hn,hn,hn,hn,hn⟩
   |exact⟨Sl.nil,Sl.nil,Sl.nil,Sl.nil,i.hs,i.pn,hn,hn,hn,hn,i.ne,i.nf⟩
   |exact⟨i.rd,i.wr,i.ps,Sl.nil,Sl.nil,Sl.nil,i.na,i.nb,i.nc,hn,hn,hn⟩
   |exact⟨Sl.nil,Sl.nil,i.ps,Sl.nil,Sl.nil,Sl.nil,hn,hn,i.nc,hn,hn,hn⟩
   |exact⟨Sl.nil,i.wr,Sl.nil,Sl.nil,Sl.nil,Sl.nil,hn,i.nb,hn,hn,hn,hn⟩
   |exact⟨Sl.nil,Sl.nil,Sl.nil,i.pr,Sl.nil,Sl.nil,hn,hn,hn,i.nd,hn,hn⟩
theorem ah5 (r:Rc) (h:aV) (w:World) (i:dO w r h) (hk:gy r.k=true):
 Calls Tryz.prog 40 #[.agg (r.st.arr (.slice h.e.A h.e.n h.e.c) (.slice h.f.A h.f.n h.f.c)),.agg ((iy r).st.arr (.slice (fJ r.k h).e.A (fJ r.k h).e.n (fJ r.k h).e.c) (.slice (fJ r.k h).f.A (fJ r.k h).f.n (fJ r.k h).f.c))] w fun e w'=>e=.returned (.bool (decide (r.k=1)||r.st.eH))/\Below w.heap.size w w':=by
 by_cases e:r.k=1
 · have e1:(iy r).st=r.st:=(by unfold iy;simp[e]);have e2:(fJ r.k h).e=h.e:=(by unfold fJ;simp[e]);have e3:(fJ r.k h).f=h.f:=(by unfold fJ;simp[e]);rw[e1,e2,e3,decide_eq_true e];exact Lh r.st h.e.A h.f.A h.e.A h.f.A h.e.n h.f.n h.e.n h.f.n h.e.c h.f.c h.e.c h.f.c w i.hs i.pn i.hs i.pn i.ne i.nf
 · unfold gy at hk;rw[decide_eq_true_eq]at hk;have hc:r.k=2∨r.k=3∨r.k=4∨r.k=5∨r.k=6∨r.k=7∨r.k=8∨r.k=9∨r.k=10∨r.k=11∨r.k=12:=byOmega;have e1:(iy r).st=zeroS:=(by rcases hc with q|q|q|q|q|q|q|q|q|q|q<;>(unfold iy;simp[q]));have e2:(fJ r.k h).e=Hd.nil:=(by rcases hc with q|q|q|q|q|q|q|q|q|q|q<;>(unfold fJ;simp[q]));have e3:(fJ r.k h).f=Hd.nil:=(by rcases hc with q|q|q|q|q|q|q|q|q|q|q<;>(unfold fJ;simp[q]));rw[e1,e2,e3,decide_eq_false e];exact SA r.st h.e.A h.f.A h.e.n h.f.n h.e.c h.f.c w i.hs.1 i.pn.1
theorem ah6 (r:Rc) (h:aV) (w:World) (ok:r.ok) (i:dO w r h) (sm:iR r h):
 Calls Tryz.prog 119 #[.agg (r.vals h)] w fun e w'=>e=.returned (.int .i64 (lq r))/\Below w.heap.size w w':=by
 have hX:Below w.heap.size w (w.alloc (.cells (r.vals h) 69)):=aJ;have B0:aj (w.alloc (.cells (r.vals h) 69)) w.heap.size 69 (r.vals h):=aj.new _ _ _;cases hk:gy r.k
 · have HV:=au (show lq r=7 by unfold lq;rw[hk];rfl);unfold gy at hk;rw[decide_eq_false_iff_not]at hk;have hz:¬(1<=r.k/\r.k<=12):=hk;clear hk ok i sm;by_cases h1:r.k<1
   · clear hz;go_enter Tryz.func119,Tryz.ntmps119;go_wp2;go_ret;exact⟨nH HV.out.symm,hX⟩
   · have h2:12<r.k:=byOmega;clear hz;go_enter Tryz.func119,Tryz.ntmps119;go_wp2;go_ret;exact⟨nH HV.out.symm,hX⟩
 · have hO:=fun w'=>agZ r h w' hk
   have hR:=fun w' (hb:Below w.heap.size w w')=>MQ r (iy r) h (fJ r.k h) (decide (r.k=1)||r.st.eH) w' (i.below hb) ((i.below hb).own hk) fun w'' hb2=>ah5 r h w'' ((i.below hb).below hb2) hk
   have hG:=fun w' (hb:Below w.heap.size w w')=>ahU r h w' hk ok (i.below hb) sm
   have HV:=au (show lq r=(if vT r (iy r) (decide (r.k=1)||r.st.eH)=false then 4 else if jQ r=false then 4 else 0) by unfold lq;rw[hk,ahY r hk,ahX r ok];rfl);unfold gy at hk;rw[decide_eq_true_eq]at hk;have h1:¬(r.k<1):=byOmega;have h2:¬(12<r.k):=byOmega;clear hk ok i sm;generalize vT r (iy r) (decide (r.k=1)||r.st.eH)=bs at*;generalize jQ r=bg at*;generalize iy r=q at*;generalize fJ r.k h=g at*;cases bs
   · clear hG;go_enter Tryz.func119,Tryz.ntmps119;go_upto_region 3 with fail;refine wp_region_held_drew (S:=fun W'=>Below (w.alloc (.cells (r.vals h) 69)).heap.size (w.alloc (.cells (r.vals h) 69)) W') ah (aC).drew (fun hHeld=>?_);have s0:Below (w.alloc (.cells (r.vals h) 69)).heap.size (w.alloc (.cells (r.vals h) 69)) (w.alloc (.cells (r.vals h) 69)).drew:=(aC).drew;refine wpAnyH_take (i:=0) (oi:=⟨some 11,.load 69 (.tmp 1),_,_,_,_⟩) rfl ah ah ah (fun _ _ _ h=>h) (vP aI _ _ rfl w.heap.size rfl _ _ _ (fun _ hw=>B0.below hw B0.lt) rfl rfl ah) hHeld ?_;go_frame;refine wpAnyH_take (i:=1) (oi:=⟨some 12,.load 69 (.tmp 1),_,_,_,_⟩) rfl ah ah ah (fun _ _ _ h=>h) (vP aI _ _ rfl w.heap.size rfl _ _ _ (fun _ hw=>B0.below hw B0.lt) rfl rfl ah) hHeld ?_;go_frame;refine tr 2 rfl fun K hK=>?_
     go_simp
     (with_reducible refine(hO _).mono ?_)
     rintro e w1 ⟨rfl,hb1⟩;have s1:Below (w.alloc (.cells (r.vals h) 69)).heap.size (w.alloc (.cells (r.vals h) 69)) w1:=s0.trans (hb1.mono s0.size);refine hK.out _ _ s1 (fun hHeld=>?_);clear hK K
     try go_frame
     refine tr 3 rfl fun K hK=>?_
     go_simp
     (with_reducible refine(hR _ (hX.trans (s1.mono hX.size))).mono ?_)
     rintro e w2 ⟨rfl,hb2⟩;have s2:Below (w.alloc (.cells (r.vals h) 69)).heap.size (w.alloc (.cells (r.vals h) 69)) w2:=s1.trans (hb2.mono s1.size);refine hK.out _ _ s2 (fun hHeld=>?_);clear hK K
     try go_frame
     refine wpAnyH_take (i:=4) (oi:=⟨some 15,_,_,_,_,_⟩) (v:=?va4) rfl ah ah ah (fun _ _ _ h=>h) (Or.inl ⟨ah,?ha4⟩) hHeld ?ra4
     case ha4=>
        intro W hSw;clear hSw;go_simp
        try with_reducible rfl
     go_frame;refine wpAnyH_take (i:=5) (oi:=⟨some 16,_,_,_,_,_⟩) (v:=?va5) rfl ah ah ah (fun _ _ _ h=>h) (Or.inl ⟨ah,?ha5⟩) hHeld ?ra5
     case ha5=>
        intro W hSw;clear hSw;go_simp
        try with_reducible rfl
     go_frame;refine wpAnyH_take (i:=6) (oi:=⟨some 17,_,_,_,_,_⟩) (v:=undef) rfl ah ah ah (fun _ _ _ h=>h) (Or.inr ⟨ah,rfl⟩) hHeld ?_;go_frame;refine wpAnyH_take (i:=7) (oi:=⟨some 18,_,_,_,_,_⟩) (v:=undef) rfl ah ah ah (fun _ _ _ h=>h) (Or.inr ⟨ah,rfl⟩) hHeld ?_;go_frame;refine wpAnyH_take (i:=8) (oi:=⟨some 19,_,_,_,_,_⟩) (v:=undef) rfl ah ah ah (fun _ _ _ h=>h) (Or.inr ⟨ah,rfl⟩) hHeld ?_;go_frame;refine wpAnyH_take (i:=9) (oi:=⟨some 20,_,_,_,_,_⟩) (v:=?va9) rfl ah ah ah (fun _ _ _ h=>h) (Or.inl ⟨ah,?ha9⟩) hHeld ?ra9
     case ha9=>
        intro W hSw;clear hSw;go_simp
        try with_reducible rfl
     go_frame;refine td ?_;go_wp2;go_ret;exact⟨nH (by rw[HV.out];rfl),hX.trans (s2.mono hX.size)⟩
   · cases bg
     · go_enter Tryz.func119,Tryz.ntmps119;go_upto_region 3 with fail;refine wp_region_held_drew (S:=fun W'=>Below (w.alloc (.cells (r.vals h) 69)).heap.size (w.alloc (.cells (r.vals h) 69)) W') ah (aC).drew (fun hHeld=>?_);have s0:Below (w.alloc (.cells (r.vals h) 69)).heap.size (w.alloc (.cells (r.vals h) 69)) (w.alloc (.cells (r.vals h) 69)).drew:=(aC).drew;refine wpAnyH_take (i:=0) (oi:=⟨some 11,.load 69 (.tmp 1),_,_,_,_⟩) rfl ah ah ah (fun _ _ _ h=>h) (vP aI _ _ rfl w.heap.size rfl _ _ _ (fun _ hw=>B0.below hw B0.lt) rfl rfl ah) hHeld ?_;go_frame;refine wpAnyH_take (i:=1) (oi:=⟨some 12,.load 69 (.tmp 1),_,_,_,_⟩) rfl ah ah ah (fun _ _ _ h=>h) (vP aI _ _ rfl w.heap.size rfl _ _ _ (fun _ hw=>B0.below hw B0.lt) rfl rfl ah) hHeld ?_;go_frame;refine tr 2 rfl fun K hK=>?_
       go_simp
       (with_reducible refine(hO _).mono ?_)
       rintro e w1 ⟨rfl,hb1⟩;have s1:Below (w.alloc (.cells (r.vals h) 69)).heap.size (w.alloc (.cells (r.vals h) 69)) w1:=s0.trans (hb1.mono s0.size);refine hK.out _ _ s1 (fun hHeld=>?_);clear hK K
       try go_frame
       refine tr 3 rfl fun K hK=>?_
       go_simp
       (with_reducible refine(hR _ (hX.trans (s1.mono hX.size))).mono ?_)
       rintro e w2 ⟨rfl,hb2⟩;have s2:Below (w.alloc (.cells (r.vals h) 69)).heap.size (w.alloc (.cells (r.vals h) 69)) w2:=s1.trans (hb2.mono s1.size);refine hK.out _ _ s2 (fun hHeld=>?_);clear hK K
       try go_frame
       refine wpAnyH_take (i:=4) (oi:=⟨some 15,_,_,_,_,_⟩) (v:=?vb4) rfl ah ah ah (fun _ _ _ h=>h) (Or.inl ⟨ah,?hb4⟩) hHeld ?rb4
       case hb4=>
        intro W hSw;clear hSw;go_simp
        try with_reducible rfl
       go_frame;refine wpAnyH_take (i:=5) (oi:=⟨some 16,_,_,_,_,_⟩) (v:=?vb5) rfl ah ah ah (fun _ _ _ h=>h) (Or.inl ⟨ah,?hb5⟩) hHeld ?rb5
       case hb5=>
        intro W hSw;clear hSw;go_simp
        try with_reducible rfl
       go_frame;refine wpAnyH_take (i:=6) (oi:=⟨some 17,.load 69 (.tmp 1),_,_,_,_⟩) rfl ah ah ah (fun _ _ _ h=>h) (vP aI _ _ rfl w.heap.size rfl _ _ _ (fun _ hw=>B0.below hw B0.lt) rfl rfl ah) hHeld ?_;go_frame;refine tr 7 rfl fun K hK=>?_
       go_simp
       (with_reducible refine(hG _ (hX.trans (s2.mono hX.size))).mono ?_)
       rintro e w3 ⟨rfl,hb3⟩;have s3:Below (w.alloc (.cells (r.vals h) 69)).heap.size (w.alloc (.cells (r.vals h) 69)) w3:=s2.trans (hb3.mono s2.size);refine hK.out _ _ s3 (fun hHeld=>?_);clear hK K
       try go_frame
       refine wpAnyH_take (i:=8) (oi:=⟨some 19,_,_,_,_,_⟩) (v:=?vb8) rfl ah ah ah (fun _ _ _ h=>h) (Or.inl ⟨ah,?hb8⟩) hHeld ?rb8
       case hb8=>
        intro W hSw;clear hSw;go_simp
        try with_reducible rfl
       go_frame;refine wpAnyH_take (i:=9) (oi:=⟨some 20,_,_,_,_,_⟩) (v:=?vb9) rfl ah ah ah (fun _ _ _ h=>h) (Or.inl ⟨ah,?aB⟩) hHeld ?rb9
       case aB=>
        intro W hSw;clear hSw;go_simp
        try with_reducible rfl
       go_frame;refine td ?_;go_wp2;go_ret;exact⟨nH (by rw[HV.out];rfl),hX.trans (s3.mono hX.size)⟩
     · go_enter Tryz.func119,Tryz.ntmps119;go_upto_region 3 with fail;refine wp_region_held_drew (S:=fun W'=>Below (w.alloc (.cells (r.vals h) 69)).heap.size (w.alloc (.cells (r.vals h) 69)) W') ah (aC).drew (fun hHeld=>?_);have s0:Below (w.alloc (.cells (r.vals h) 69)).heap.size (w.alloc (.cells (r.vals h) 69)) (w.alloc (.cells (r.vals h) 69)).drew:=(aC).drew;refine wpAnyH_take (i:=0) (oi:=⟨some 11,.load 69 (.tmp 1),_,_,_,_⟩) rfl ah ah ah (fun _ _ _ h=>h) (vP aI _ _ rfl w.heap.size rfl _ _ _ (fun _ hw=>B0.below hw B0.lt) rfl rfl ah) hHeld ?_;go_frame;refine wpAnyH_take (i:=1) (oi:=⟨some 12,.load 69 (.tmp 1),_,_,_,_⟩) rfl ah ah ah (fun _ _ _ h=>h) (vP aI _ _ rfl w.heap.size rfl _ _ _ (fun _ hw=>B0.below hw B0.lt) rfl rfl ah) hHeld ?_;go_frame;refine tr 2 rfl fun K hK=>?_
       go_simp
       (with_reducible refine(hO _).mono ?_)
       rintro e w1 ⟨rfl,hb1⟩;have s1:Below (w.alloc (.cells (r.vals h) 69)).heap.size (w.alloc (.cells (r.vals h) 69)) w1:=s0.trans (hb1.mono s0.size);refine hK.out _ _ s1 (fun hHeld=>?_);clear hK K
       try go_frame
       refine tr 3 rfl fun K hK=>?_
       go_simp
       (with_reducible refine(hR _ (hX.trans (s1.mono hX.size))).mono ?_)
       rintro e w2 ⟨rfl,hb2⟩;have s2:Below (w.alloc (.cells (r.vals h) 69)).heap.size (w.alloc (.cells (r.vals h) 69)) w2:=s1.trans (hb2.mono s1.size);refine hK.out _ _ s2 (fun hHeld=>?_);clear hK K
       try go_frame
       refine wpAnyH_take (i:=4) (oi:=⟨some 15,_,_,_,_,_⟩) (v:=?vc4) rfl ah ah ah (fun _ _ _ h=>h) (Or.inl ⟨ah,?hc4⟩) hHeld ?rc4
       case hc4=>
        intro W hSw;clear hSw;go_simp
        try with_reducible rfl
       go_frame;refine wpAnyH_take (i:=5) (oi:=⟨some 16,_,_,_,_,_⟩) (v:=?vc5) rfl ah ah ah (fun _ _ _ h=>h) (Or.inl ⟨ah,?hc5⟩) hHeld ?rc5
       case hc5=>
        intro W hSw;clear hSw;go_simp
        try with_reducible rfl
       go_frame;refine wpAnyH_take (i:=6) (oi:=⟨some 17,.load 69 (.tmp 1),_,_,_,_⟩) rfl ah ah ah (fun _ _ _ h=>h) (vP aI _ _ rfl w.heap.size rfl _ _ _ (fun _ hw=>B0.below hw B0.lt) rfl rfl ah) hHeld ?_;go_frame;refine tr 7 rfl fun K hK=>?_
       go_simp
       (with_reducible refine(hG _ (hX.trans (s2.mono hX.size))).mono ?_)
       rintro e w3 ⟨rfl,hb3⟩;have s3:Below (w.alloc (.cells (r.vals h) 69)).heap.size (w.alloc (.cells (r.vals h) 69)) w3:=s2.trans (hb3.mono s2.size);refine hK.out _ _ s3 (fun hHeld=>?_);clear hK K
       try go_frame
       refine wpAnyH_take (i:=8) (oi:=⟨some 19,_,_,_,_,_⟩) (v:=?vc8) rfl ah ah ah (fun _ _ _ h=>h) (Or.inl ⟨ah,?hc8⟩) hHeld ?rc8
       case hc8=>
        intro W hSw;clear hSw;go_simp
        try with_reducible rfl
       go_frame;refine wpAnyH_take (i:=9) (oi:=⟨some 20,_,_,_,_,_⟩) (v:=?vc9) rfl ah ah ah (fun _ _ _ h=>h) (Or.inl ⟨ah,?hc9⟩) hHeld ?rc9
       case hc9=>
        intro W hSw;clear hSw;go_simp
        try with_reducible rfl
       go_frame;refine td ?_;go_wp2;go_ret;exact⟨nH (by rw[HV.out];rfl),hX.trans (s3.mono hX.size)⟩
