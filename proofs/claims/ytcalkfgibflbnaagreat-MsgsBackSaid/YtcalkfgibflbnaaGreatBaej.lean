/- The walk of the document's good. -/
import Derived.Test.YtcalkfgibflbnaaGreatBaee
import Derived.Test.YtcalkfgibflbnaaGreatBaef
import Derived.Test.YtcalkfgibflbnaaGreatBaeg
import Derived.Test.YtcalkfgibflbnaaGreatBaeh
import Derived.Test.YtcalkfgibflbnaaGreatBaei
import Derived.Test.YtcalkfgibflbnaaGreatBafa
import Derived.Test.YtcalkfgibflbnaaGreatBafb
namespace Go.Proofs.YtcalkfgibflbnaaGreat
set_option linter.unusedVariables false
open Go.RowKit Fl
attribute [local go_sem] dJ
theorem ail (m:Mg) (h:Hm) (w:World) (hk:iK m.k=true) (ok:m.ok) (i:bH w w.heap.size m h) (sm:iV m h) (pl:∀r∈m.rc,jo r):
 Calls Tryz.prog 32 #[.agg (m.vals h)] w fun e w'=>e=.returned (.bool (kR m))/\Below w.heap.size w w':=by
 unfold iK at hk;rw[decide_eq_true_eq]at hk;have hc:(m.k=6∨m.k=7∨m.k=11∨m.k=13∨m.k=14)∨(m.k=5∨m.k=8)∨(m.k=1∨m.k=4)∨(m.k=2)∨(m.k=3)∨(m.k=9)∨(m.k=10∨m.k=12):=byOmega;rcases hc with e|e|e|e|e|e|e
 · exact aib m h w e ok i sm pl
 · exact aic m h w e ok i sm pl
 · exact aie m h w e ok i sm pl
 · exact aif m h w e ok i sm pl
 · exact aii m h w e ok i sm pl
 · exact aij m h w e ok i sm pl
 · exact aik m h w e ok i sm pl
set_option maxHeartbeats 8000000
set_option maxRecDepth 100000
theorem bH.own {w:World} {B:Nat} {m:Mg} {h:Hm} (i:bH w B m h):bH w B (fG m) (dG m.k h):=by
 by_cases hk:1<=m.k/\m.k<=14
 · have hc:m.k=1∨m.k=2∨m.k=3∨m.k=4∨m.k=5∨m.k=6∨m.k=7∨m.k=8∨m.k=9∨m.k=10∨m.k=11∨m.k=12∨m.k=13∨m.k=14:=byOmega;rcases hc with e|e|e|e|e|e|e|e|e|e|e|e|e|e
   all_goals
    unfold fG dG;simp only[e];constructor;all_goals first
        |exact Sl.nil
        |exact i.ks
        |exact i.sn
        |exact i.ws
        |exact i.ps
        |exact i.rs
        |exact i.rc
        |exact i.hs
        |exact i.pn
 · rw[show fG m=m.bare by unfold fG;repeat (rw[if_neg byOmega]),show dG m.k h=Hm.nil by unfold dG;repeat (rw[if_neg byOmega])];exact⟨Sl.nil,Sl.nil,Sl.nil,Sl.nil,Sl.nil,Sl.nil,Sl.nil,Sl.nil⟩
theorem ain {k:Int} {h:Hm} (c:h.caps):(dG k h).caps:=by
 have hn:Hd.nil.n<=Hd.nil.c/\Hd.nil.c<=maxLen:=⟨Nat.le_refl _,Nat.zero_le _⟩;unfold dG
 repeat' split
 all_goals
  constructor;all_goals first
   |exact hn
   |exact c.a
   |exact c.b
   |exact c.c
   |exact c.d
   |exact c.e
   |exact c.f
   |exact c.g
   |exact c.i
theorem aio (A:Option Addr) (n c:Nat) (w:World):Calls Tryz.prog 39 #[.slice A n c,.slice none 0 0] w fun e w'=>e=.returned (.bool ((n:Int)==0))/\w=w':=by
 by_cases hn:n=0
 · subst hn;go_enter Tryz.func39,Tryz.ntmps39;go_wp2
   go_loopw [5] (fun i wr=>i=.int .i64 0/\w=wr) (fun _ _=>0)
   case atStart=>exact⟨rfl,rfl⟩
   case round=>
    obtain⟨rfl,rfl⟩:=hrel;go_wp2;go_ret;exact⟨rfl,rfl⟩
 · have hb0:((n:Int) !=(0:Int))=true:=ay;have hb1:((n:Int)==(0:Int))=false:=ay;rw[hb1];go_enter Tryz.func39,Tryz.ntmps39;go_wp2;go_ret;exact⟨rfl,rfl⟩
def C9 (m:Mg):Bool:=decide (m.k=9)||((m.rc.length:Int)==0)
def Dc (m:Mg):Bool:=decide (m.k=10)||m.st.eH
theorem aip (m:Mg) (h:Hm) (w:World) (i:bH w w.heap.size m h) (c:h.caps) (hk:iK m.k=true):
 Calls Tryz.prog 39 #[.slice h.f.A h.f.n h.f.c,.slice (dG m.k h).f.A (dG m.k h).f.n (dG m.k h).f.c] w fun e w'=>e=.returned (.bool (C9 m))/\Below w.heap.size w w':=by
 have hn:=Nat.le_trans c.f.1 c.f.2;unfold C9;by_cases e:m.k=9
 · rw[show (dG m.k h).f=h.f by unfold dG;simp[e],decide_eq_true e];exact aiq h.f.A h.f.A h.f.n h.f.n h.f.c h.f.c m.rc w i.rc i.rc hn hn
 · unfold iK at hk;rw[decide_eq_true_eq]at hk;have hc:m.k=1∨m.k=2∨m.k=3∨m.k=4∨m.k=5∨m.k=6∨m.k=7∨m.k=8∨m.k=10∨m.k=11∨m.k=12∨m.k=13∨m.k=14:=byOmega;rw[show (dG m.k h).f=Hd.nil by rcases hc with q|q|q|q|q|q|q|q|q|q|q|q|q<;>(unfold dG;simp[q]),decide_eq_false e,i.rc.1];exact(aio h.f.A h.f.n h.f.c w).mono fun _ _ ⟨a,b⟩=>⟨a,b▸aC⟩
theorem air (m:Mg) (h:Hm) (w:World) (i:bH w w.heap.size m h) (c:h.caps) (hk:iK m.k=true):
 Calls Tryz.prog 40 #[.agg (m.st.arr (.slice h.g.A h.g.n h.g.c) (.slice h.i.A h.i.n h.i.c)),.agg ((fG m).st.arr (.slice (dG m.k h).g.A (dG m.k h).g.n (dG m.k h).g.c) (.slice (dG m.k h).i.A (dG m.k h).i.n (dG m.k h).i.c))] w fun e w'=>e=.returned (.bool (Dc m))/\Below w.heap.size w w':=by
 unfold Dc;by_cases e:m.k=10
 · rw[show (fG m).st=m.st by unfold fG;simp[e],show (dG m.k h).g=h.g by unfold dG;simp[e],show (dG m.k h).i=h.i by unfold dG;simp[e],decide_eq_true e];exact Lh m.st h.g.A h.i.A h.g.A h.i.A h.g.n h.i.n h.g.n h.i.n h.g.c h.i.c h.g.c h.i.c w i.hs i.pn i.hs i.pn (Nat.le_trans c.g.1 c.g.2) (Nat.le_trans c.i.1 c.i.2)
 · unfold iK at hk;rw[decide_eq_true_eq]at hk;have hc:m.k=1∨m.k=2∨m.k=3∨m.k=4∨m.k=5∨m.k=6∨m.k=7∨m.k=8∨m.k=9∨m.k=11∨m.k=12∨m.k=13∨m.k=14:=byOmega;rw[show (fG m).st=zeroS by rcases hc with q|q|q|q|q|q|q|q|q|q|q|q|q<;>(unfold fG;simp[q]),show (dG m.k h).g=Hd.nil by rcases hc with q|q|q|q|q|q|q|q|q|q|q|q|q<;>(unfold dG;simp[q]),show (dG m.k h).i=Hd.nil by rcases hc with q|q|q|q|q|q|q|q|q|q|q|q|q<;>(unfold dG;simp[q]),decide_eq_false e];exact SA m.st h.g.A h.i.A h.g.n h.i.n h.g.c h.i.c w i.hs.1 i.pn.1
theorem ais (l:List Sn):aT Sn.same l l=true:=tX (fun a=>by unfold Sn.same;simp[Vl.kL]) l
theorem ait (l:List Rg):aT Rg.same l l=true:=tX (fun a=>by unfold Rg.same;simp) l
theorem aiu (m:Mg) (hk:iK m.k=true):(fE m).eH=m.zL (fG m) (C9 m) (Dc m):=by
 unfold iK at hk;rw[decide_eq_true_eq]at hk;have hc:m.k=1∨m.k=2∨m.k=3∨m.k=4∨m.k=5∨m.k=6∨m.k=7∨m.k=8∨m.k=9∨m.k=10∨m.k=11∨m.k=12∨m.k=13∨m.k=14:=byOmega;rcases hc with e|e|e|e|e|e|e|e|e|e|e|e|e|e
 all_goals
  unfold fE fG;simp only[e];rw[Bool.eq_iff_iff];simp[e,Mg.eH,Mg.Ea,Mg.BL,Mg.zL,Mg.Df,Mg.Dh,Mg.Di,C9,Dc,WR,He,JW,JX,ais,ait,WQ,WT,WU,and_assoc,and_comm,and_left_comm]
theorem aiv (m:Mg) (h:Hm) (w:World) (ok:m.ok) (i:bH w w.heap.size m h) (cp:h.caps) (sm:iV m h) (pl:∀r∈m.rc,jo r):
 Calls Tryz.prog 12 #[.agg (m.vals h)] w fun e w'=>e=.returned (.int .i64 (lD m))/\Below w.heap.size w w':=by
 have hX:Below w.heap.size w (w.alloc (.cells (m.vals h) 41)):=aJ;have B0:aj (w.alloc (.cells (m.vals h) 41)) w.heap.size 41 (m.vals h):=aj.new _ _ _;cases hk:iK m.k
 · have HV:=au (show lD m=7 by unfold lD;rw[hk];rfl);unfold iK at hk;rw[decide_eq_false_iff_not]at hk;have hz:¬(1<=m.k/\m.k<=14):=hk;clear hk ok i sm cp pl;by_cases h1:m.k<1
   · clear hz;go_enter Tryz.func12,Tryz.ntmps12;go_wp2;go_ret;exact⟨nH HV.out.symm,hX⟩
   · have h2:14<m.k:=byOmega;clear hz;go_enter Tryz.func12,Tryz.ntmps12;go_wp2;go_ret;exact⟨nH HV.out.symm,hX⟩
 · have hO:=fun w'=>aiw m h w' hk
   have hR:=fun w' (hb:Below w.heap.size w w')=>Xb m (fG m) h (dG m.k h) (C9 m) (Dc m) w' (i.up hb) (i.up hb).own cp (ain cp) (fun w'' hb2=>aip m h w'' ((i.up hb).up hb2) cp hk) (fun w'' hb2=>air m h w'' ((i.up hb).up hb2) cp hk)
   have hG:=fun w' (hb:Below w.heap.size w w')=>ail m h w' hk ok (i.up hb) sm pl
   have hN1:=fun w=>Xa m.fr w
   have JI:=fun w=>Xa m.aG w
   have HV:=au (show lD m=(if (nZ m.fr&&nZ m.aG&&m.zL (fG m) (C9 m) (Dc m)&&kR m)=false then 4 else 0) by unfold lD;rw[hk,aiu m hk,ah4 m hk];rfl);unfold iK at hk;rw[decide_eq_true_eq]at hk;have h1:¬(m.k<1):=byOmega;have h2:¬(14<m.k):=byOmega;clear hk ok i sm cp pl;generalize m.zL (fG m) (C9 m) (Dc m)=bs at*;generalize kR m=bg at*;generalize fG m=q at*;generalize dG m.k h=g at*;generalize nZ m.fr=n1 at*;generalize nZ m.aG=n2 at*;have x1:=cl (B0.cell 1);have x2:=cl (B0.cell 2);go_enter Tryz.func12,Tryz.ntmps12;go_upto_region 3 with fail;generalize (w.alloc (.cells (m.vals h) 41))=X at*;cases n1
   rotate_left
   cases n2
   rotate_left
   cases bs
   rotate_left
   cases bg;all_goals
    refine wp_region_held_drew (S:=fun W'=>Below X.heap.size X W') ah (aC).drew (fun hHeld=>?_);have s0:Below X.heap.size X X.drew:=(aC).drew;refine tc 0 11 ?_;go_frame;refine ts 1 12 rfl (fun W hw=>by have y:=(hw.cell (p:=⟨w.heap.size,1,none⟩) B0.lt).trans x1;go_simp;try with_reducible rfl) ?_;go_frame;refine tr 2 rfl (fun K hK=>?_);go_simp
    (with_reducible refine(hN1 _).mono ?_)
    rintro e w1 ⟨rfl,hb2⟩;subst hb2;refine hK.out _ _ s0 (fun hHeld=>?_);clear hK K
    try go_frame
    refine tc 3 14 ?_;go_frame;refine tc 4 15 ?_;go_frame
    (first|refine tw 5 16 15 false ?_|refine tc 5 16 ?_)
    go_frame
    (first|refine tw 6 17 15 false ?_|refine ts 6 17 rfl (fun W hw=>by have y:=(hw.cell (p:=⟨w.heap.size,2,none⟩) B0.lt).trans x2;go_simp;try with_reducible rfl) ?_)
    go_frame
    first
        |(refine tw 7 18 15 false ?_
          go_frame)
        |(refine tr 7 rfl (fun K hK=>?_)
          go_simp
          (with_reducible refine(JI _).mono ?_)
          rintro e w2 ⟨rfl,hb7⟩;subst hb7;refine hK.out _ _ s0 (fun hHeld=>?_);clear hK K
          try go_frame)
    (first|refine tw 8 19 15 false ?_|refine tc 8 19 ?_)
    go_frame;refine tc 9 20 ?_;go_frame;refine tc 10 21 ?_;go_frame
    (first|refine tw 11 22 21 false ?_|refine tl 11 22 rfl (vP ah _ _ rfl w.heap.size rfl _ _ _ (fun _ hw=>B0.below hw B0.lt) rfl rfl ah) ?_)
    go_frame
    (first|refine tw 12 23 21 false ?_|refine tl 12 23 rfl (vP ah _ _ rfl w.heap.size rfl _ _ _ (fun _ hw=>B0.below hw B0.lt) rfl rfl ah) ?_)
    go_frame
    first
        |(refine tw 13 24 21 false ?_
          go_frame)
        |(refine tr 13 rfl (fun K hK=>?_)
          go_simp
          (with_reducible refine(hO _).mono ?_)
          rintro e w3 ⟨rfl,aix⟩;replace s0:=s0.trans (aix.mono s0.size);refine hK.out _ _ s0 (fun hHeld=>?_);clear hK K
          try go_frame)
    first
        |(refine tw 14 25 21 false ?_
          go_frame)
        |(refine tr 14 rfl (fun K hK=>?_)
          go_simp
          (with_reducible refine(hR _ (hX.trans (s0.mono hX.size))).mono ?_)
          rintro e w4 ⟨rfl,Hf⟩;replace s0:=s0.trans (Hf.mono s0.size);refine hK.out _ _ s0 (fun hHeld=>?_);clear hK K
          try go_frame)
    (first|refine tw 15 26 21 false ?_|refine tc 15 26 ?_)
    go_frame;refine tc 16 27 ?_;go_frame;refine tc 17 28 ?_;go_frame
    (first|refine tw 18 29 28 false ?_|refine tl 18 29 rfl (vP ah _ _ rfl w.heap.size rfl _ _ _ (fun _ hw=>B0.below hw B0.lt) rfl rfl ah) ?_)
    go_frame
    first
        |(refine tw 19 30 28 false ?_
          go_frame)
        |(refine tr 19 rfl (fun K hK=>?_)
          go_simp
          (with_reducible refine(hG _ (hX.trans (s0.mono hX.size))).mono ?_)
          rintro e w5 ⟨rfl,aiy⟩;replace s0:=s0.trans (aiy.mono s0.size);refine hK.out _ _ s0 (fun hHeld=>?_);clear hK K
          try go_frame)
    (first|refine tw 20 31 28 false ?_|refine tc 20 31 ?_)
    go_frame;refine tc 21 32 ?_;go_frame;refine td ?_;go_wp2;go_ret;exact⟨nH (by rw[HV.out];rfl),hX.trans (s0.mono hX.size)⟩
