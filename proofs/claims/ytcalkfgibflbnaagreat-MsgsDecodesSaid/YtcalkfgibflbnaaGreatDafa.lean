/- The walk of the document's good. -/
import Derived.Test.YtcalkfgibflbnaaGreatDaef
import Derived.Test.YtcalkfgibflbnaaGreatDaeg
import Derived.Test.YtcalkfgibflbnaaGreatDaeh
import Derived.Test.YtcalkfgibflbnaaGreatDaei
import Derived.Test.YtcalkfgibflbnaaGreatDaej
import Derived.Test.YtcalkfgibflbnaaGreatDafb
import Derived.Test.YtcalkfgibflbnaaGreatDafc
namespace Go.Proofs.YtcalkfgibflbnaaGreat
set_option linter.unusedVariables false
open Go.RowKit Fl
attribute [local go_sem] run_store_float
theorem mgood_any (m:Mg) (h:Hm) (w:World) (hk:kindM m.k=true) (ok:m.ok) (i:MgLo w w.heap.size m h) (sm:MgSm m h) (pl:∀r∈m.rc,RcPl r):
 Calls Tryz.prog 32 #[.agg (m.vals h)] w fun e w'=>e=.returned (.bool (goodM m))∧Below w.heap.size w w':=by
 unfold kindM at hk
 rw[decide_eq_true_eq]at hk
 have hc:(m.k=6∨m.k=7∨m.k=11∨m.k=13∨m.k=14)∨(m.k=5∨m.k=8)∨(m.k=1∨m.k=4)∨(m.k=2)∨(m.k=3)∨(m.k=9)∨(m.k=10∨m.k=12):=by omega
 rcases hc with e|e|e|e|e|e|e
 · exact mgood_6 m h w e ok i sm pl
 · exact mgood_5 m h w e ok i sm pl
 · exact mgood_1 m h w e ok i sm pl
 · exact mgood_2 m h w e ok i sm pl
 · exact mgood_3 m h w e ok i sm pl
 · exact mgood_9 m h w e ok i sm pl
 · exact mgood_10 m h w e ok i sm pl
set_option maxHeartbeats 8000000
set_option maxRecDepth 100000
theorem MgLo.own {w:World} {B:Nat} {m:Mg} {h:Hm} (i:MgLo w B m h):MgLo w B (ownM m) (ownHm m.k h):=by
 by_cases hk:1≤m.k∧m.k≤14
 · have hc:m.k=1∨m.k=2∨m.k=3∨m.k=4∨m.k=5∨m.k=6∨m.k=7∨m.k=8∨m.k=9∨m.k=10∨m.k=11∨m.k=12∨m.k=13∨m.k=14:=by omega
   rcases hc with e|e|e|e|e|e|e|e|e|e|e|e|e|e
   all_goals
    unfold ownM ownHm
    simp only[e]
    constructor
    all_goals first
        |exact Sl.nil
        |exact i.ks
        |exact i.sn
        |exact i.ws
        |exact i.ps
        |exact i.rs
        |exact i.rc
        |exact i.hs
        |exact i.pn
 · rw[show ownM m=m.bare by unfold ownM;repeat (rw[if_neg (by omega)]),show ownHm m.k h=Hm.nil by unfold ownHm;repeat (rw[if_neg (by omega)])]
   exact⟨Sl.nil,Sl.nil,Sl.nil,Sl.nil,Sl.nil,Sl.nil,Sl.nil,Sl.nil⟩
theorem own_caps {k:Int} {h:Hm} (c:h.caps):(ownHm k h).caps:=by
 have hn:Hd.nil.n≤Hd.nil.c∧Hd.nil.c≤maxLen:=⟨Nat.le_refl _,Nat.zero_le _⟩
 unfold ownHm
 repeat' split
 all_goals
  constructor
  all_goals first
   |exact hn
   |exact c.a
   |exact c.b
   |exact c.c
   |exact c.d
   |exact c.e
   |exact c.f
   |exact c.g
   |exact c.i
theorem recs_nil (A:Option Addr) (n c:Nat) (w:World):Calls Tryz.prog 39 #[.slice A n c,.slice none 0 0] w fun e w'=>e=.returned (.bool ((n:Int)==0))∧w=w':=by
 by_cases hn:n=0
 · subst hn
   go_enter Tryz.func39,Tryz.ntmps39
   go_wp2
   go_loopw [5] (fun i wr=>i=.int .i64 0∧w=wr) (fun _ _=>0)
   case atStart=>exact⟨rfl,rfl⟩
   case round=>
    obtain⟨rfl,rfl⟩:=hrel
    go_wp2
    go_ret
    exact⟨rfl,rfl⟩
 · have hb0:((n:Int) !=(0:Int))=true:=by simp;omega
   have hb1:((n:Int)==(0:Int))=false:=by simp;omega
   rw[hb1]
   go_enter Tryz.func39,Tryz.ntmps39
   go_wp2
   go_ret
   exact⟨rfl,rfl⟩
def sameRc (m:Mg):Bool:=decide (m.k=9)||((m.rc.length:Int)==0)
def sameSt (m:Mg):Bool:=decide (m.k=10)||m.st.zeroB
theorem recsOwn_any (m:Mg) (h:Hm) (w:World) (i:MgLo w w.heap.size m h) (c:h.caps) (hk:kindM m.k=true):
 Calls Tryz.prog 39 #[.slice h.f.A h.f.n h.f.c,.slice (ownHm m.k h).f.A (ownHm m.k h).f.n (ownHm m.k h).f.c] w fun e w'=>e=.returned (.bool (sameRc m))∧Below w.heap.size w w':=by
 have hn:=Nat.le_trans c.f.1 c.f.2
 unfold sameRc
 by_cases e:m.k=9
 · rw[show (ownHm m.k h).f=h.f by unfold ownHm;simp[e],decide_eq_true e]
   exact recsS_any h.f.A h.f.A h.f.n h.f.n h.f.c h.f.c m.rc w i.rc i.rc hn hn
 · unfold kindM at hk
   rw[decide_eq_true_eq]at hk
   have hc:m.k=1∨m.k=2∨m.k=3∨m.k=4∨m.k=5∨m.k=6∨m.k=7∨m.k=8∨m.k=10∨m.k=11∨m.k=12∨m.k=13∨m.k=14:=by omega
   rw[show (ownHm m.k h).f=Hd.nil by rcases hc with q|q|q|q|q|q|q|q|q|q|q|q|q<;>(unfold ownHm;simp[q]),decide_eq_false e,i.rc.1]
   exact(recs_nil h.f.A h.f.n h.f.c w).mono fun _ _ ⟨a,b⟩=>⟨a,b▸Below.refl _ _⟩
theorem stOwn_any (m:Mg) (h:Hm) (w:World) (i:MgLo w w.heap.size m h) (c:h.caps) (hk:kindM m.k=true):
 Calls Tryz.prog 40 #[.agg (m.st.arr (.slice h.g.A h.g.n h.g.c) (.slice h.i.A h.i.n h.i.c)),.agg ((ownM m).st.arr (.slice (ownHm m.k h).g.A (ownHm m.k h).g.n (ownHm m.k h).g.c) (.slice (ownHm m.k h).i.A (ownHm m.k h).i.n (ownHm m.k h).i.c))] w fun e w'=>e=.returned (.bool (sameSt m))∧Below w.heap.size w w':=by
 unfold sameSt
 by_cases e:m.k=10
 · rw[show (ownM m).st=m.st by unfold ownM;simp[e],show (ownHm m.k h).g=h.g by unfold ownHm;simp[e],show (ownHm m.k h).i=h.i by unfold ownHm;simp[e],decide_eq_true e]
   exact state_same m.st h.g.A h.i.A h.g.A h.i.A h.g.n h.i.n h.g.n h.i.n h.g.c h.i.c h.g.c h.i.c w i.hs i.pn i.hs i.pn (Nat.le_trans c.g.1 c.g.2) (Nat.le_trans c.i.1 c.i.2)
 · unfold kindM at hk
   rw[decide_eq_true_eq]at hk
   have hc:m.k=1∨m.k=2∨m.k=3∨m.k=4∨m.k=5∨m.k=6∨m.k=7∨m.k=8∨m.k=9∨m.k=11∨m.k=12∨m.k=13∨m.k=14:=by omega
   rw[show (ownM m).st=zeroS by rcases hc with q|q|q|q|q|q|q|q|q|q|q|q|q<;>(unfold ownM;simp[q]),show (ownHm m.k h).g=Hd.nil by rcases hc with q|q|q|q|q|q|q|q|q|q|q|q|q<;>(unfold ownHm;simp[q]),show (ownHm m.k h).i=Hd.nil by rcases hc with q|q|q|q|q|q|q|q|q|q|q|q|q<;>(unfold ownHm;simp[q]),decide_eq_false e]
   exact stateZ_any m.st h.g.A h.i.A h.g.n h.i.n h.g.c h.i.c w i.hs.1 i.pn.1
theorem sns_self (l:List Sn):sameL Sn.same l l=true:=sameL_self (fun a=>by unfold Sn.same;simp[Vl.same_self]) l
theorem rgs_self (l:List Rg):sameL Rg.same l l=true:=sameL_self (fun a=>by unfold Rg.same;simp) l
theorem wipe_ownM (m:Mg) (hk:kindM m.k=true):(wipeM m).zeroB=m.sameB (ownM m) (sameRc m) (sameSt m):=by
 unfold kindM at hk
 rw[decide_eq_true_eq]at hk
 have hc:m.k=1∨m.k=2∨m.k=3∨m.k=4∨m.k=5∨m.k=6∨m.k=7∨m.k=8∨m.k=9∨m.k=10∨m.k=11∨m.k=12∨m.k=13∨m.k=14:=by omega
 rcases hc with e|e|e|e|e|e|e|e|e|e|e|e|e|e
 all_goals
  unfold wipeM ownM
  simp only[e]
  rw[Bool.eq_iff_iff]
  simp[e,Mg.zeroB,Mg.flatB,Mg.noneB,Mg.sameB,Mg.headS,Mg.restS,Mg.listsS,sameRc,sameSt,sp_zero,keys_self,nums_self,wts_self,sns_self,rgs_self,sameL_nil,zeroS_zero,zeroSp,and_assoc,and_comm,and_left_comm]
theorem rmay_msg (m:Mg) (h:Hm) (w:World) (ok:m.ok) (i:MgLo w w.heap.size m h) (cp:h.caps) (sm:MgSm m h) (pl:∀r∈m.rc,RcPl r):
 Calls Tryz.prog 12 #[.agg (m.vals h)] w fun e w'=>e=.returned (.int .i64 (mayM m))∧Below w.heap.size w w':=by
 have hX:Below w.heap.size w (w.alloc (.cells (m.vals h) 41)):=by go_grown
 have B0:Blk (w.alloc (.cells (m.vals h) 41)) w.heap.size 41 (m.vals h):=Blk.new _ _ _
 cases hk:kindM m.k
 · have HV:=Lib.hid (show mayM m=7 by unfold mayM;rw[hk];rfl)
   unfold kindM at hk
   rw[decide_eq_false_iff_not]at hk
   have hz:¬(1≤m.k∧m.k≤14):=hk
   clear hk ok i sm cp pl
   by_cases h1:m.k<1
   · clear hz
     go_enter Tryz.func12,Tryz.ntmps12
     go_wp2
     go_ret
     exact⟨ret_int HV.out.symm,hX⟩
   · have h2:14<m.k:=by omega
     clear hz
     go_enter Tryz.func12,Tryz.ntmps12
     go_wp2
     go_ret
     exact⟨ret_int HV.out.symm,hX⟩
 · have hO:=fun w'=>mown_any m h w' hk
   have hR:=fun w' (hb:Below w.heap.size w w')=>msg_any m (ownM m) h (ownHm m.k h) (sameRc m) (sameSt m) w' (i.up hb) (i.up hb).own cp (own_caps cp) (fun w'' hb2=>recsOwn_any m h w'' ((i.up hb).up hb2) cp hk) (fun w'' hb2=>stOwn_any m h w'' ((i.up hb).up hb2) cp hk)
   have hG:=fun w' (hb:Below w.heap.size w w')=>mgood_any m h w' hk ok (i.up hb) sm pl
   have hN1:=fun w=>rnode_any m.fr w
   have hN2:=fun w=>rnode_any m.ton w
   have HV:=Lib.hid (show mayM m=(if (nodeB m.fr&&nodeB m.ton&&m.sameB (ownM m) (sameRc m) (sameSt m)&&goodM m)=false then 4 else 0) by unfold mayM;rw[hk,wipe_ownM m hk,fields_goodM m hk];rfl)
   unfold kindM at hk
   rw[decide_eq_true_eq]at hk
   have h1:¬(m.k<1):=by omega
   have h2:¬(14<m.k):=by omega
   clear hk ok i sm cp pl
   generalize m.sameB (ownM m) (sameRc m) (sameSt m)=bs at*
   generalize goodM m=bg at*
   generalize ownM m=q at*
   generalize ownHm m.k h=g at*
   generalize nodeB m.fr=n1 at*
   generalize nodeB m.ton=n2 at*
   have x1:=cl (B0.cell 1)
   have x2:=cl (B0.cell 2)
   go_enter Tryz.func12,Tryz.ntmps12
   go_upto_region 3 with fail
   generalize (w.alloc (.cells (m.vals h) 41))=X at*
   cases n1
   rotate_left
   cases n2
   rotate_left
   cases bs
   rotate_left
   cases bg
   all_goals
    refine wp_region_held_drew (S:=fun W'=>Below X.heap.size X W') (by kernel_rfl) (Below.refl _ _).drew (fun hHeld=>?_)
    have s0:Below X.heap.size X X.drew:=(Below.refl _ _).drew
    refine tc 0 11 ?_
    go_frame
    refine ts 1 12 rfl (fun W hw=>by have y:=(hw.cell (p:=⟨w.heap.size,1,none⟩) B0.lt).trans x1;go_simp;try with_reducible rfl) ?_
    go_frame
    refine tr 2 rfl (fun K hK=>?_)
    go_simp
    (with_reducible refine(hN1 _).mono ?_)
    rintro e w1 ⟨rfl,hb2⟩
    subst hb2
    refine hK.out _ _ s0 (fun hHeld=>?_)
    clear hK K
    try go_frame
    refine tc 3 14 ?_
    go_frame
    refine tc 4 15 ?_
    go_frame
    (first|refine tw 5 16 15 false ?_|refine tc 5 16 ?_)
    go_frame
    (first|refine tw 6 17 15 false ?_|refine ts 6 17 rfl (fun W hw=>by have y:=(hw.cell (p:=⟨w.heap.size,2,none⟩) B0.lt).trans x2;go_simp;try with_reducible rfl) ?_)
    go_frame
    first
        |(refine tw 7 18 15 false ?_
          go_frame)
        |(refine tr 7 rfl (fun K hK=>?_)
          go_simp
          (with_reducible refine(hN2 _).mono ?_)
          rintro e w2 ⟨rfl,hb7⟩
          subst hb7
          refine hK.out _ _ s0 (fun hHeld=>?_)
          clear hK K
          try go_frame)
    (first|refine tw 8 19 15 false ?_|refine tc 8 19 ?_)
    go_frame
    refine tc 9 20 ?_
    go_frame
    refine tc 10 21 ?_
    go_frame
    (first|refine tw 11 22 21 false ?_|refine tl 11 22 rfl (yieldsIf_load_blk (by kernel_rfl) _ _ rfl w.heap.size rfl _ _ _ (fun _ hw=>B0.below hw B0.lt) rfl rfl (by kernel_rfl)) ?_)
    go_frame
    (first|refine tw 12 23 21 false ?_|refine tl 12 23 rfl (yieldsIf_load_blk (by kernel_rfl) _ _ rfl w.heap.size rfl _ _ _ (fun _ hw=>B0.below hw B0.lt) rfl rfl (by kernel_rfl)) ?_)
    go_frame
    first
        |(refine tw 13 24 21 false ?_
          go_frame)
        |(refine tr 13 rfl (fun K hK=>?_)
          go_simp
          (with_reducible refine(hO _).mono ?_)
          rintro e w3 ⟨rfl,hb13⟩
          replace s0:=s0.trans (hb13.mono s0.size)
          refine hK.out _ _ s0 (fun hHeld=>?_)
          clear hK K
          try go_frame)
    first
        |(refine tw 14 25 21 false ?_
          go_frame)
        |(refine tr 14 rfl (fun K hK=>?_)
          go_simp
          (with_reducible refine(hR _ (hX.trans (s0.mono hX.size))).mono ?_)
          rintro e w4 ⟨rfl,hb14⟩
          replace s0:=s0.trans (hb14.mono s0.size)
          refine hK.out _ _ s0 (fun hHeld=>?_)
          clear hK K
          try go_frame)
    (first|refine tw 15 26 21 false ?_|refine tc 15 26 ?_)
    go_frame
    refine tc 16 27 ?_
    go_frame
    refine tc 17 28 ?_
    go_frame
    (first|refine tw 18 29 28 false ?_|refine tl 18 29 rfl (yieldsIf_load_blk (by kernel_rfl) _ _ rfl w.heap.size rfl _ _ _ (fun _ hw=>B0.below hw B0.lt) rfl rfl (by kernel_rfl)) ?_)
    go_frame
    first
        |(refine tw 19 30 28 false ?_
          go_frame)
        |(refine tr 19 rfl (fun K hK=>?_)
          go_simp
          (with_reducible refine(hG _ (hX.trans (s0.mono hX.size))).mono ?_)
          rintro e w5 ⟨rfl,hb19⟩
          replace s0:=s0.trans (hb19.mono s0.size)
          refine hK.out _ _ s0 (fun hHeld=>?_)
          clear hK K
          try go_frame)
    (first|refine tw 20 31 28 false ?_|refine tc 20 31 ?_)
    go_frame
    refine tc 21 32 ?_
    go_frame
    refine td ?_
    go_wp2
    go_ret
    exact⟨ret_int (by rw[HV.out];rfl),hX.trans (s0.mono hX.size)⟩
end Go.Proofs.YtcalkfgibflbnaaGreat
