/- What the chapter's examples fix: the law's first. -/
import Derived.Test.YtcalkfgibflbnaaGreatKace
import Derived.Test.YtcalkfgibflbnaaGreatKadc
import Derived.Test.YtcalkfgibflbnaaGreatKadi
import Derived.Test.YtcalkfgibflbnaaGreatKaeg
import Derived.Test.YtcalkfgibflbnaaGreatKafa
import Derived.Test.YtcalkfgibflbnaaGreatKafc
namespace Go.Proofs.YtcalkfgibflbnaaGreat
set_option linter.unusedVariables false
open Go.RowKit Fl
attribute [local go_sem] run_store_float
theorem lit4 (w:World):Reads (w.alloc (.cells #[.int .u8 22,.int .u8 4,.int .u8 2,.int .u8 4] 5)) (w.alloc (.cells #[.int .u8 22,.int .u8 4,.int .u8 2,.int .u8 4] 5)).heap.size 1 (some ⟨w.heap.size,0,none⟩) 4 (bytesV [22,4,2,4]):=
 Reads.of_own (World.ownsRow_lit w #[.int .u8 22,.int .u8 4,.int .u8 2,.int .u8 4] 4 (Nat.le_refl _) (by unfold maxLen;omega) rfl)
theorem lit2 (w:World):Reads (w.alloc (.cells #[.int .u8 26,.int .u8 62] 5)) (w.alloc (.cells #[.int .u8 26,.int .u8 62] 5)).heap.size 1 (some ⟨w.heap.size,0,none⟩) 2 (bytesV [26,62]):=
 Reads.of_own (World.ownsRow_lit w #[.int .u8 26,.int .u8 62] 2 (Nat.le_refl _) (by unfold maxLen;omega) rfl)
set_option maxRecDepth 100000 in
set_option maxHeartbeats 4000000 in
theorem first_any (w:World):Calls Tryz.prog 8 #[] w fun e w'=>e=.returned (.bool true)∧Below w.heap.size w w':=by
 have hN:=fun W=>mencode_of (mgZ 13 31 32 0) hmZ W [26,62,64] (mgZ_ok (by unfold i64ok;omega) (by unfold i64ok;omega) (by unfold i64ok;omega) (by unfold i64ok;omega)) (mgZ_lo W _ 13 31 32 0) (mgZ_sm 13 31 32 0) (fun r hr=>by cases hr) (fun _=>walkM_13 31 32 (by unfold i64ok;omega) (by unfold i64ok;omega) (by kernel_rfl)) (by simp)
 rw[show mencOut (mgZ 13 31 32 0) [26,62,64]=[26,62,64] from by kernel_rfl,show mencE (mgZ 13 31 32 0) [26,62,64]=0 from by kernel_rfl]at hN
 have n1:=fun W=>mnode_any 22 W
 have n2:=fun W=>mnode_any 23 W
 rw[show nodeB 22=true from by kernel_rfl]at n1
 rw[show nodeB 23=false from by kernel_rfl]at n2
 go_enter Tryz.func8,Tryz.ntmps8
 go_wp2_with fail
 refine(hN _).mono ?_
 rintro e w1 ⟨A1,c1,rfl,hq1,hm1,hown1,hb1⟩
 have hR1:Reads w1 w1.heap.size 1 A1 3 (bytesV [26,62,64]):=Reads.of_own hown1
 have hXa:Below w1.heap.size w1 (w1.alloc (.cells #[.int .u8 22,.int .u8 4,.int .u8 2,.int .u8 4] 5)):=by go_grown
 clear hown1 hN
 go_wp2_with fail
 refine(decode_a _ 4 _ (lit4 w1)).mono ?_
 rintro e w2 ⟨rfl,hb2⟩
 have hB2:=hXa.trans (hb2.mono hXa.size)
 clear hXa hb2
 obtain⟨cs,hcs⟩:∃cs:Array Value,cs=(mgZ 11 2 1 2).vals hmZ:=⟨_,rfl⟩
 rw[←hcs]
 have hsz:(Tryz.prog.info? 41).map (·.size)=some cs.size:=by rw[hcs];kernel_rfl
 have hs2:zM.size=cs.size:=by rw[hcs];kernel_rfl
 have hone:cs.all (·.oneCell')=true:=by rw[hcs];kernel_rfl
 have HC:=Lib.hid hcs
 clear hcs
 have HZ:=Lib.hid hsz
 have HS:=Lib.hid hs2
 clear hsz hs2
 go_wp2_with (guard_target=~ wpList _ _ _ _ _ _;refine wpList_store_at rfl 41 _ _ rfl w2.heap.size cs rfl rfl rfl _ _ HZ.out HS.out hone ?_)
 have hRb:Reads ((w2.alloc (.cells cs 41)).alloc (.cells #[.int .u8 26,.int .u8 62] 5)) ((w2.alloc (.cells cs 41)).alloc (.cells #[.int .u8 26,.int .u8 62] 5)).heap.size 1 (some ⟨w2.heap.size+1,0,none⟩) 2 (bytesV [26,62]):=by
  have h3:=lit2 (w2.alloc (.cells cs 41))
  rw[show (w2.alloc (.cells cs 41)).heap.size=w2.heap.size+1 from World.size_alloc _ _]at h3
  exact h3
 have B2:Blk ((w2.alloc (.cells cs 41)).alloc (.cells #[.int .u8 26,.int .u8 62] 5)) w2.heap.size 41 cs:=(Blk.new _ _ _).alloc _
 have hXb:Below w2.heap.size w2 ((w2.alloc (.cells cs 41)).alloc (.cells #[.int .u8 26,.int .u8 62] 5)):=by go_grown
 refine(decode_b _ 2 _ hRb).mono ?_
 rintro e w3 ⟨rfl,hb3⟩
 obtain⟨ds,hds⟩:∃ds:Array Value,ds=(mgZ 0 0 0 0).vals hmZ:=⟨_,rfl⟩
 rw[←hds]
 have hone2:ds.all (·.oneCell')=true:=by rw[hds];kernel_rfl
 have HZ2:=Lib.hid (show (Tryz.prog.info? 41).map (·.size)=some ds.size by rw[hds];kernel_rfl)
 have HS2:=Lib.hid (show zM.size=ds.size by rw[hds])
 clear hds
 have B3:=B2.below hb3 B2.lt
 have hB3:=hXb.trans (hb3.mono hXb.size)
 clear hRb B2 hXb hb3
 have hB13:=hB2.trans (hB3.mono hB2.size)
 have hR3:=(hR1.below hB13).more hB13.size
 have B4:=B3.alloc (.cells ds 41)
 have hX4:Below w3.heap.size w3 (w3.alloc (.cells ds 41)):=by go_grown
 have hR4:=(hR3.below hX4).more hX4.size
 have hcv:∀c1:Nat,(convert 49 9 (.slice A1 3 c1)).run Tryz.prog (w3.alloc (.cells ds 41))=.ok (.string ⟨#[26,62,64]⟩) (w3.alloc (.cells ds 41)):=fun c1=>run_conv_reads (P:=Tryz.prog) (w3.alloc (.cells ds 41)) 49 9 5 Tryz.underlying49 Tryz.underlying5 Tryz.underlying9 (c:=c1) hR4
 have z0:(w3.alloc (.cells ds 41)).cell? ⟨w2.heap.size,0,none⟩=some (.int .i64 11):=by have h:=(B4.cell 0);rw[HC.out]at h;exact h
 have z1:(w3.alloc (.cells ds 41)).cell? ⟨w2.heap.size,1,none⟩=some (.int .i64 2):=by have h:=(B4.cell 1);rw[HC.out]at h;exact h
 have z2:(w3.alloc (.cells ds 41)).cell? ⟨w2.heap.size,2,none⟩=some (.int .i64 1):=by have h:=(B4.cell 2);rw[HC.out]at h;exact h
 have z3:(w3.alloc (.cells ds 41)).cell? ⟨w2.heap.size,6,none⟩=some (.int .i64 2):=by have h:=(B4.cell 6);rw[HC.out]at h;exact h
 go_wp2_with (first
  |(guard_target=~ wpList _ _ _ _ _ _;refine wpList_store_at rfl 41 _ _ rfl w3.heap.size ds rfl rfl rfl _ _ HZ2.out HS2.out hone2 ?_)
  |((with_reducible refine(n1 _).mono ?_);rintro e v1 ⟨rfl,rfl⟩)
  |((with_reducible refine(n2 _).mono ?_);rintro e v2 ⟨rfl,rfl⟩))
 go_ret
 have hB4:=hB3.trans (hX4.mono hB3.size)
 have hB6:=hB2.trans (hB4.mono hB2.size)
 exact⟨rfl,hb1.trans (hB6.mono hb1.size)⟩
end Go.Proofs.YtcalkfgibflbnaaGreat
/- The walk of MsgsKinds. -/
namespace Go.Proofs.YtcalkfgibflbnaaGreat
set_option linter.unusedVariables false
open Go.RowKit Fl
attribute [local go_sem] run_store_float
theorem msg_self (m:Mg):m.sameB m true true=true:=by
 unfold Mg.sameB Mg.headS Mg.restS Mg.listsS
 have h1:(m.cm==m.cm)=true:=by cases m.cm<;>rfl
 simp[keys_self,nums_self,wts_self,sns_self,rgs_self]
theorem msgSelf_any (m:Mg) (g h:Hm) (w:World) (i:MgLo w w.heap.size m g) (j:MgLo w w.heap.size m h) (cg:g.caps) (ch:h.caps):Calls Tryz.prog 15 #[.agg (m.vals g),.agg (m.vals h)] w fun e w'=>e=.returned (.bool true)∧Below w.heap.size w w':=by
 have hM:=msg_any m m g h true true w i j cg ch (fun w' hb=>recsS_any g.f.A h.f.A g.f.n h.f.n g.f.c h.f.c m.rc w' (i.up hb).rc (j.up hb).rc (Nat.le_trans cg.f.1 cg.f.2) (Nat.le_trans ch.f.1 ch.f.2))
  (fun w' hb=>state_same m.st g.g.A g.i.A h.g.A h.i.A g.g.n g.i.n h.g.n h.i.n g.g.c g.i.c h.g.c h.i.c w' (i.up hb).hs (i.up hb).pn (j.up hb).hs (j.up hb).pn (Nat.le_trans cg.g.1 cg.g.2) (Nat.le_trans cg.i.1 cg.i.2))
 rw[msg_self]at hM
 exact hM
end Go.Proofs.YtcalkfgibflbnaaGreat
/- Plain: a message that weighs no more than 20000 has few bytes. The walk of MsgsEncodes. -/
namespace Go.Proofs.YtcalkfgibflbnaaGreat
set_option linter.unusedVariables false
open Go.RowKit Fl
attribute [local go_sem] run_store_float
theorem ones {α:Type} (l:List α):(l.map fun _=>(1:Int)).sum=(l.length:Int):=by
 induction l with
 |nil=>rfl
 |cons a l ih=>simp only[List.map_cons,List.sum_cons,List.length_cons,ih];omega
theorem lsLen {α:Type} {f:α→List UInt8} {l:List α} {b:Int} (h:((l.flatMap f).length:Int)≤b) (hl:l.length≤20000):((encLs f l).length:Int)≤10+b:=by
 have:=lenN (n:=l.length) (by omega)
 unfold encLs
 rw[List.length_append]
 omega
theorem msg_len {w:World} {m:Mg} {h:Hm} (ok:m.ok) (i:MgLo w w.heap.size m h) (hw:weighMsg 20000 m≤20000):(encMg m).length+10≤1000000000000:=by
 obtain⟨a,b,c,d,e,f,g,s,ha,hb,hc⟩:=msg_gain m hw
 obtain⟨sm,pl⟩:=msg_small i hw
 obtain⟨hSt,-,-⟩:=lenSt ok.sr ok.sf ok.sc i.hs i.pn s
 have hSg:=weighS_gain (by omega) m.st s
 have ga:=weighT_gain (most:=20000) (by omega) m.ks ha
 have gb:=weighW_gain (most:=20000) (by omega) (m.sn.map Sn.wt) 0 (by omega) hb
 have gc:=weighW_gain (most:=20000) (by omega) m.ws 0 (by omega) hc
 rw[List.map_map]at gb
 have f1:=lsLen (flat_leC encKy wtT 10 m.ks fun a ha=>by obtain⟨_,_,hok⟩:=i.ks.mem ha;exact lenKy hok) a
 have f2:=lsLen (flat_leC encSn (wtW∘Sn.wt) 60 m.sn fun a ha=>by
  obtain⟨_,_,hk,hv,hs⟩:=i.sn.mem ha
  have h1:=lenKy hk
  have h2:=lenVl hv
  have h3:=lenSp hs
  have h4:wtT a.key≤wtW (Sn.wt a):=by simp only[wtW,wtT,Sn.wt];omega
  have h5:(a.v.t.size:Int)+1≤wtW (Sn.wt a):=by simp only[wtW,Sn.wt];omega
  have h6:(encSn a).length=(encKy a.key).length+((encVl a.v).length+(encSp a.s).length):=by unfold encSn;simp only[List.length_append]
  show _≤60*wtW (Sn.wt a)
  omega) b
 have f3:=lsLen (flat_leC encWt wtW 30 m.ws fun a ha=>by obtain⟨_,_,hok⟩:=i.ws.mem ha;exact lenWt hok) c
 have f4:=lsLen (flat_leC encI (fun _=>1) 10 m.ps fun a ha=>by
  obtain⟨_,_,hok⟩:=i.ps.mem ha
  have:=encI_len hok.1 hok.2
  omega) d
 have f5:=lsLen (flat_leC encRg (fun _=>1) 36 m.rs fun a ha=>by
  obtain⟨_,_,h1,h2,h3,h4⟩:=i.rs.mem ha
  have e1:=encI_len h1.1 h1.2
  have e2:=encI_len h2.1 h2.2
  have e3:(encF64 a.lo).length=8:=leW_len 8 _
  have e4:(encF64 a.hi).length=8:=leW_len 8 _
  unfold encRg
  simp only[List.length_append]
  omega) e
 have f6:=lsLen (flat_leC encRm (fun _=>1) 2000010 m.rc fun a ha=>by
  have h1:=(pl a ha).e
  have h2:(encOut a).length≤2000000:=by
   unfold encOut
   split
   · exact h1
   · exact Nat.zero_le _
  have h3:=lenN (n:=(encOut a).length) (by omega)
  unfold encRm encT
  rw[List.length_append]
  omega) f
 rw[ones]at f4 f5 f6
 have e0:=encI_len ok.k.1 ok.k.2
 have e1:=encI_len ok.fr.1 ok.fr.2
 have e2:=encI_len ok.ton.1 ok.ton.2
 have e3:=encI_len ok.rg.1 ok.rg.2
 have e4:=encI_len ok.ep.1 ok.ep.2
 have e5:=encI_len ok.cd.1 ok.cd.2
 have e6:=encI_len ok.n.1 ok.n.2
 have e7:=encI_len ok.mx.1 ok.mx.2
 have e8:=lenSp ok.s
 have e9:=lenSp ok.pv
 have e10:=lenTx ok.t
 have e11:(encB m.cm).length=1:=by cases m.cm<;>rfl
 have hD:(encDeal m).length≤90000000000:=by
  unfold encDeal
  repeat' split
  all_goals try simp only[List.length_append,List.length_nil]
  all_goals omega
 have hM:(encMb m).length≤95000000000:=by
  unfold encMb
  repeat' split
  all_goals try simp only[List.length_append,List.length_nil]
  all_goals omega
 unfold encMg
 simp only[List.length_append]
 omega
set_option maxRecDepth 100000 in
set_option maxHeartbeats 8000000 in
theorem mencodes_any (m:Mg) (h:Hm) (w:World) (ok:m.ok) (i:MgLo w w.heap.size m h) (cp:h.caps):
 Calls Tryz.prog 4 #[.agg (m.vals h)] w fun e w'=>e=.returned (.bool true)∧Below w.heap.size w w':=by
 have hX:Below w.heap.size w (w.alloc (.cells (m.vals h) 41)):=by go_grown
 have B0:Blk (w.alloc (.cells (m.vals h) 41)) w.heap.size 41 (m.vals h):=Blk.new _ _ _
 go_enter Tryz.func4,Tryz.ntmps4
 go_wp2_with fail
 refine(first_any _).mono ?_
 rintro e w1 ⟨rfl,hb1⟩
 have B1:=B0.below hb1 B0.lt
 have hX1:=hX.trans (hb1.mono hX.size)
 clear B0 hb1 hX
 go_wp2_with (guard_target=~ wpList _ _ _ _ _ _;refine wpList_load_row rfl 41 _ rfl w.heap.size (by kernel_rfl) _ _ (0,0) _ B1 rfl rfl (by kernel_rfl) ?_)
 refine(few_any m h w1 (i.up hX1) cp).mono ?_
 rintro e w2 ⟨rfl,hb2⟩
 have B2:=B1.below hb2 B1.lt
 have hX2:=hX1.trans (hb2.mono hX1.size)
 clear B1 hb2 hX1
 by_cases hw:weighMsg 20000 m≤20000
 · have hd:decide (weighMsg 20000 m≤20000)=true:=decide_eq_true hw
   obtain⟨sm,pl⟩:=msg_small i hw
   have hlen:=msg_len ok i hw
   rw[hd]
   clear hd hw
   go_wp2_with (guard_target=~ wpList _ _ _ _ _ _;refine wpList_load_row rfl 41 _ rfl w.heap.size (by kernel_rfl) _ _ (0,0) _ B2 rfl rfl (by kernel_rfl) ?_)
   refine(copyMsg_any m h w2 (i.up hX2) sm pl).mono ?_
   rintro e w3 ⟨⟨g,rfl,cg,ig⟩,hb3⟩
   have B5:=(B2.below hb3 B2.lt).alloc (.cells (m.vals g) 41)
   have hX3:=hX2.trans (hb3.mono hX2.size)
   have hA3:Below w3.heap.size w3 (w3.alloc (.cells (m.vals g) 41)):=by go_grown
   have C5:Blk (w3.alloc (.cells (m.vals g) 41)) w3.heap.size 41 (m.vals g):=Blk.new _ _ _
   have hX5:=hX3.trans (hA3.mono hX3.size)
   have ig5:=ig.up hA3
   have smg:MgSm m g:=⟨by rw[←ig.ks.1,i.ks.1];exact sm.a,by rw[←ig.sn.1,i.sn.1];exact sm.b,by rw[←ig.ws.1,i.ws.1];exact sm.c,by rw[←ig.ps.1,i.ps.1];exact sm.d,by rw[←ig.rs.1,i.rs.1];exact sm.e,by rw[←ig.rc.1,i.rc.1];exact sm.f,sm.hs,sm.pn⟩
   replace hlen:=Lib.hid hlen
   clear B2 hX2 hb3 hX3 hA3 ig
   go_upto_region 6 with (guard_target=~ wpList _ _ _ _ _ _;refine wpList_store_at rfl 41 _ _ rfl w3.heap.size (m.vals g) (by kernel_rfl) (by kernel_rfl) rfl _ _ (by kernel_rfl) (by kernel_rfl) (by kernel_rfl) ?_)
   generalize (w3.alloc (.cells (m.vals g) 41))=w5 at*
   go_wp2_with (guard_target=~ wpList _ _ _ _ _ _;refine wpList_load_row rfl 41 _ rfl w3.heap.size (by kernel_rfl) _ _ (0,0) _ C5 rfl rfl (by kernel_rfl) ?_)
   refine(mencode_any m g w5 ok ig5 cg smg pl hlen.out).mono ?_
   rintro e w6 ⟨A6,c6,rfl,q6,m6,o6,hb6⟩
   have B6:=B5.below hb6 B5.lt
   have C6:=C5.below hb6 C5.lt
   have hX6:=hX5.trans (hb6.mono hX5.size)
   have ig6:=ig5.up hb6
   have R6:Reads w6 w6.heap.size 1 A6 (mencOut m (encMg m)).length (bytesV (mencOut m (encMg m))):=Reads.of_own o6
   clear B5 C5 hX5 hb6 ig5 o6
   go_wp2_with (guard_target=~ wpList _ _ _ _ _ _;refine wpList_load_row rfl 41 _ rfl w.heap.size (by kernel_rfl) _ _ (0,0) _ B6 rfl rfl (by kernel_rfl) ?_)
   refine(mxEncode m h w6 ok (i.up hX6) cp sm pl hlen.out).mono ?_
   rintro e w7 ⟨A7,c7,rfl,q7,m7,o7,hb7⟩
   have B7:=B6.below hb7 B6.lt
   have C7:=C6.below hb7 C6.lt
   have hX7:=hX6.trans (hb7.mono hX6.size)
   have ig7:=ig6.up hb7
   have R7:=(R6.below hb7).more hb7.size
   have S7:Reads w7 w7.heap.size 1 A7 (mencOut m (encMg m)).length (bytesV (mencOut m (encMg m))):=Reads.of_own o7
   clear B6 C6 hX6 hb7 ig6 R6 o7
   go_wp2_with fail
   refine(first_any _).mono ?_
   rintro e w8 ⟨rfl,hb8⟩
   have B8:=B7.below hb8 B7.lt
   have C8:=C7.below hb8 C7.lt
   have hX8:=hX7.trans (hb8.mono hX7.size)
   have ig8:=ig7.up hb8
   have R8:=(R7.below hb8).more hb8.size
   have S8:=(S7.below hb8).more hb8.size
   clear B7 C7 hX7 hb8 ig7 R7 S7
   have hEq:=sbytes w8 (c:=c6) (c':=c7) R8 S8
   rw[show (mencOut m (encMg m)==mencOut m (encMg m))=true from by simp]at hEq
   have hee:(mencE m (encMg m)==mencE m (encMg m))=true:=by simp
   generalize mencE m (encMg m)=er at*
   go_wp2_with fail
   refine hEq.mono ?_
   rintro e w9 ⟨rfl,rfl⟩
   go_wp2_with (first
    |(guard_target=~ wpList _ _ _ _ _ _;refine wpList_load_row_g (by kernel_rfl) 41 (.tmp 3) rfl w3.heap.size (by kernel_rfl) _ _ (0,0) _ C8 rfl rfl (by kernel_rfl) ?_)
    |(guard_target=~ wpList _ _ _ _ _ _;refine wpList_load_row_g (by kernel_rfl) 41 (.tmp 1) rfl w.heap.size (by kernel_rfl) _ _ (0,0) _ B8 rfl rfl (by kernel_rfl) ?_))
   refine(msgSelf_any m g h w8 ig8 (i.up hX8) cg cp).mono ?_
   rintro e w10 ⟨rfl,hb10⟩
   go_wp2
   go_ret
   exact⟨rfl,hX8.trans (hb10.mono hX8.size)⟩
 · have hd:decide (weighMsg 20000 m≤20000)=false:=decide_eq_false hw
   rw[hd]
   clear hd hw
   go_wp2_with fail
   refine(first_any _).mono ?_
   rintro e w3 ⟨rfl,hb3⟩
   go_wp2
   go_ret
   exact⟨rfl,hX2.trans (hb3.mono hX2.size)⟩
end Go.Proofs.YtcalkfgibflbnaaGreat
