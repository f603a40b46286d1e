/- What the chapter's examples fix: the law's first. -/
import Derived.Test.YtcalkfgibflbnaaGreatKacg
import Derived.Test.YtcalkfgibflbnaaGreatKadb
import Derived.Test.YtcalkfgibflbnaaGreatKaec
import Derived.Test.YtcalkfgibflbnaaGreatKaei
import Derived.Test.YtcalkfgibflbnaaGreatKaej
import Derived.Test.YtcalkfgibflbnaaGreatKafb
namespace Go.Proofs.YtcalkfgibflbnaaGreat
set_option linter.unusedVariables false
open Go.RowKit Fl
attribute [local go_sem] run_store_float
theorem lit4 (w:World):Reads (w.alloc (.cells #[.int .u8 22,.int .u8 4,.int .u8 2,.int .u8 4] 5)) (w.alloc (.cells #[.int .u8 22,.int .u8 4,.int .u8 2,.int .u8 4] 5)).heap.size 1 (some ⟨w.heap.size,0,none⟩) 4 (bytesV [22,4,2,4]):=
 Reads.of_own (World.ownsRow_lit w #[.int .u8 22,.int .u8 4,.int .u8 2,.int .u8 4] 4 (Nat.le_refl _) (by unfold maxLen;omega) rfl)
theorem lit2 (w:World):Reads (w.alloc (.cells #[.int .u8 26,.int .u8 62] 5)) (w.alloc (.cells #[.int .u8 26,.int .u8 62] 5)).heap.size 1 (some ⟨w.heap.size,0,none⟩) 2 (bytesV [26,62]):=
 Reads.of_own (World.ownsRow_lit w #[.int .u8 26,.int .u8 62] 2 (Nat.le_refl _) (by unfold maxLen;omega) rfl)
set_option maxRecDepth 100000 in
set_option maxHeartbeats 4000000 in
theorem first_any (w:World):Calls Tryz.prog 8 #[] w fun e w'=>e=.returned (.bool true)∧Below w.heap.size w w':=by
 have hN:=fun W=>mencode_of (mgZ 13 31 32 0) hmZ W [26,62,64] (mgZ_ok (by unfold i64ok;omega) (by unfold i64ok;omega) (by unfold i64ok;omega) (by unfold i64ok;omega)) (mgZ_lo W _ 13 31 32 0) (mgZ_sm 13 31 32 0) (fun r hr=>by cases hr) (fun _=>walkM_13 31 32 (by unfold i64ok;omega) (by unfold i64ok;omega) (by kernel_rfl)) (by simp)
 rw[show mencOut (mgZ 13 31 32 0) [26,62,64]=[26,62,64] from by kernel_rfl,show mencE (mgZ 13 31 32 0) [26,62,64]=0 from by kernel_rfl]at hN
 have n1:=fun W=>mnode_any 22 W
 have n2:=fun W=>mnode_any 23 W
 rw[show nodeB 22=true from by kernel_rfl]at n1
 rw[show nodeB 23=false from by kernel_rfl]at n2
 go_enter Tryz.func8,Tryz.ntmps8
 go_wp2_with fail
 refine(hN _).mono ?_
 rintro e w1 ⟨A1,c1,rfl,hq1,hm1,hown1,hb1⟩
 have hR1:Reads w1 w1.heap.size 1 A1 3 (bytesV [26,62,64]):=Reads.of_own hown1
 have hXa:Below w1.heap.size w1 (w1.alloc (.cells #[.int .u8 22,.int .u8 4,.int .u8 2,.int .u8 4] 5)):=by go_grown
 clear hown1 hN
 go_wp2_with fail
 refine(decode_a _ 4 _ (lit4 w1)).mono ?_
 rintro e w2 ⟨rfl,hb2⟩
 have hB2:=hXa.trans (hb2.mono hXa.size)
 clear hXa hb2
 obtain⟨cs,hcs⟩:∃cs:Array Value,cs=(mgZ 11 2 1 2).vals hmZ:=⟨_,rfl⟩
 rw[←hcs]
 have hsz:(Tryz.prog.info? 41).map (·.size)=some cs.size:=by rw[hcs];kernel_rfl
 have hs2:zM.size=cs.size:=by rw[hcs];kernel_rfl
 have hone:cs.all (·.oneCell')=true:=by rw[hcs];kernel_rfl
 have HC:=Lib.hid hcs
 clear hcs
 have HZ:=Lib.hid hsz
 have HS:=Lib.hid hs2
 clear hsz hs2
 go_wp2_with (guard_target=~ wpList _ _ _ _ _ _;refine wpList_store_at rfl 41 _ _ rfl w2.heap.size cs rfl rfl rfl _ _ HZ.out HS.out hone ?_)
 have hRb:Reads ((w2.alloc (.cells cs 41)).alloc (.cells #[.int .u8 26,.int .u8 62] 5)) ((w2.alloc (.cells cs 41)).alloc (.cells #[.int .u8 26,.int .u8 62] 5)).heap.size 1 (some ⟨w2.heap.size+1,0,none⟩) 2 (bytesV [26,62]):=by
  have h3:=lit2 (w2.alloc (.cells cs 41))
  rw[show (w2.alloc (.cells cs 41)).heap.size=w2.heap.size+1 from World.size_alloc _ _]at h3
  exact h3
 have B2:Blk ((w2.alloc (.cells cs 41)).alloc (.cells #[.int .u8 26,.int .u8 62] 5)) w2.heap.size 41 cs:=(Blk.new _ _ _).alloc _
 have hXb:Below w2.heap.size w2 ((w2.alloc (.cells cs 41)).alloc (.cells #[.int .u8 26,.int .u8 62] 5)):=by go_grown
 refine(decode_b _ 2 _ hRb).mono ?_
 rintro e w3 ⟨rfl,hb3⟩
 obtain⟨ds,hds⟩:∃ds:Array Value,ds=(mgZ 0 0 0 0).vals hmZ:=⟨_,rfl⟩
 rw[←hds]
 have hone2:ds.all (·.oneCell')=true:=by rw[hds];kernel_rfl
 have HZ2:=Lib.hid (show (Tryz.prog.info? 41).map (·.size)=some ds.size by rw[hds];kernel_rfl)
 have HS2:=Lib.hid (show zM.size=ds.size by rw[hds])
 clear hds
 have B3:=B2.below hb3 B2.lt
 have hB3:=hXb.trans (hb3.mono hXb.size)
 clear hRb B2 hXb hb3
 have hB13:=hB2.trans (hB3.mono hB2.size)
 have hR3:=(hR1.below hB13).more hB13.size
 have B4:=B3.alloc (.cells ds 41)
 have hX4:Below w3.heap.size w3 (w3.alloc (.cells ds 41)):=by go_grown
 have hR4:=(hR3.below hX4).more hX4.size
 have hcv:∀c1:Nat,(convert 49 9 (.slice A1 3 c1)).run Tryz.prog (w3.alloc (.cells ds 41))=.ok (.string ⟨#[26,62,64]⟩) (w3.alloc (.cells ds 41)):=fun c1=>run_conv_reads (P:=Tryz.prog) (w3.alloc (.cells ds 41)) 49 9 5 Tryz.underlying49 Tryz.underlying5 Tryz.underlying9 (c:=c1) hR4
 have z0:(w3.alloc (.cells ds 41)).cell? ⟨w2.heap.size,0,none⟩=some (.int .i64 11):=by have h:=(B4.cell 0);rw[HC.out]at h;exact h
 have z1:(w3.alloc (.cells ds 41)).cell? ⟨w2.heap.size,1,none⟩=some (.int .i64 2):=by have h:=(B4.cell 1);rw[HC.out]at h;exact h
 have z2:(w3.alloc (.cells ds 41)).cell? ⟨w2.heap.size,2,none⟩=some (.int .i64 1):=by have h:=(B4.cell 2);rw[HC.out]at h;exact h
 have z3:(w3.alloc (.cells ds 41)).cell? ⟨w2.heap.size,6,none⟩=some (.int .i64 2):=by have h:=(B4.cell 6);rw[HC.out]at h;exact h
 go_wp2_with (first
  |(guard_target=~ wpList _ _ _ _ _ _;refine wpList_store_at rfl 41 _ _ rfl w3.heap.size ds rfl rfl rfl _ _ HZ2.out HS2.out hone2 ?_)
  |((with_reducible refine(n1 _).mono ?_);rintro e v1 ⟨rfl,rfl⟩)
  |((with_reducible refine(n2 _).mono ?_);rintro e v2 ⟨rfl,rfl⟩))
 go_ret
 have hB4:=hB3.trans (hX4.mono hB3.size)
 have hB6:=hB2.trans (hB4.mono hB2.size)
 exact⟨rfl,hb1.trans (hB6.mono hb1.size)⟩
end Go.Proofs.YtcalkfgibflbnaaGreat
/- Plain: a message that weighs no more than 20000 has few bytes. The walk of MsgsEncodes. -/
namespace Go.Proofs.YtcalkfgibflbnaaGreat
set_option linter.unusedVariables false
open Go.RowKit Fl
attribute [local go_sem] run_store_float
theorem ones {α:Type} (l:List α):(l.map fun _=>(1:Int)).sum=(l.length:Int):=by
 induction l with
 |nil=>rfl
 |cons a l ih=>simp only[List.map_cons,List.sum_cons,List.length_cons,ih];omega
theorem lsLen {α:Type} {f:α→List UInt8} {l:List α} {b:Int} (h:((l.flatMap f).length:Int)≤b) (hl:l.length≤20000):((encLs f l).length:Int)≤10+b:=by
 have:=lenN (n:=l.length) (by omega)
 unfold encLs
 rw[List.length_append]
 omega
theorem msg_len {w:World} {m:Mg} {h:Hm} (ok:m.ok) (i:MgLo w w.heap.size m h) (hw:weighMsg 20000 m≤20000):(encMg m).length+10≤1000000000000:=by
 obtain⟨a,b,c,d,e,f,g,s,ha,hb,hc⟩:=msg_gain m hw
 obtain⟨sm,pl⟩:=msg_small i hw
 obtain⟨hSt,-,-⟩:=lenSt ok.sr ok.sf ok.sc i.hs i.pn s
 have hSg:=weighS_gain (by omega) m.st s
 have ga:=weighT_gain (most:=20000) (by omega) m.ks ha
 have gb:=weighW_gain (most:=20000) (by omega) (m.sn.map Sn.wt) 0 (by omega) hb
 have gc:=weighW_gain (most:=20000) (by omega) m.ws 0 (by omega) hc
 rw[List.map_map]at gb
 have f1:=lsLen (flat_leC encKy wtT 10 m.ks fun a ha=>by obtain⟨_,_,hok⟩:=i.ks.mem ha;exact lenKy hok) a
 have f2:=lsLen (flat_leC encSn (wtW∘Sn.wt) 60 m.sn fun a ha=>by
  obtain⟨_,_,hk,hv,hs⟩:=i.sn.mem ha
  have h1:=lenKy hk
  have h2:=lenVl hv
  have h3:=lenSp hs
  have h4:wtT a.key≤wtW (Sn.wt a):=by simp only[wtW,wtT,Sn.wt];omega
  have h5:(a.v.t.size:Int)+1≤wtW (Sn.wt a):=by simp only[wtW,Sn.wt];omega
  have h6:(encSn a).length=(encKy a.key).length+((encVl a.v).length+(encSp a.s).length):=by unfold encSn;simp only[List.length_append]
  show _≤60*wtW (Sn.wt a)
  omega) b
 have f3:=lsLen (flat_leC encWt wtW 30 m.ws fun a ha=>by obtain⟨_,_,hok⟩:=i.ws.mem ha;exact lenWt hok) c
 have f4:=lsLen (flat_leC encI (fun _=>1) 10 m.ps fun a ha=>by
  obtain⟨_,_,hok⟩:=i.ps.mem ha
  have:=encI_len hok.1 hok.2
  omega) d
 have f5:=lsLen (flat_leC encRg (fun _=>1) 36 m.rs fun a ha=>by
  obtain⟨_,_,h1,h2,h3,h4⟩:=i.rs.mem ha
  have e1:=encI_len h1.1 h1.2
  have e2:=encI_len h2.1 h2.2
  have e3:(encF64 a.lo).length=8:=leW_len 8 _
  have e4:(encF64 a.hi).length=8:=leW_len 8 _
  unfold encRg
  simp only[List.length_append]
  omega) e
 have f6:=lsLen (flat_leC encRm (fun _=>1) 2000010 m.rc fun a ha=>by
  have h1:=(pl a ha).e
  have h2:(encOut a).length≤2000000:=by
   unfold encOut
   split
   · exact h1
   · exact Nat.zero_le _
  have h3:=lenN (n:=(encOut a).length) (by omega)
  unfold encRm encT
  rw[List.length_append]
  omega) f
 rw[ones]at f4 f5 f6
 have e0:=encI_len ok.k.1 ok.k.2
 have e1:=encI_len ok.fr.1 ok.fr.2
 have e2:=encI_len ok.ton.1 ok.ton.2
 have e3:=encI_len ok.rg.1 ok.rg.2
 have e4:=encI_len ok.ep.1 ok.ep.2
 have e5:=encI_len ok.cd.1 ok.cd.2
 have e6:=encI_len ok.n.1 ok.n.2
 have e7:=encI_len ok.mx.1 ok.mx.2
 have e8:=lenSp ok.s
 have e9:=lenSp ok.pv
 have e10:=lenTx ok.t
 have e11:(encB m.cm).length=1:=by cases m.cm<;>rfl
 have hD:(encDeal m).length≤90000000000:=by
  unfold encDeal
  repeat' split
  all_goals try simp only[List.length_append,List.length_nil]
  all_goals omega
 have hM:(encMb m).length≤95000000000:=by
  unfold encMb
  repeat' split
  all_goals try simp only[List.length_append,List.length_nil]
  all_goals omega
 unfold encMg
 simp only[List.length_append]
 omega
end Go.Proofs.YtcalkfgibflbnaaGreat
