/- What the chapter's examples fix, by Decode in general; the walk of MsgsDecodes. -/
import Derived.Test.YtcalkfgibflbnaaGreatDadf
import Derived.Test.YtcalkfgibflbnaaGreatDafd
namespace Go.Proofs.YtcalkfgibflbnaaGreat
set_option maxHeartbeats 4000000
set_option maxRecDepth 100000
set_option linter.unusedVariables false
open Go.RowKit Fl
attribute [local go_sem] run_store_float
theorem i64Y {k:Int} (h:0≤k∧k≤1000):i64ok k:=by unfold i64ok;omega
abbrev mgY (k fr ton rg:Int):Mg:=⟨k,fr,ton,zTx,rg,0,0,zSp,zSp,false,0,0,[],[],[],[],[],[],zSt⟩
theorem litY4 (w:World):Reads (w.alloc (.cells #[.int .u8 22,.int .u8 4,.int .u8 2,.int .u8 4] 5)) (w.alloc (.cells #[.int .u8 22,.int .u8 4,.int .u8 2,.int .u8 4] 5)).heap.size 1 (some ⟨w.heap.size,0,none⟩) 4 (bytesV [22,4,2,4]):=
 Reads.of_own (World.ownsRow_lit w #[.int .u8 22,.int .u8 4,.int .u8 2,.int .u8 4] 4 (Nat.le_refl _) (by unfold maxLen;omega) rfl)
theorem litY2 (w:World):Reads (w.alloc (.cells #[.int .u8 26,.int .u8 62] 5)) (w.alloc (.cells #[.int .u8 26,.int .u8 62] 5)).heap.size 1 (some ⟨w.heap.size,0,none⟩) 2 (bytesV [26,62]):=
 Reads.of_own (World.ownsRow_lit w #[.int .u8 26,.int .u8 62] 2 (Nat.le_refl _) (by unfold maxLen;omega) rfl)
theorem first2_any (w:World):Calls Tryz.prog 8 #[] w fun e w'=>e=.returned (.bool true)∧Below w.heap.size w w':=by
 have ok:(mgY 13 31 32 0).ok:=⟨i64Y (k:=13) (by omega),i64Y (k:=31) (by omega),i64Y (k:=32) (by omega),zTx_ok,i64z,i64z,i64z,zSp_ok,zSp_ok,i64z,i64z,zRg_ok,zSp_ok,zSp_ok⟩
 have hN:=fun W:World=>mencode_any (mgY 13 31 32 0) zHm W ok ⟨Sl.nil,Sl.nil,Sl.nil,Sl.nil,Sl.nil,Sl.nil,Sl.nil,Sl.nil⟩ (mgNil W 0).2.1 ⟨Nat.zero_le _,Nat.zero_le _,Nat.zero_le _,Nat.zero_le _,Nat.zero_le _,Nat.zero_le _,⟨Nat.zero_le _,fun x hx=>by cases hx⟩,⟨Nat.zero_le _,fun x hx=>by cases hx⟩⟩ (fun r hr=>by cases hr) (by rw[show encMg (mgY 13 31 32 0)=[26,62,64] from by kernel_rfl];decide)
 rw[show mencOut (mgY 13 31 32 0) (encMg (mgY 13 31 32 0))=[26,62,64] from by kernel_rfl,show mencE (mgY 13 31 32 0) (encMg (mgY 13 31 32 0))=0 from by kernel_rfl]at hN
 have hA:=fun W c h=>decodeM (some ⟨W,0,none⟩) 4 4 [22,4,2,4] c h (by omega) (by omega)
 have hB:=fun W c h=>decodeM (some ⟨W,0,none⟩) 2 2 [26,62] c h (by omega) (by omega)
 rw[show mdecE [22,4,2,4]=0 from by kernel_rfl,show mdecR [22,4,2,4]=mgY 11 2 1 2 from by kernel_rfl]at hA
 rw[show mdecE [26,62]=4 from by kernel_rfl,show mdecR [26,62]=mgY 0 0 0 0 from by kernel_rfl]at hB
 have n1:=fun W=>mnode_any 22 W
 have n2:=fun W=>mnode_any 23 W
 rw[show nodeB 22=true from by kernel_rfl]at n1
 rw[show nodeB 23=false from by kernel_rfl]at n2
 clear ok
 go_enter Tryz.func8,Tryz.ntmps8
 go_wp2_with fail
 refine(hN _).mono ?_
 rintro e w1 ⟨A1,c1,rfl,hq1,hm1,hown1,hb1⟩
 have hR1:Reads w1 w1.heap.size 1 A1 3 (bytesV [26,62,64]):=Reads.of_own hown1
 have hXa:Below w1.heap.size w1 (w1.alloc (.cells #[.int .u8 22,.int .u8 4,.int .u8 2,.int .u8 4] 5)):=by go_grown
 clear hown1 hN
 go_wp2_with fail
 refine(hA _ _ (litY4 w1)).mono ?_
 rintro e w2 ⟨hd,he,-,hb2⟩
 replace he:e=.returned (.tuple #[.agg ((mgY 11 2 1 2).vals hd),.int .i64 0]):=he
 subst he
 have hB2:=hXa.trans (hb2.mono hXa.size)
 clear hXa hb2
 obtain⟨cs,hcs⟩:∃cs:Array Value,cs=(mgY 11 2 1 2).vals hd:=⟨_,rfl⟩
 rw[←hcs]
 have hsz:(Tryz.prog.info? 41).map (·.size)=some cs.size:=by rw[hcs];kernel_rfl
 have hs2:zMsg.size=cs.size:=by rw[hcs];kernel_rfl
 have hone:cs.all (·.oneCell')=true:=by rw[hcs];kernel_rfl
 have HC:=Lib.hid hcs
 clear hcs
 have HZ:=Lib.hid hsz
 have HS:=Lib.hid hs2
 clear hsz hs2
 go_wp2_with (guard_target=~ wpList _ _ _ _ _ _;refine wpList_store_at rfl 41 _ _ rfl w2.heap.size cs rfl rfl rfl _ _ HZ.out HS.out hone ?_)
 have hRb:Reads ((w2.alloc (.cells cs 41)).alloc (.cells #[.int .u8 26,.int .u8 62] 5)) ((w2.alloc (.cells cs 41)).alloc (.cells #[.int .u8 26,.int .u8 62] 5)).heap.size 1 (some ⟨w2.heap.size+1,0,none⟩) 2 (bytesV [26,62]):=by
  have h3:=litY2 (w2.alloc (.cells cs 41))
  rw[show (w2.alloc (.cells cs 41)).heap.size=w2.heap.size+1 from World.size_alloc _ _]at h3
  exact h3
 have B2:Blk ((w2.alloc (.cells cs 41)).alloc (.cells #[.int .u8 26,.int .u8 62] 5)) w2.heap.size 41 cs:=(Blk.new _ _ _).alloc _
 have hXb:Below w2.heap.size w2 ((w2.alloc (.cells cs 41)).alloc (.cells #[.int .u8 26,.int .u8 62] 5)):=by go_grown
 refine(hB _ _ hRb).mono ?_
 rintro e w3 ⟨he,hE,-,hb3⟩
 replace hE:e=.returned (.tuple #[.agg ((mgY 0 0 0 0).vals he),.int .i64 4]):=hE
 subst hE
 obtain⟨ds,hds⟩:∃ds:Array Value,ds=(mgY 0 0 0 0).vals he:=⟨_,rfl⟩
 rw[←hds]
 have hone2:ds.all (·.oneCell')=true:=by rw[hds];kernel_rfl
 have HZ2:=Lib.hid (show (Tryz.prog.info? 41).map (·.size)=some ds.size by rw[hds];kernel_rfl)
 have HS2:=Lib.hid (show zMsg.size=ds.size by rw[hds];rfl)
 clear hds
 have B3:=B2.below hb3 B2.lt
 have hB3:=hXb.trans (hb3.mono hXb.size)
 clear hRb B2 hXb hb3
 have hB13:=hB2.trans (hB3.mono hB2.size)
 have hR3:=(hR1.below hB13).more hB13.size
 have B4:=B3.alloc (.cells ds 41)
 have hX4:Below w3.heap.size w3 (w3.alloc (.cells ds 41)):=by go_grown
 have hR4:=(hR3.below hX4).more hX4.size
 have hcv:∀c1:Nat,(convert 49 9 (.slice A1 3 c1)).run Tryz.prog (w3.alloc (.cells ds 41))=.ok (.string ⟨#[26,62,64]⟩) (w3.alloc (.cells ds 41)):=fun c1=>run_conv_reads (P:=Tryz.prog) (w3.alloc (.cells ds 41)) 49 9 5 Tryz.underlying49 Tryz.underlying5 Tryz.underlying9 (c:=c1) hR4
 have z0:(w3.alloc (.cells ds 41)).cell? ⟨w2.heap.size,0,none⟩=some (.int .i64 11):=by have h:=(B4.cell 0);rw[HC.out]at h;exact h
 have z1:(w3.alloc (.cells ds 41)).cell? ⟨w2.heap.size,1,none⟩=some (.int .i64 2):=by have h:=(B4.cell 1);rw[HC.out]at h;exact h
 have z2:(w3.alloc (.cells ds 41)).cell? ⟨w2.heap.size,2,none⟩=some (.int .i64 1):=by have h:=(B4.cell 2);rw[HC.out]at h;exact h
 have z3:(w3.alloc (.cells ds 41)).cell? ⟨w2.heap.size,6,none⟩=some (.int .i64 2):=by have h:=(B4.cell 6);rw[HC.out]at h;exact h
 go_wp2_with (first
  |(guard_target=~ wpList _ _ _ _ _ _;refine wpList_store_at rfl 41 _ _ rfl w3.heap.size ds rfl rfl rfl _ _ HZ2.out HS2.out hone2 ?_)
  |((with_reducible refine(n1 _).mono ?_);rintro e v1 ⟨rfl,rfl⟩)
  |((with_reducible refine(n2 _).mono ?_);rintro e v2 ⟨rfl,rfl⟩))
 go_ret
 have hB4:=hB3.trans (hX4.mono hB3.size)
 have hB6:=hB2.trans (hB4.mono hB2.size)
 exact⟨rfl,hb1.trans (hB6.mono hb1.size)⟩
theorem msgY_self (m:Mg):m.sameB m true true=true:=by
 unfold Mg.sameB Mg.headS Mg.restS Mg.listsS
 have h1:(m.cm==m.cm)=true:=by cases m.cm<;>rfl
 simp[keys_self,nums_self,wts_self,sns_self,rgs_self]
theorem msgY_any (m:Mg) (g h:Hm) (w:World) (i:MgLo w w.heap.size m g) (j:MgLo w w.heap.size m h) (cg:g.caps) (ch:h.caps):Calls Tryz.prog 15 #[.agg (m.vals g),.agg (m.vals h)] w fun e w'=>e=.returned (.bool true)∧Below w.heap.size w w':=by
 have hM:=msg_any m m g h true true w i j cg ch (fun w' hb=>recsS_any g.f.A h.f.A g.f.n h.f.n g.f.c h.f.c m.rc w' (i.up hb).rc (j.up hb).rc (Nat.le_trans cg.f.1 cg.f.2) (Nat.le_trans ch.f.1 ch.f.2))
  (fun w' hb=>state_same m.st g.g.A g.i.A h.g.A h.i.A g.g.n g.i.n h.g.n h.i.n g.g.c g.i.c h.g.c h.i.c w' (i.up hb).hs (i.up hb).pn (j.up hb).hs (j.up hb).pn (Nat.le_trans cg.g.1 cg.g.2) (Nat.le_trans cg.i.1 cg.i.2))
 rw[msgY_self]at hM
 exact hM
theorem mdecE_ok {l:List UInt8} (h:mdecE l=0):mencE (mdecR l) (encMg (mdecR l))=0∧mencOut (mdecR l) (encMg (mdecR l))=l∧mdecR l=(rMsg l ⟨0,0,0⟩).1∧l.length≤4194304:=by
 have hr:mdecR l=(rMsg l ⟨0,0,0⟩).1:=by unfold mdecR;rw[if_pos h]
 rw[hr]
 unfold mdecE at h
 repeat' split at h
 all_goals first
  |exact absurd h (by decide)
  |exact⟨Decidable.byContradiction fun hn=>by contradiction,Decidable.byContradiction fun hn=>by contradiction,rfl,by omega⟩
theorem mdecE_04 (l:List UInt8):mdecE l=0∨mdecE l=4:=by
 unfold mdecE
 repeat' split
 all_goals first
  |exact .inl rfl
  |exact .inr rfl
theorem mdecodes_any (A:Option Addr) (n c:Nat) (l:List UInt8) (w:World) (h:Reads w w.heap.size 1 A n (bytesV l)) (hnc:n≤c) (hcm:c≤maxLen):
 Calls Tryz.prog 5 #[.slice A n c] w fun e w'=>e=.returned (.bool true)∧Below w.heap.size w w':=by
 have hll:l.length=n:=by have:=h.1;simpa using this
 go_enter Tryz.func5,Tryz.ntmps5
 go_wp2_with fail
 refine(first2_any _).mono ?_
 rintro e w1 ⟨rfl,hb1⟩
 by_cases hn:20000<n
 · have hd1:decide (20000<(n:Int))=true:=by simp;omega
   go_wp2_with fail
   refine(first2_any _).mono ?_
   rintro e w2 ⟨rfl,hb2⟩
   go_wp2
   go_ret
   exact⟨rfl,hb1.trans (hb2.mono hb1.size)⟩
 have hd1:decide (20000<(n:Int))=false:=by simp;omega
 have h1:=(h.below hb1).more hb1.size
 go_wp2_with fail
 refine(xcopy A n c l w1 h1 (by omega)).mono ?_
 rintro e w2 ⟨A2,c2,rfl,hq2,hm2,o2,hb2⟩
 have hX2:=hb1.trans (hb2.mono hb1.size)
 have HLL:=Lib.hid hll
 have hD:=decodeM A2 l.length c2 l w2 (Reads.of_own o2) (by omega) (by omega)
 clear hll
 go_wp2_with fail
 refine hD.mono ?_
 rintro e w3 ⟨hd,he,rlo,hb3⟩
 replace he:e=.returned (.tuple #[.agg ((mdecR l).vals hd),.int .i64 (mdecE l)]):=he
 subst he
 have hX3:=hX2.trans (hb3.mono hX2.size)
 have hA3:Below w3.heap.size w3 (w3.alloc (.cells ((mdecR l).vals hd) 41)):=by go_grown
 have C4:Blk (w3.alloc (.cells ((mdecR l).vals hd) 41)) w3.heap.size 41 ((mdecR l).vals hd):=Blk.new _ _ _
 have hX4:=hX3.trans (hA3.mono hX3.size)
 have rin4:=rlo.2.2.inn.up hA3
 have rok:=rlo.1
 have rcp:=rlo.2.1
 have hb4:=hb3.trans (hA3.mono hb3.size)
 have R2:=((Reads.of_own o2).below hb4).more hb4.size
 have R1:=(h.below hX4).more hX4.size
 have hS:=sbytes (w3.alloc (.cells ((mdecR l).vals hd) 41)) (c:=c2) (c':=c) R2 R1
 have hll:(l==l)=true:=by simp
 rw[hll]at hS
 clear hD rlo hb3 hA3 hb4 R2 hX3
 generalize hW4:(w3.alloc (.cells ((mdecR l).vals hd) 41))=w4 at*
 have HW4:=Lib.hid hW4
 clear hW4
 go_wp2_with (guard_target=~ wpList _ _ _ _ _ _;refine wpList_store_at rfl 41 _ _ rfl w3.heap.size ((mdecR l).vals hd) (by kernel_rfl) (by kernel_rfl) rfl _ _ (by kernel_rfl) (by kernel_rfl) (by kernel_rfl) ?_;rw[HW4.out])
 refine hS.mono ?_
 rintro e w5 ⟨rfl,rfl⟩
 rcases mdecE_04 l with he|he
 · obtain⟨a1,a2,a3,a4⟩:=mdecE_ok he
   have hcnt:=rMsg_cnt l ⟨0,0,0⟩ (by have:=HLL.out;omega)
   rw[←a3]at hcnt
   have hlen:(encMg (mdecR l)).length+10≤1000000000000:=by
    have:mencOut (mdecR l) (encMg (mdecR l))=encMg (mdecR l):=by unfold mencOut;rw[if_pos a1]
    rw[←this,a2]
    omega
   have hE:=mxEncode (mdecR l) hd w4 rok rin4 rcp (hcnt.sm (by have:=HLL.out;omega) rin4) hcnt.pl hlen
   rw[a1,a2]at hE
   rw[he]
   clear a1 a2 a3 a4 hcnt hlen he
   go_wp2_with (guard_target=~ wpList _ _ _ _ _ _;refine wpList_load_row rfl 41 _ rfl w3.heap.size (by kernel_rfl) _ _ (0,0) _ C4 rfl rfl (by kernel_rfl) ?_)
   refine hE.mono ?_
   rintro e w6 ⟨A6,c6,rfl,q6,m6,o6,hb6⟩
   have hX6:=hX4.trans (hb6.mono hX4.size)
   have R6:Reads w6 w6.heap.size 1 A6 l.length (bytesV l):=Reads.of_own o6
   go_wp2_with fail
   refine(first2_any _).mono ?_
   rintro e w7 ⟨rfl,hb7⟩
   have hX7:=hX6.trans (hb7.mono hX6.size)
   have hS7:=sbytes w7 (c:=c6) (c':=c) ((R6.below hb7).more hb7.size) ((h.below hX7).more hX7.size)
   rw[hll]at hS7
   go_wp2_with fail
   refine hS7.mono ?_
   rintro e w8 ⟨rfl,rfl⟩
   go_wp2
   go_ret
   exact⟨rfl,hX7⟩
 · have hz:mdecR l=zMg:=by unfold mdecR;rw[if_neg (by omega)]
   rw[he]
   rw[hz]at C4 rin4
   clear he rok hz
   go_wp2_with fail
   refine(first2_any _).mono ?_
   rintro e w6 ⟨rfl,hb6⟩
   have C6:=C4.below hb6 C4.lt
   have hX6:=hX4.trans (hb6.mono hX4.size)
   have hM:Calls Tryz.prog 15 #[.agg (zMg.vals hd),.agg (zMg.vals zHm)] w6 fun e w'=>e=.returned (.bool true)∧Below w6.heap.size w6 w':=
    msgY_any zMg hd zHm w6 (rin4.up hb6) (mgNil w6 _).2.2 rcp (mgNil w6 0).2.1
   go_wp2_with (guard_target=~ wpList _ _ _ _ _ _;refine wpList_load_row_g (by kernel_rfl) 41 _ rfl w3.heap.size (by kernel_rfl) _ _ (0,0) _ C6 rfl rfl (by kernel_rfl) ?_)
   refine hM.mono ?_
   rintro e w7 ⟨rfl,hb7⟩
   go_wp2
   go_ret
   exact⟨rfl,hX6.trans (hb7.mono hX6.size)⟩
end Go.Proofs.YtcalkfgibflbnaaGreat
namespace Go.Proofs.YtcalkfgibflbnaaGreat
open Go.ChangeShapes Go.WideShapes Go.RowKit
theorem u8_wf {n:Int} (h:(Lit.int .u8 n).wf=true):∃b:UInt8,n=(b.toNat:Int):=by
 have hb:0≤n∧n≤255:=by simpa [Lit.wf,IntKind.min,IntKind.max,IntKind.signed,IntKind.bits] using h
 refine⟨n.toNat.toUInt8,?_⟩
 show n=((n.toNat%256:Nat):Int)
 omega
section
variable {H:Type} {enc:TypeId×Value→H} {P:Program} {w:World} {base:Nat} {spare:Nat→Bool} {held:Bool}
set_option maxRecDepth 100000 in
theorem open_bytes {r:Reach} {b0:Nat} {v:Value} {d:DataW H} {ps:List MemPlace} (hv:Value.okWide Tryz.prog w r b0 49 v) (h:DataW.Trod enc Tryz.prog w 0 (fun _=>true) true 49 v d ps):
 ∃A n c bs,v=.slice A n c∧n≤maxLen∧n≤c∧c≤maxLen∧Reads w w.heap.size 1 A n (bytesV bs):=by
 obtain⟨A,n,c,l,rfl,h1,h2,h3,h4⟩:=open_sl (Flat (fun b:UInt8=>[.int .u8 (b.toNat:Int)]) fun _=>True) 1 (by omega) Tryz.underlying49 (by kernel_rfl) (fun f cs x _ hx=>by
  obtain⟨b,rfl,_,hb⟩:=DataW.trod_int Tryz.underlying5 hx
  obtain⟨b',rfl⟩:=u8_wf hb
  exact⟨b',rfl,trivial⟩) hv h
 have hr:=Sl.reads (size:=1) (by omega) (fun _=>rfl) h4
 refine⟨A,n,c,l,rfl,h1,h2,h3,?_⟩
 have e:l.flatMap (fun b:UInt8=>[Value.int .u8 (b.toNat:Int)])=bytesV l:=by
  clear hr h4
  induction l with
  |nil=>rfl
  |cons a l ih=>rw[List.flatMap_cons,ih];rfl
 rw[←e];exact hr
end
end Go.Proofs.YtcalkfgibflbnaaGreat
