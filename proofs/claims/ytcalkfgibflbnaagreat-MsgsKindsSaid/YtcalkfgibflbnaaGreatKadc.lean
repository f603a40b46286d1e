/- What the chapter's examples fix: the law's first. -/
import Derived.Test.YtcalkfgibflbnaaGreatKaab
import Derived.Test.YtcalkfgibflbnaaGreatKada
import Derived.Test.YtcalkfgibflbnaaGreatKadb
namespace Go.Proofs.YtcalkfgibflbnaaGreat
set_option linter.unusedVariables false
open Go.RowKit Fl
attribute [local go_sem] run_store_float
theorem lit4 (w:World):Reads (w.alloc (.cells #[.int .u8 22,.int .u8 4,.int .u8 2,.int .u8 4] 5)) (w.alloc (.cells #[.int .u8 22,.int .u8 4,.int .u8 2,.int .u8 4] 5)).heap.size 1 (some ⟨w.heap.size,0,none⟩) 4 (bytesV [22,4,2,4]):=
 Reads.of_own (World.ownsRow_lit w #[.int .u8 22,.int .u8 4,.int .u8 2,.int .u8 4] 4 (Nat.le_refl _) (by unfold maxLen;omega) rfl)
theorem lit2 (w:World):Reads (w.alloc (.cells #[.int .u8 26,.int .u8 62] 5)) (w.alloc (.cells #[.int .u8 26,.int .u8 62] 5)).heap.size 1 (some ⟨w.heap.size,0,none⟩) 2 (bytesV [26,62]):=
 Reads.of_own (World.ownsRow_lit w #[.int .u8 26,.int .u8 62] 2 (Nat.le_refl _) (by unfold maxLen;omega) rfl)
set_option maxRecDepth 100000 in
set_option maxHeartbeats 4000000 in
theorem first_any (w:World):Calls Tryz.prog 8 #[] w fun e w'=>e=.returned (.bool true)∧Below w.heap.size w w':=by
 have hN:=fun W=>mencode_of (mgZ 13 31 32 0) hmZ W [26,62,64] (mgZ_ok (by unfold i64ok;omega) (by unfold i64ok;omega) (by unfold i64ok;omega) (by unfold i64ok;omega)) (mgZ_lo W _ 13 31 32 0) (mgZ_sm 13 31 32 0) (fun r hr=>by cases hr) (fun _=>walkM_13 31 32 (by unfold i64ok;omega) (by unfold i64ok;omega) (by kernel_rfl)) (by simp)
 rw[show mencOut (mgZ 13 31 32 0) [26,62,64]=[26,62,64] from by kernel_rfl,show mencE (mgZ 13 31 32 0) [26,62,64]=0 from by kernel_rfl]at hN
 have n1:=fun W=>mnode_any 22 W
 have n2:=fun W=>mnode_any 23 W
 rw[show nodeB 22=true from by kernel_rfl]at n1
 rw[show nodeB 23=false from by kernel_rfl]at n2
 go_enter Tryz.func8,Tryz.ntmps8
 go_wp2_with fail
 refine(hN _).mono ?_
 rintro e w1 ⟨A1,c1,rfl,hq1,hm1,hown1,hb1⟩
 have hR1:Reads w1 w1.heap.size 1 A1 3 (bytesV [26,62,64]):=Reads.of_own hown1
 have hXa:Below w1.heap.size w1 (w1.alloc (.cells #[.int .u8 22,.int .u8 4,.int .u8 2,.int .u8 4] 5)):=by go_grown
 clear hown1 hN
 go_wp2_with fail
 refine(decode_a _ 4 _ (lit4 w1)).mono ?_
 rintro e w2 ⟨rfl,hb2⟩
 have hB2:=hXa.trans (hb2.mono hXa.size)
 clear hXa hb2
 obtain⟨cs,hcs⟩:∃cs:Array Value,cs=(mgZ 11 2 1 2).vals hmZ:=⟨_,rfl⟩
 rw[←hcs]
 have hsz:(Tryz.prog.info? 41).map (·.size)=some cs.size:=by rw[hcs];kernel_rfl
 have hs2:zM.size=cs.size:=by rw[hcs];kernel_rfl
 have hone:cs.all (·.oneCell')=true:=by rw[hcs];kernel_rfl
 have HC:=Lib.hid hcs
 clear hcs
 have HZ:=Lib.hid hsz
 have HS:=Lib.hid hs2
 clear hsz hs2
 go_wp2_with (guard_target=~ wpList _ _ _ _ _ _;refine wpList_store_at rfl 41 _ _ rfl w2.heap.size cs rfl rfl rfl _ _ HZ.out HS.out hone ?_)
 have hRb:Reads ((w2.alloc (.cells cs 41)).alloc (.cells #[.int .u8 26,.int .u8 62] 5)) ((w2.alloc (.cells cs 41)).alloc (.cells #[.int .u8 26,.int .u8 62] 5)).heap.size 1 (some ⟨w2.heap.size+1,0,none⟩) 2 (bytesV [26,62]):=by
  have h3:=lit2 (w2.alloc (.cells cs 41))
  rw[show (w2.alloc (.cells cs 41)).heap.size=w2.heap.size+1 from World.size_alloc _ _]at h3
  exact h3
 have B2:Blk ((w2.alloc (.cells cs 41)).alloc (.cells #[.int .u8 26,.int .u8 62] 5)) w2.heap.size 41 cs:=(Blk.new _ _ _).alloc _
 have hXb:Below w2.heap.size w2 ((w2.alloc (.cells cs 41)).alloc (.cells #[.int .u8 26,.int .u8 62] 5)):=by go_grown
 refine(decode_b _ 2 _ hRb).mono ?_
 rintro e w3 ⟨rfl,hb3⟩
 obtain⟨ds,hds⟩:∃ds:Array Value,ds=(mgZ 0 0 0 0).vals hmZ:=⟨_,rfl⟩
 rw[←hds]
 have hone2:ds.all (·.oneCell')=true:=by rw[hds];kernel_rfl
 have HZ2:=Lib.hid (show (Tryz.prog.info? 41).map (·.size)=some ds.size by rw[hds];kernel_rfl)
 have HS2:=Lib.hid (show zM.size=ds.size by rw[hds])
 clear hds
 have B3:=B2.below hb3 B2.lt
 have hB3:=hXb.trans (hb3.mono hXb.size)
 clear hRb B2 hXb hb3
 have hB13:=hB2.trans (hB3.mono hB2.size)
 have hR3:=(hR1.below hB13).more hB13.size
 have B4:=B3.alloc (.cells ds 41)
 have hX4:Below w3.heap.size w3 (w3.alloc (.cells ds 41)):=by go_grown
 have hR4:=(hR3.below hX4).more hX4.size
 have hcv:∀c1:Nat,(convert 49 9 (.slice A1 3 c1)).run Tryz.prog (w3.alloc (.cells ds 41))=.ok (.string ⟨#[26,62,64]⟩) (w3.alloc (.cells ds 41)):=fun c1=>run_conv_reads (P:=Tryz.prog) (w3.alloc (.cells ds 41)) 49 9 5 Tryz.underlying49 Tryz.underlying5 Tryz.underlying9 (c:=c1) hR4
 have z0:(w3.alloc (.cells ds 41)).cell? ⟨w2.heap.size,0,none⟩=some (.int .i64 11):=by have h:=(B4.cell 0);rw[HC.out]at h;exact h
 have z1:(w3.alloc (.cells ds 41)).cell? ⟨w2.heap.size,1,none⟩=some (.int .i64 2):=by have h:=(B4.cell 1);rw[HC.out]at h;exact h
 have z2:(w3.alloc (.cells ds 41)).cell? ⟨w2.heap.size,2,none⟩=some (.int .i64 1):=by have h:=(B4.cell 2);rw[HC.out]at h;exact h
 have z3:(w3.alloc (.cells ds 41)).cell? ⟨w2.heap.size,6,none⟩=some (.int .i64 2):=by have h:=(B4.cell 6);rw[HC.out]at h;exact h
 go_wp2_with (first
  |(guard_target=~ wpList _ _ _ _ _ _;refine wpList_store_at rfl 41 _ _ rfl w3.heap.size ds rfl rfl rfl _ _ HZ2.out HS2.out hone2 ?_)
  |((with_reducible refine(n1 _).mono ?_);rintro e v1 ⟨rfl,rfl⟩)
  |((with_reducible refine(n2 _).mono ?_);rintro e v2 ⟨rfl,rfl⟩))
 go_ret
 have hB4:=hB3.trans (hX4.mono hB3.size)
 have hB6:=hB2.trans (hB4.mono hB2.size)
 exact⟨rfl,hb1.trans (hB6.mono hb1.size)⟩
end Go.Proofs.YtcalkfgibflbnaaGreat
