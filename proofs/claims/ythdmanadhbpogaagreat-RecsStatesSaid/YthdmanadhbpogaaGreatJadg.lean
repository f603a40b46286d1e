/- What the chapter's examples fix: the law's first, by Decode in general. -/
import Derived.WalkLawsBesides
import Derived.Test.YthdmanadhbpogaaGreatJaab
import Derived.Test.YthdmanadhbpogaaGreatJabi
import Derived.Test.YthdmanadhbpogaaGreatJadb
import Derived.Test.YthdmanadhbpogaaGreatJadc
namespace Go.Proofs.YthdmanadhbpogaaGreat
set_option linter.unusedVariables false
open Go.RowKit Fl
attribute [local go_sem] run_store_float
theorem lit3b (w:World):Reads (w.alloc (.cells #[.int .u8 14,.int .u8 6,.int .u8 0] 5)) (w.alloc (.cells #[.int .u8 14,.int .u8 6,.int .u8 0] 5)).heap.size 1 (some ⟨w.heap.size,0,none⟩) 3 (bytesV [14,6,0]):=
 Reads.of_own (World.ownsRow_lit w #[.int .u8 14,.int .u8 6,.int .u8 0] 3 (Nat.le_refl _) (by unfold maxLen;omega) rfl)
set_option maxRecDepth 100000 in
set_option maxHeartbeats 4000000 in
theorem first2_any (w:World):Calls Tryz.prog 9 #[] w fun e w'=>e=.returned (.bool true)∧Below w.heap.size w w':=by
 have i0:i64ok 0:=by unfold i64ok;omega
 have i3:i64ok 3:=by unfold i64ok;omega
 have i7:i64ok 7:=by unfold i64ok;omega
 have i99:i64ok 99:=by unfold i64ok;omega
 have hN:=fun W=>encode_any (rcZ 7 0 0 0 3) hdZ W (rcZ_ok i7 i0 i0 i0 i3) (rcZ_in W 7 0 0 0 3) hdZ_caps (rcZ_sm 7 0 0 0 3) (by rw[show encRc (rcZ 7 0 0 0 3)=[14,6] from by kernel_rfl];simp)
 rw[show encOut (rcZ 7 0 0 0 3)=[14,6] from by kernel_rfl,show encE (rcZ 7 0 0 0 3)=0 from by kernel_rfl]at hN
 have hM:=fun W=>recMay_any (rcZ 99 0 0 0 0) hdZ W (rcZ_ok i99 i0 i0 i0 i0) (rcZ_in W 99 0 0 0 0) (rcZ_sm 99 0 0 0 0)
 rw[show recMay (rcZ 99 0 0 0 0)=7 from by kernel_rfl]at hM
 have hDa:decE [20,2,4,6]=0∧decR [20,2,4,6]=rcZ 10 1 2 3 0:=⟨by kernel_rfl,by kernel_rfl⟩
 have hDb:decE [14,6,0]=4∧decR [14,6,0]=rcZ 0 0 0 0 0:=⟨by kernel_rfl,by kernel_rfl⟩
 have hA:=fun c W h=>decode_any (some ⟨W,0,none⟩) 4 4 [20,2,4,6] c h (by omega)
 have hB:=fun W c h=>decode_any (some ⟨W,0,none⟩) 3 3 [14,6,0] c h (by omega)
 rw[hDa.1,hDa.2]at hA
 rw[hDb.1,hDb.2]at hB
 clear i0 i3 i7 i99 hDa hDb
 go_enter Tryz.func9,Tryz.ntmps9
 go_wp2_with fail
 refine(hN _).mono ?_
 rintro e w1 ⟨A1,c1,rfl,hq1,hm1,hown1,hb1⟩
 have hR1:Reads w1 w1.heap.size 1 A1 2 (bytesV [14,6]):=Reads.of_own hown1
 have hRa:Reads (w1.alloc (.cells #[.int .u8 20,.int .u8 2,.int .u8 4,.int .u8 6] 5)) (w1.alloc (.cells #[.int .u8 20,.int .u8 2,.int .u8 4,.int .u8 6] 5)).heap.size 1 (some ⟨w1.heap.size,0,none⟩) 4 (bytesV [20,2,4,6]):=
  Reads.of_own (World.ownsRow_lit w1 #[.int .u8 20,.int .u8 2,.int .u8 4,.int .u8 6] 4 (Nat.le_refl _) (by unfold maxLen;omega) rfl)
 have hXa:Below w1.heap.size w1 (w1.alloc (.cells #[.int .u8 20,.int .u8 2,.int .u8 4,.int .u8 6] 5)):=by go_grown
 clear hown1 hN
 go_wp2_with fail
 refine(hA _ _ hRa).mono ?_
 rintro e w2 ⟨hd,rfl,-,-,-,hb2⟩
 have hB2:=hXa.trans (hb2.mono hXa.size)
 clear hRa hXa hb2
 go_wp2_with (guard_target=~ wpList _ _ _ _ _ _;refine wpList_store_at rfl 38 _ _ rfl w2.heap.size ((rcZ 10 1 2 3 0).vals hd) (by kernel_rfl) (by kernel_rfl) rfl _ _ (by kernel_rfl) (by kernel_rfl) (by kernel_rfl) ?_)
 have hRb:Reads ((w2.alloc (.cells ((rcZ 10 1 2 3 0).vals hd) 38)).alloc (.cells #[.int .u8 14,.int .u8 6,.int .u8 0] 5)) ((w2.alloc (.cells ((rcZ 10 1 2 3 0).vals hd) 38)).alloc (.cells #[.int .u8 14,.int .u8 6,.int .u8 0] 5)).heap.size 1 (some ⟨w2.heap.size+1,0,none⟩) 3 (bytesV [14,6,0]):=by
  have h3:=lit3b (w2.alloc (.cells ((rcZ 10 1 2 3 0).vals hd) 38))
  rw[show (w2.alloc (.cells ((rcZ 10 1 2 3 0).vals hd) 38)).heap.size=w2.heap.size+1 from World.size_alloc _ _]at h3
  exact h3
 have B2:Blk ((w2.alloc (.cells ((rcZ 10 1 2 3 0).vals hd) 38)).alloc (.cells #[.int .u8 14,.int .u8 6,.int .u8 0] 5)) w2.heap.size 38 ((rcZ 10 1 2 3 0).vals hd):=(Blk.new _ _ _).alloc _
 have hXb:Below w2.heap.size w2 ((w2.alloc (.cells ((rcZ 10 1 2 3 0).vals hd) 38)).alloc (.cells #[.int .u8 14,.int .u8 6,.int .u8 0] 5)):=by go_grown
 refine(hB _ _ hRb).mono ?_
 rintro e w3 ⟨he,rfl,-,-,-,hb3⟩
 have B3:=B2.below hb3 B2.lt
 have hB3:=hXb.trans (hb3.mono hXb.size)
 clear hRb B2 hXb hb3
 have hB13:=hB2.trans (hB3.mono hB2.size)
 have hR3:=(hR1.below hB13).more hB13.size
 have B4:=B3.alloc (.cells ((rcZ 0 0 0 0 0).vals he) 38)
 have hX4:Below w3.heap.size w3 (w3.alloc (.cells ((rcZ 0 0 0 0 0).vals he) 38)):=by go_grown
 have hR4:=(hR3.below hX4).more hX4.size
 have hcv:∀c1:Nat,(convert 48 9 (.slice A1 2 c1)).run Tryz.prog (w3.alloc (.cells ((rcZ 0 0 0 0 0).vals he) 38))=.ok (.string ⟨#[14,6]⟩) (w3.alloc (.cells ((rcZ 0 0 0 0 0).vals he) 38)):=fun c1=>run_conv_reads (P:=Tryz.prog) (w3.alloc (.cells ((rcZ 0 0 0 0 0).vals he) 38)) 48 9 5 Tryz.underlying48 Tryz.underlying5 Tryz.underlying9 (c:=c1) hR4
 have z0:=cl (B4.cell 0)
 have z1:=cl (B4.cell 1)
 have z2:=cl (B4.cell 2)
 have z3:=cl (B4.cell 3)
 have zt:=txn_run ⟨1,2,3⟩ ⟨1,2,3⟩ (w3.alloc (.cells ((rcZ 0 0 0 0 0).vals he) 38))
 go_wp2_with (guard_target=~ wpList _ _ _ _ _ _;refine wpList_store_at rfl 38 _ _ rfl w3.heap.size ((rcZ 0 0 0 0 0).vals he) (by kernel_rfl) (by kernel_rfl) rfl _ _ (by kernel_rfl) (by kernel_rfl) (by kernel_rfl) ?_)
 refine(hM _).mono ?_
 rintro e w4 ⟨rfl,hb4⟩
 go_wp2
 go_ret
 have hB4:=hB3.trans (hX4.mono hB3.size)
 have hB5:=hB4.trans (hb4.mono hB4.size)
 have hB6:=hB2.trans (hB5.mono hB2.size)
 exact⟨rfl,hb1.trans (hB6.mono hb1.size)⟩
end Go.Proofs.YthdmanadhbpogaaGreat
