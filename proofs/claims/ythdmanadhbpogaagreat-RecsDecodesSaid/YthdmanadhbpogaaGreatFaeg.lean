/- The walk of RecsDecodes. -/
import Derived.Test.YthdmanadhbpogaaGreatFaec
import Derived.Test.YthdmanadhbpogaaGreatFaed
import Derived.Test.YthdmanadhbpogaaGreatFaee
import Derived.Test.YthdmanadhbpogaaGreatFaef
namespace Go.Proofs.YthdmanadhbpogaaGreat
set_option linter.unusedVariables false
open Go.RowKit Fl
attribute [local go_sem] run_store_float
set_option maxRecDepth 100000 in
set_option maxHeartbeats 4000000 in
theorem decodes_any (A:Option Addr) (n c:Nat) (l:List UInt8) (w:World) (h:Reads w w.heap.size 1 A n (bytesV l)) (hnc:n≤c) (hcm:c≤maxLen):
 Calls Tryz.prog 5 #[.slice A n c] w fun e w'=>e=.returned (.bool true)∧Below w.heap.size w w':=by
 have hll:l.length=n:=by have:=h.1;simpa using this
 go_enter Tryz.func5,Tryz.ntmps5
 go_wp2_with fail
 refine(first2_any _).mono ?_
 rintro e w1 ⟨rfl,hb1⟩
 by_cases hn:20000<n
 · have hd1:decide (20000<(n:Int))=true:=by simp;omega
   go_wp2_with fail
   refine(first2_any _).mono ?_
   rintro e w2 ⟨rfl,hb2⟩
   go_wp2
   go_ret
   exact⟨rfl,hb1.trans (hb2.mono hb1.size)⟩
 have hd1:decide (20000<(n:Int))=false:=by simp;omega
 have h1:=(h.below hb1).more hb1.size
 go_wp2_with fail
 refine(xcopy A n c l w1 h1 (by omega)).mono ?_
 rintro e w2 ⟨A2,c2,rfl,hq2,hm2,o2,hb2⟩
 have hX2:=hb1.trans (hb2.mono hb1.size)
 have HLL:=Lib.hid hll
 have hD:=decode_any A2 l.length c2 l w2 (Reads.of_own o2) (by omega)
 clear hll
 go_wp2_with fail
 refine hD.mono ?_
 rintro e w3 ⟨hd,rfl,rok,rcp,rin,hb3⟩
 have hX3:=hX2.trans (hb3.mono hX2.size)
 have hA3:Below w3.heap.size w3 (w3.alloc (.cells ((decR l).vals hd) 38)):=by go_grown
 have C4:Blk (w3.alloc (.cells ((decR l).vals hd) 38)) w3.heap.size 38 ((decR l).vals hd):=Blk.new _ _ _
 have hX4:=hX3.trans (hA3.mono hX3.size)
 have rin4:=rin.below hA3
 have hb4:=hb3.trans (hA3.mono hb3.size)
 have R2:=((Reads.of_own o2).below hb4).more hb4.size
 have R1:=(h.below hX4).more hX4.size
 have hS:=sbytes (w3.alloc (.cells ((decR l).vals hd) 38)) (c:=c2) (c':=c) R2 R1
 have hE:=xDecode_any A n c l (w3.alloc (.cells ((decR l).vals hd) 38)) R1 (by omega) hnc hcm
 have hll:(l==l)=true:=by simp
 rw[hll]at hS
 clear hD rin hb3 hA3 hb4 R2 hX3
 go_wp2_with (guard_target=~ wpList _ _ _ _ _ _;refine wpList_store_at rfl 38 _ _ rfl w3.heap.size ((decR l).vals hd) (by kernel_rfl) (by kernel_rfl) rfl _ _ (by kernel_rfl) (by kernel_rfl) (by kernel_rfl) ?_)
 refine hS.mono ?_
 rintro e w4 ⟨rfl,rfl⟩
 go_wp2_with fail
 refine hE.mono ?_
 rintro e w5 ⟨hd2,rfl,-,-,rin5,hb5⟩
 have hX5:=hX4.trans (hb5.mono hX4.size)
 have hA5:Below w5.heap.size w5 (w5.alloc (.cells ((decR l).vals hd2) 38)):=by go_grown
 have C5:=(C4.below hb5 C4.lt).below hA5 (C4.below hb5 C4.lt).lt
 have D5:Blk (w5.alloc (.cells ((decR l).vals hd2) 38)) w5.heap.size 38 ((decR l).vals hd2):=Blk.new _ _ _
 have hX6:=hX5.trans (hA5.mono hX5.size)
 have r1:=(rin4.below hb5).below hA5
 have r2:=rin5.below hA5
 clear C4 hX4 hb5 hX5 hA5 rin4 rin5 hE hS R1
 go_wp2_with (guard_target=~ wpList _ _ _ _ _ _;refine wpList_store_at rfl 38 _ _ rfl w5.heap.size ((decR l).vals hd2) (by kernel_rfl) (by kernel_rfl) rfl _ _ (by kernel_rfl) (by kernel_rfl) (by kernel_rfl) ?_)
 refine(first2_any _).mono ?_
 rintro e w7 ⟨rfl,hb7⟩
 have C7:=C5.below hb7 C5.lt
 have D7:=D5.below hb7 D5.lt
 have r1':=r1.below hb7
 have r2':=r2.below hb7
 have hX7:=hX6.trans (hb7.mono hX6.size)
 clear C5 D5 r1 r2 hX6 hb7
 go_wp2_with (first
  |(guard_target=~ wpList _ _ _ _ _ _;refine wpList_load_row_g (by kernel_rfl) 38 (.tmp 4) rfl w3.heap.size (by kernel_rfl) _ _ (0,0) _ C7 rfl rfl (by kernel_rfl) ?_)
  |(guard_target=~ wpList _ _ _ _ _ _;refine wpList_load_row_g (by kernel_rfl) 38 (.tmp 6) rfl w5.heap.size (by kernel_rfl) _ _ (0,0) _ D7 rfl rfl (by kernel_rfl) ?_))
 refine(recSelf_any (decR l) hd hd2 _ r1' r2').mono ?_
 rintro e w8 ⟨rfl,hb8⟩
 go_wp2
 go_ret
 exact⟨rfl,hX7.trans (hb8.mono hX7.size)⟩
end Go.Proofs.YthdmanadhbpogaaGreat
