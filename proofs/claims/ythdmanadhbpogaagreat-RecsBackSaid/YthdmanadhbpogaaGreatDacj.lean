/- The walks of the reference's writing functions, of Bytes and CopyBytes. -/
import Derived.Laws.OwnMore
import Derived.Test.YthdmanadhbpogaaGreatDaab
import Derived.Test.YthdmanadhbpogaaGreatDaac
import Derived.Test.YthdmanadhbpogaaGreatDaad
import Derived.Test.YthdmanadhbpogaaGreatDaah
import Derived.Test.YthdmanadhbpogaaGreatDaaj
import Derived.Test.YthdmanadhbpogaaGreatDaci
namespace Go.Proofs.YthdmanadhbpogaaGreat
set_option maxHeartbeats 4000000
set_option maxRecDepth 100000
open Go.RowKit Fl
theorem xbits (a:Nat) (w:World):
 Calls Tryz.prog 184 #[.float .f64 a] w fun e w'=>e=.returned (.int .u64 (canonB a))∧w=w':=by
 by_cases h:dnan a=true
 · have e:canonB a=9221120237041090560:=by simp[canonB,h]
   have h':(FloatKind.f64.format.order a a !=some Ordering.eq)=true:=h
   rw[e]
   clear e h
   go_enter Tryz.func184,Tryz.ntmps184
   go_wp2
   go_ret
   exact⟨rfl,rfl⟩
 · have e:canonB a=a:=by simp[canonB,h]
   have h':(FloatKind.f64.format.order a a !=some Ordering.eq)=false:=by simpa [dnan] using h
   rw[e]
   clear e h
   go_enter Tryz.func184,Tryz.ntmps184
   go_wp2
   go_ret
   exact⟨rfl,rfl⟩
def RowRel (w:World) (bs:List UInt8) (v:Value) (wr:World):Prop:=wr.ownsRow w.heap.size 5 1 v bs.length (bytesV bs)∧Below w.heap.size w wr
theorem RowRel.start (w:World):RowRel w [] (.slice none 0 0) w:=⟨World.ownsRow_nil _ _ _ _,Below.refl _ _⟩
theorem RowRel.post {w wr:World} {bs:List UInt8} {v:Value} (h:RowRel w bs v wr):RowPost w bs (.returned v) wr:=by
 obtain⟨A,c,rfl,h1,h2⟩:=own_form h.1
 exact⟨A,c,rfl,h1,h2,h.1,h.2⟩
theorem RowRel.push {w wr X w1:World} {bs more:List UInt8} {v v1:Value} (h:RowRel w bs v wr) (hX:Below wr.heap.size wr X)
 (hown:w1.ownsRow w.heap.size 5 1 v1 (bs.length+more.length) (bytesV bs++bytesV more)) (hg:X.grownBy w1 v.ownBlock):RowRel w (bs++more) v1 w1:=by
 refine⟨by rw[List.length_append,bytesV,List.map_append];exact hown,?_⟩
 refine Below.grown (h.2.trans (hX.mono h.2.size)) hg (Nat.le_trans h.2.size hX.size) fun k hk=>(h.1.lt k hk).1
theorem big_byte (k:Nat):bytesV [(k%128+128).toUInt8]=[.int .u8 ((k:Int)%128+128)]:=by
 show [Value.int .u8 (((k%128+128)%256:Nat):Int)]=_
 congr 2
 omega
def XIntRel (w:World) (n:Int) (u out:Value) (wr:World):Prop:=
 ∃(k:Nat) (pre:List UInt8),u=.int .u64 (k:Int)∧k<18446744073709551616∧pre++encU k=encI n∧RowRel w pre out wr
theorem xint (n:Int) (w:World) (hn1: -9223372036854775808≤n) (hn2:n≤9223372036854775807):
 Calls Tryz.prog 62 #[.int .i64 n] w (RowPost w (encI n)):=by
 obtain⟨i0,hi0,hz0,hz1,hz2⟩:=info_partsW u8_info
 have hzl:=zig_lt hn1 hn2
 have hel:=encI_len hn1 hn2
 have hcase:n<0∨0≤n:=by omega
 rcases hcase with hneg|hneg
 all_goals (
  go_enter Tryz.func62,Tryz.ntmps62
  go_wp2
  go_loopw [3,4] (fun u out wr=>XIntRel w n u out wr) (fun u _ _=>(intOf u).toNat)
  case atStart=>
   refine⟨zig n,[],?_,hzl,rfl,RowRel.start w⟩
   first
        |rw[zig_neg hneg hn1]
        |(have e:=zig_pos hneg hn2
          rw[show IntKind.u64.wrap n=n from by rw[IntKind.wrap_u64];omega,show IntKind.u64.wrap (n*2)=n*2 from by rw[IntKind.wrap_u64];omega]at e
          rw[e])
  case round=>
   obtain⟨k,pre,rfl,hk,henc,hrow⟩:=hrel
   obtain⟨A1,c1,rfl,hA1,hA2⟩:=own_form hrow.1
   have hzz:=hrow.2.size
   have hpre:pre.length+(encU k).length=(encI n).length:=by rw[←henc,List.length_append]
   by_cases hbig:k<128
   · have h1:encU k=[k.toUInt8]:=encU_small hbig
     go_wp2_with (first
      |(at_builtin
        refine wpList_append_any _ rfl (.tmp 23) (.tmp 26) _ rfl w.heap.size 5 i0 _ 1 1 Tryz.underlying48 hi0 hz0 hz1 hz2 rfl (by omega) (.slice A1 pre.length c1) _ (bytesV pre) (by rfl) (hrow.1.alloc _) (wr.heap.size+1) (some ⟨wr.heap.size,0,none⟩) 1 1 (bytesV [k.toUInt8]) (by rfl)
            (by rw[low_byte k hbig];exact reads_new wr 5 _ 1 rfl) (bytesV_one _) (by unfold maxLen;omega) (by omega) (by simp;omega) ?_
        intro v2 w1 hown1 hg1 hat1))
     go_ret
     rw[←henc,h1]
     exact(hrow.push ((Below.refl _ _).alloc (Nat.le_refl _) _) hown1 hg1).post
   · have h1:=encU_big hbig
     go_wp2_with (first
      |(at_builtin
        refine wpList_append_any _ rfl (.tmp 14) (.tmp 19) _ rfl w.heap.size 5 i0 _ 1 1 Tryz.underlying48 hi0 hz0 hz1 hz2 rfl (by omega) (.slice A1 pre.length c1) _ (bytesV pre) (by rfl) (hrow.1.alloc _) (wr.heap.size+1) (some ⟨wr.heap.size,0,none⟩) 1 1 (bytesV [(k%128+128).toUInt8]) (by rfl)
            (by rw[big_byte k];exact reads_new wr 5 _ 1 rfl) (bytesV_one _) (by unfold maxLen;omega) (by omega) (by simp;omega) ?_
        intro v2 w1 hown1 hg1 hat1))
     go_roundw
     case rel=>
      refine⟨k/128,pre++[(k%128+128).toUInt8],by go_num,by omega,?_,hrow.push ((Below.refl _ _).alloc (Nat.le_refl _) _) hown1 hg1⟩
      rw[List.append_assoc,←henc,h1];rfl
     case measure=>simp[intOf];omega)
theorem xflag (b:Bool) (w:World):Calls Tryz.prog 133 #[.bool b] w (RowPost w (encB b)):=by
 cases b
 all_goals (
  go_enter Tryz.func133,Tryz.ntmps133
  go_wp2
  go_ret)
 · exact⟨some ⟨w.heap.size,0,none⟩,1,rfl,Nat.le_refl _,by unfold maxLen;omega,World.ownsRow_lit w #[.int .u8 0] 1 (Nat.le_refl _) (by unfold maxLen;omega) rfl,(Below.refl _ _).alloc (Nat.le_refl _) _⟩
 · exact⟨some ⟨w.heap.size,0,none⟩,1,rfl,Nat.le_refl _,by unfold maxLen;omega,World.ownsRow_lit w #[.int .u8 1] 1 (Nat.le_refl _) (by unfold maxLen;omega) rfl,(Below.refl _ _).alloc (Nat.le_refl _) _⟩
def XFloatRel (w:World) (x:Nat) (u out i:Value) (wr:World):Prop:=
 ∃(j k:Nat) (pre:List UInt8),j≤8∧i=.int .i64 (j:Int)∧u=.int .u64 (k:Int)∧k<18446744073709551616∧pre.length=j∧pre++leW (8-j) k=leW 8 x∧RowRel w pre out wr
theorem xfloat (a:Nat) (w:World) (ha:a<18446744073709551616):Calls Tryz.prog 134 #[.float .f64 a] w (RowPost w (leW 8 (canonB a))):=by
 obtain⟨i0,hi0,hz0,hz1,hz2⟩:=info_partsW u8_info
 have hcan:canonB a<18446744073709551616:=canonB_lt ha
 go_enter Tryz.func134,Tryz.ntmps134
 go_wp2_with ((with_reducible refine(xbits _ _).mono ?_);rintro e w' ⟨rfl,rfl⟩)
 go_loopw [3,4,5] (fun u out i wr=>XFloatRel w (canonB a) u out i wr) (fun _ _ i _=>8-(intOf i).toNat)
 case atStart=>exact⟨0,_,[],by omega,rfl,rfl,hcan,rfl,rfl,RowRel.start w⟩
 case round=>
  obtain⟨j,k,pre,hj,rfl,rfl,hk,hpl,henc,hrow⟩:=hrel
  have hl8:pre.length≤8:=by omega
  have hzz:=hrow.2.size
  have HP:=Lib.hid hpl
  clear hpl
  obtain⟨A1,c1,rfl,hA1,hA2⟩:=own_form hrow.1
  by_cases hlt:j<8
  · go_wp2_with (first
     |(at_builtin
       refine wpList_append_any _ rfl (.tmp 12) (.tmp 16) _ rfl w.heap.size 5 i0 _ 1 1 Tryz.underlying48 hi0 hz0 hz1 hz2 rfl (by omega) (.slice A1 pre.length c1) _ (bytesV pre) (by rfl) (hrow.1.alloc _) (wr.heap.size+1) (some ⟨wr.heap.size,0,none⟩) 1 1 (bytesV [(k%256).toUInt8]) (by rfl)
               (by rw[mod_byte k];exact reads_new wr 5 _ 1 rfl) (bytesV_one _) (by unfold maxLen;omega) (by omega) (by simp;omega) ?_
       intro v2 w1 hown1 hg1 hat1))
    go_roundw
    case rel=>
        refine⟨j+1,k/256,pre++[(k%256).toUInt8],by omega,by go_num,by go_num,by omega,by simp[HP.out],?_,hrow.push ((Below.refl _ _).alloc (Nat.le_refl _) _) hown1 hg1⟩
        rw[List.append_assoc,←henc,show 8-j=(8-(j+1))+1 from by omega];rfl
    case measure=>simp[intOf];omega
  · obtain rfl:j=8:=by omega
    have hen:pre=leW 8 (canonB a):=by simpa [leW] using henc
    have HE:=Lib.hid hen
    clear hen henc
    go_wp2
    go_ret
    rw[←HE.out]
    exact hrow.post
theorem xtext (s:ByteArray) (w:World) (hs:s.size≤1000000000000):Calls Tryz.prog 75 #[.string s] w (RowPost w (encT s.data.toList)):=by
 obtain⟨i0,hi0,hz0,hz1,hz2⟩:=info_partsW u8_info
 have hel:(encI (s.size:Int)).length≤10:=encI_len (by omega) (by omega)
 go_enter Tryz.func75,Tryz.ntmps75
 go_wp2_with (first
         |((with_reducible refine(xint _ _ (by omega) (by omega)).mono ?_);rintro e w1 ⟨A1,c1,rfl,hA1,hA2,hown,hb⟩)
         |(at_builtin
           refine wpList_append_str _ rfl (.tmp 5) (.tmp 6) _ _ rfl w.heap.size 5 i0 Tryz.underlying48 Tryz.underlying9 hi0 hz0 hz1 hz2 (.slice A1 (encI (s.size:Int)).length c1) _ (bytesV (encI (s.size:Int))) (by rfl) hown s (by rfl)
              (by unfold maxLen;omega) (by omega) hb.size ?_
           intro v2 w2 hown1 hg1 hat1))
 have hsz:s.size=s.data.toList.length:=(Array.length_toList (xs:=s.data)).symm
 have hr:=RowRel.push (w:=w) (more:=s.data.toList) ⟨hown,hb⟩ (Below.refl _ _) (by rw[←hsz];exact hown1) hg1
 go_ret
 unfold encT
 rw[←hsz]
 exact hr.post
def CopyRelW (w:World) (bs:List UInt8) (out i:Value) (wr:World):Prop:=∃k:Nat,k≤bs.length∧i=.int .i64 (k:Int)∧RowRel w (bs.take k) out wr
theorem xcopy (A:Option Addr) (n c:Nat) (bs:List UInt8) (w:World) (h:Reads w w.heap.size 1 A n (bytesV bs)) (hn:n≤1000000000000):Calls Tryz.prog 22 #[.slice A n c] w (RowPost w bs):=by
 obtain⟨i0,hi0,hz0,hz1,hz2⟩:=info_partsW u8_info
 have hlen:bs.length=n:=by have:=h.1;simpa using this
 have HL:=Lib.hid hlen
 have hle:bs.length≤n:=by omega
 have hge:n≤bs.length:=by omega
 clear hlen
 go_enter Tryz.func22,Tryz.ntmps22
 go_wp2
 go_loopw [3,4] (fun out i wr=>CopyRelW w bs out i wr) (fun _ i _=>n-(intOf i).toNat)
 case atStart=>exact⟨0,Nat.zero_le _,rfl,RowRel.start w⟩
 case round=>
  obtain⟨k,hk,rfl,hrow⟩:=hrel
  obtain⟨A1,c1,rfl,hA1,hA2⟩:=own_form hrow.1
  have hzz:=hrow.2.size
  have htl:(bs.take k).length≤k:=List.length_take_le _ _
  by_cases hlt:k<n
  · obtain⟨ad,x,rfl,hb,hx,hc⟩:=h.at_ hlt
    have hxl:∃y,bs[k]?=some y∧x=.int .u8 (y.toNat:Int):=by
        have hk2:bs[k]?=some bs[k]:=List.getElem?_eq_getElem (by omega)
        rw[List.getElem?_map,hk2]at hx
        exact⟨_,hk2,(Option.some.inj hx).symm⟩
    obtain⟨y,hy,rfl⟩:=hxl
    have hcw:wr.cell? (ad.add k)=some (.int .u8 (y.toNat:Int)):=by rw[hrow.2.cell (by rw[block_of_add];exact hb)];exact hc
    have HT:RowKit.Hid (bs.take (k+1)=bs.take k++[y]):=Lib.hid (by rw[List.take_add_one,hy];rfl)
    clear hx hy hc
    go_wp2_with (first
     |(at_builtin
       refine wpList_append_any _ rfl (.tmp 11) (.tmp 16) _ rfl w.heap.size 5 i0 _ 1 1 Tryz.underlying48 hi0 hz0 hz1 hz2 rfl (by omega) (.slice A1 (bs.take k).length c1) _ (bytesV (bs.take k)) (by rfl) (hrow.1.alloc _) (wr.heap.size+1) (some ⟨wr.heap.size,0,none⟩) 1 1 (bytesV [y]) (by rfl)
               (reads_new wr 5 _ 1 rfl) (bytesV_one _) (by unfold maxLen;omega) (by omega) (by simp;omega) ?_
       intro v2 w1 hown1 hg1 hat1))
    go_roundw
    case rel=>
        refine⟨k+1,by omega,by go_num,?_⟩
        rw[HT.out]
        exact hrow.push ((Below.refl _ _).alloc (Nat.le_refl _) _) hown1 hg1
    case measure=>simp[intOf];omega
  · have he:bs.take k=bs:=List.take_of_length_le (by omega)
    have HE:=Lib.hid he
    clear he
    go_wp2
    go_ret
    have:=hrow.post
    rw[HE.out]at this
    rw[HE.out]
    exact this
end Go.Proofs.YthdmanadhbpogaaGreat
/- The walks of the document's bytes: stamps, numbers of transactions, values. -/
namespace Go.Proofs.YthdmanadhbpogaaGreat
set_option maxHeartbeats 2000000
set_option maxRecDepth 100000
set_option linter.unusedVariables false
open Go.RowKit Fl
attribute [local go_sem] run_store_float
theorem RowPost.down {w X w':World} {bs:List UInt8} {e:Ending} (hX:Below w.heap.size w X) (h:RowPost X bs e w'):RowPost w bs e w':=by
 obtain⟨A,c,h1,h2,h3,h4,h5⟩:=h
 exact⟨A,c,h1,h2,h3,owns_down h4 hX.size,hX.trans (h5.mono hX.size)⟩
theorem named (a b:List UInt8):∃P:List UInt8,RowKit.Hid (P=a++b)∧RowKit.Hid (P.length=a.length+b.length):=⟨a++b,Lib.hid rfl,Lib.hid (List.length_append)⟩
theorem RowRel.below {w wr w2:World} {bs:List UInt8} {v:Value} (h:RowRel w bs v wr) (hb:Below wr.heap.size wr w2):RowRel w bs v w2:=
 ⟨h.1.kept (row:=none) ⟨hb.os,hb.tape,hb.output,hb.size,fun k hk _=>hb.block k hk⟩ (by cases v.ownBlock<;>simp),h.2.trans (hb.mono h.2.size)⟩
theorem xStamp (s:Sp) (w:World) (ok:s.ok):Calls Tryz.prog 74 #[s.val] w (RowPost w (encSp s)):=by
 obtain⟨⟨k1,k1'⟩,⟨k2,k2'⟩,k3,k3'⟩:=ok
 have e1:(encI s.w).length≤10:=encI_len k1 k1'
 have e2:(encI s.l).length≤10:=encI_len k2 k2'
 have e3:(encI s.n).length≤10:=encI_len k3 k3'
 obtain⟨i0,hi0,hz0,hz1,hz2⟩:=info_partsW u8_info
 have HX:Below w.heap.size w (w.alloc (.cells #[.int .i64 s.w,.int .i64 s.l,.int .i64 s.n] 25)):=by go_grown
 have HB:w.heap.size<((w.alloc (.cells #[.int .i64 s.w,.int .i64 s.l,.int .i64 s.n] 25))).heap.size:=by simp
 have C0:((w.alloc (.cells #[.int .i64 s.w,.int .i64 s.l,.int .i64 s.n] 25))).cell? ⟨w.heap.size,0,none⟩=some (.int .i64 s.w):=(Blk.new w 25 #[.int .i64 s.w,.int .i64 s.l,.int .i64 s.n]).cell 0
 have C1:((w.alloc (.cells #[.int .i64 s.w,.int .i64 s.l,.int .i64 s.n] 25))).cell? ⟨w.heap.size,1,none⟩=some (.int .i64 s.l):=(Blk.new w 25 #[.int .i64 s.w,.int .i64 s.l,.int .i64 s.n]).cell 1
 have C2:((w.alloc (.cells #[.int .i64 s.w,.int .i64 s.l,.int .i64 s.n] 25))).cell? ⟨w.heap.size,2,none⟩=some (.int .i64 s.n):=(Blk.new w 25 #[.int .i64 s.w,.int .i64 s.l,.int .i64 s.n]).cell 2
 go_enter Tryz.func74,Tryz.ntmps74
 go_wp2_with fail
 refine(xint s.w _ k1 k1').mono ?_
 rintro e w1 ⟨A1,q1,rfl,hq1,hm1,hown1,hb1⟩
 have hrow1:RowRel (w.alloc (.cells #[.int .i64 s.w,.int .i64 s.l,.int .i64 s.n] 25)) (encI s.w) (.slice A1 (encI s.w).length q1) w1:=⟨hown1,hb1⟩
 have c1_0:(w1).cell? ⟨w.heap.size,0,none⟩=some (.int .i64 s.w):=(hrow1.2.cell (p:=⟨w.heap.size,0,none⟩) HB).trans C0
 have c1_1:(w1).cell? ⟨w.heap.size,1,none⟩=some (.int .i64 s.l):=(hrow1.2.cell (p:=⟨w.heap.size,1,none⟩) HB).trans C1
 have c1_2:(w1).cell? ⟨w.heap.size,2,none⟩=some (.int .i64 s.n):=(hrow1.2.cell (p:=⟨w.heap.size,2,none⟩) HB).trans C2
 go_wp2_with fail
 refine(xint s.l _ k2 k2').mono ?_
 rintro e w2 ⟨A2,q2,rfl,hq2,hm2,hown2,hb2⟩
 have hrow2:=hrow1.below hb2
 have z2a:(encI s.w).length+(encI s.l).length≤maxLen:=by unfold maxLen;omega
 have z2b:((encI s.w).length+(encI s.l).length)*1≤140737488355328:=by omega
 go_wp2_with (at_builtin;refine wpList_append_any _ rfl _ _ _ rfl ((w.alloc (.cells #[.int .i64 s.w,.int .i64 s.l,.int .i64 s.n] 25))).heap.size 5 i0 _ 1 1 Tryz.underlying48 hi0 hz0 hz1 hz2 rfl (by omega) (.slice A1 (encI s.w).length q1) _ (bytesV (encI s.w)) (by rfl) hrow2.1 w2.heap.size A2 (encI s.l).length q2 (bytesV (encI s.l)) (by rfl) (Reads.of_own hown2) (bytesV_one _) z2a z2b hrow2.2.size ?_;intro v2' w2' hown2' hg2' hat2';have hr2:=hrow2.push (Below.refl _ _) hown2' hg2';obtain⟨P2,HP2,LP2⟩:=named (encI s.w) (encI s.l);rw[←HP2.out]at hr2;obtain⟨A2',q2',rfl,hq2',hm2'⟩:=own_form hr2.1;have c2_0:(w2').cell? ⟨w.heap.size,0,none⟩=some (.int .i64 s.w):=(hr2.2.cell (p:=⟨w.heap.size,0,none⟩) HB).trans C0;have c2_1:(w2').cell? ⟨w.heap.size,1,none⟩=some (.int .i64 s.l):=(hr2.2.cell (p:=⟨w.heap.size,1,none⟩) HB).trans C1;have c2_2:(w2').cell? ⟨w.heap.size,2,none⟩=some (.int .i64 s.n):=(hr2.2.cell (p:=⟨w.heap.size,2,none⟩) HB).trans C2)
 clear z2a z2b hown2' hg2' hat2' hrow2 hown2 hb2
 go_wp2_with fail
 refine(xint s.n _ k3 k3').mono ?_
 rintro e w3 ⟨A3,q3,rfl,hq3,hm3,hown3,hb3⟩
 have hrow3:=hr2.below hb3
 have z3a:(P2).length+(encI s.n).length≤maxLen:=by unfold maxLen;have:=LP2.out;omega
 have z3b:((P2).length+(encI s.n).length)*1≤140737488355328:=by have:=LP2.out;omega
 go_wp2_with (at_builtin;refine wpList_append_any _ rfl _ _ _ rfl ((w.alloc (.cells #[.int .i64 s.w,.int .i64 s.l,.int .i64 s.n] 25))).heap.size 5 i0 _ 1 1 Tryz.underlying48 hi0 hz0 hz1 hz2 rfl (by omega) (.slice A2' P2.length q2') _ (bytesV (P2)) (by rfl) hrow3.1 w3.heap.size A3 (encI s.n).length q3 (bytesV (encI s.n)) (by rfl) (Reads.of_own hown3) (bytesV_one _) z3a z3b hrow3.2.size ?_;intro v3' w3' hown3' hg3' hat3';have hr3:=hrow3.push (Below.refl _ _) hown3' hg3';obtain⟨P3,HP3,LP3⟩:=named (P2) (encI s.n);rw[←HP3.out]at hr3;obtain⟨A3',q3',rfl,hq3',hm3'⟩:=own_form hr3.1;have c3_0:(w3').cell? ⟨w.heap.size,0,none⟩=some (.int .i64 s.w):=(hr3.2.cell (p:=⟨w.heap.size,0,none⟩) HB).trans C0;have c3_1:(w3').cell? ⟨w.heap.size,1,none⟩=some (.int .i64 s.l):=(hr3.2.cell (p:=⟨w.heap.size,1,none⟩) HB).trans C1;have c3_2:(w3').cell? ⟨w.heap.size,2,none⟩=some (.int .i64 s.n):=(hr3.2.cell (p:=⟨w.heap.size,2,none⟩) HB).trans C2)
 clear z3a z3b hown3' hg3' hat3' hrow3 hown3 hb3
 have HP:=RowPost.down HX hr3.post
 have HQ:encSp s=P3:=by rw[HP3.out,HP2.out];simp only[encSp,List.append_assoc]
 go_ret
 rw[HQ]
 exact HP
theorem xTxn (s:Tx) (w:World) (ok:s.ok):Calls Tryz.prog 77 #[s.val] w (RowPost w (encTx s)):=by
 obtain⟨⟨k1,k1'⟩,⟨k2,k2'⟩,k3,k3'⟩:=ok
 have e1:(encI s.c).length≤10:=encI_len k1 k1'
 have e2:(encI s.l).length≤10:=encI_len k2 k2'
 have e3:(encI s.s).length≤10:=encI_len k3 k3'
 obtain⟨i0,hi0,hz0,hz1,hz2⟩:=info_partsW u8_info
 have HX:Below w.heap.size w (w.alloc (.cells #[.int .i64 s.c,.int .i64 s.l,.int .i64 s.s] 23)):=by go_grown
 have HB:w.heap.size<((w.alloc (.cells #[.int .i64 s.c,.int .i64 s.l,.int .i64 s.s] 23))).heap.size:=by simp
 have C0:((w.alloc (.cells #[.int .i64 s.c,.int .i64 s.l,.int .i64 s.s] 23))).cell? ⟨w.heap.size,0,none⟩=some (.int .i64 s.c):=(Blk.new w 23 #[.int .i64 s.c,.int .i64 s.l,.int .i64 s.s]).cell 0
 have C1:((w.alloc (.cells #[.int .i64 s.c,.int .i64 s.l,.int .i64 s.s] 23))).cell? ⟨w.heap.size,1,none⟩=some (.int .i64 s.l):=(Blk.new w 23 #[.int .i64 s.c,.int .i64 s.l,.int .i64 s.s]).cell 1
 have C2:((w.alloc (.cells #[.int .i64 s.c,.int .i64 s.l,.int .i64 s.s] 23))).cell? ⟨w.heap.size,2,none⟩=some (.int .i64 s.s):=(Blk.new w 23 #[.int .i64 s.c,.int .i64 s.l,.int .i64 s.s]).cell 2
 go_enter Tryz.func77,Tryz.ntmps77
 go_wp2_with fail
 refine(xint s.c _ k1 k1').mono ?_
 rintro e w1 ⟨A1,q1,rfl,hq1,hm1,hown1,hb1⟩
 have hrow1:RowRel (w.alloc (.cells #[.int .i64 s.c,.int .i64 s.l,.int .i64 s.s] 23)) (encI s.c) (.slice A1 (encI s.c).length q1) w1:=⟨hown1,hb1⟩
 have c1_0:(w1).cell? ⟨w.heap.size,0,none⟩=some (.int .i64 s.c):=(hrow1.2.cell (p:=⟨w.heap.size,0,none⟩) HB).trans C0
 have c1_1:(w1).cell? ⟨w.heap.size,1,none⟩=some (.int .i64 s.l):=(hrow1.2.cell (p:=⟨w.heap.size,1,none⟩) HB).trans C1
 have c1_2:(w1).cell? ⟨w.heap.size,2,none⟩=some (.int .i64 s.s):=(hrow1.2.cell (p:=⟨w.heap.size,2,none⟩) HB).trans C2
 go_wp2_with fail
 refine(xint s.l _ k2 k2').mono ?_
 rintro e w2 ⟨A2,q2,rfl,hq2,hm2,hown2,hb2⟩
 have hrow2:=hrow1.below hb2
 have z2a:(encI s.c).length+(encI s.l).length≤maxLen:=by unfold maxLen;omega
 have z2b:((encI s.c).length+(encI s.l).length)*1≤140737488355328:=by omega
 go_wp2_with (at_builtin;refine wpList_append_any _ rfl _ _ _ rfl ((w.alloc (.cells #[.int .i64 s.c,.int .i64 s.l,.int .i64 s.s] 23))).heap.size 5 i0 _ 1 1 Tryz.underlying48 hi0 hz0 hz1 hz2 rfl (by omega) (.slice A1 (encI s.c).length q1) _ (bytesV (encI s.c)) (by rfl) hrow2.1 w2.heap.size A2 (encI s.l).length q2 (bytesV (encI s.l)) (by rfl) (Reads.of_own hown2) (bytesV_one _) z2a z2b hrow2.2.size ?_;intro v2' w2' hown2' hg2' hat2';have hr2:=hrow2.push (Below.refl _ _) hown2' hg2';obtain⟨P2,HP2,LP2⟩:=named (encI s.c) (encI s.l);rw[←HP2.out]at hr2;obtain⟨A2',q2',rfl,hq2',hm2'⟩:=own_form hr2.1;have c2_0:(w2').cell? ⟨w.heap.size,0,none⟩=some (.int .i64 s.c):=(hr2.2.cell (p:=⟨w.heap.size,0,none⟩) HB).trans C0;have c2_1:(w2').cell? ⟨w.heap.size,1,none⟩=some (.int .i64 s.l):=(hr2.2.cell (p:=⟨w.heap.size,1,none⟩) HB).trans C1;have c2_2:(w2').cell? ⟨w.heap.size,2,none⟩=some (.int .i64 s.s):=(hr2.2.cell (p:=⟨w.heap.size,2,none⟩) HB).trans C2)
 clear z2a z2b hown2' hg2' hat2' hrow2 hown2 hb2
 go_wp2_with fail
 refine(xint s.s _ k3 k3').mono ?_
 rintro e w3 ⟨A3,q3,rfl,hq3,hm3,hown3,hb3⟩
 have hrow3:=hr2.below hb3
 have z3a:(P2).length+(encI s.s).length≤maxLen:=by unfold maxLen;have:=LP2.out;omega
 have z3b:((P2).length+(encI s.s).length)*1≤140737488355328:=by have:=LP2.out;omega
 go_wp2_with (at_builtin;refine wpList_append_any _ rfl _ _ _ rfl ((w.alloc (.cells #[.int .i64 s.c,.int .i64 s.l,.int .i64 s.s] 23))).heap.size 5 i0 _ 1 1 Tryz.underlying48 hi0 hz0 hz1 hz2 rfl (by omega) (.slice A2' P2.length q2') _ (bytesV (P2)) (by rfl) hrow3.1 w3.heap.size A3 (encI s.s).length q3 (bytesV (encI s.s)) (by rfl) (Reads.of_own hown3) (bytesV_one _) z3a z3b hrow3.2.size ?_;intro v3' w3' hown3' hg3' hat3';have hr3:=hrow3.push (Below.refl _ _) hown3' hg3';obtain⟨P3,HP3,LP3⟩:=named (P2) (encI s.s);rw[←HP3.out]at hr3;obtain⟨A3',q3',rfl,hq3',hm3'⟩:=own_form hr3.1;have c3_0:(w3').cell? ⟨w.heap.size,0,none⟩=some (.int .i64 s.c):=(hr3.2.cell (p:=⟨w.heap.size,0,none⟩) HB).trans C0;have c3_1:(w3').cell? ⟨w.heap.size,1,none⟩=some (.int .i64 s.l):=(hr3.2.cell (p:=⟨w.heap.size,1,none⟩) HB).trans C1;have c3_2:(w3').cell? ⟨w.heap.size,2,none⟩=some (.int .i64 s.s):=(hr3.2.cell (p:=⟨w.heap.size,2,none⟩) HB).trans C2)
 clear z3a z3b hown3' hg3' hat3' hrow3 hown3 hb3
 have HP:=RowPost.down HX hr3.post
 have HQ:encTx s=P3:=by rw[HP3.out,HP2.out];simp only[encTx,List.append_assoc]
 go_ret
 rw[HQ]
 exact HP
theorem xRange (r:Rg) (w:World) (ok:r.ok):Calls Tryz.prog 73 #[.agg #[.int .i64 r.id,.int .i64 r.ep,.float .f64 r.lo,.float .f64 r.hi]] w (RowPost w (encRg r)):=by
 obtain⟨⟨k1,k1'⟩,⟨k2,k2'⟩,k3,k4⟩:=ok
 have e1:(encI r.id).length≤10:=encI_len k1 k1'
 have e2:(encI r.ep).length≤10:=encI_len k2 k2'
 have e3:(encF64 r.lo).length=8:=leW_len 8 _
 have e4:(encF64 r.hi).length=8:=leW_len 8 _
 obtain⟨i0,hi0,hz0,hz1,hz2⟩:=info_partsW u8_info
 have HX:Below w.heap.size w (w.alloc (.cells #[.int .i64 r.id,.int .i64 r.ep,.float .f64 r.lo,.float .f64 r.hi] 32)):=by go_grown
 have HB:w.heap.size<((w.alloc (.cells #[.int .i64 r.id,.int .i64 r.ep,.float .f64 r.lo,.float .f64 r.hi] 32))).heap.size:=by simp
 have C0:((w.alloc (.cells #[.int .i64 r.id,.int .i64 r.ep,.float .f64 r.lo,.float .f64 r.hi] 32))).cell? ⟨w.heap.size,0,none⟩=some (.int .i64 r.id):=(Blk.new w 32 #[.int .i64 r.id,.int .i64 r.ep,.float .f64 r.lo,.float .f64 r.hi]).cell 0
 have C1:((w.alloc (.cells #[.int .i64 r.id,.int .i64 r.ep,.float .f64 r.lo,.float .f64 r.hi] 32))).cell? ⟨w.heap.size,1,none⟩=some (.int .i64 r.ep):=(Blk.new w 32 #[.int .i64 r.id,.int .i64 r.ep,.float .f64 r.lo,.float .f64 r.hi]).cell 1
 have C2:((w.alloc (.cells #[.int .i64 r.id,.int .i64 r.ep,.float .f64 r.lo,.float .f64 r.hi] 32))).cell? ⟨w.heap.size,2,none⟩=some (.float .f64 r.lo):=(Blk.new w 32 #[.int .i64 r.id,.int .i64 r.ep,.float .f64 r.lo,.float .f64 r.hi]).cell 2
 have C3:((w.alloc (.cells #[.int .i64 r.id,.int .i64 r.ep,.float .f64 r.lo,.float .f64 r.hi] 32))).cell? ⟨w.heap.size,3,none⟩=some (.float .f64 r.hi):=(Blk.new w 32 #[.int .i64 r.id,.int .i64 r.ep,.float .f64 r.lo,.float .f64 r.hi]).cell 3
 go_enter Tryz.func73,Tryz.ntmps73
 go_wp2_with fail
 refine wp_region_held_drew (S:=fun W'=>Below ((w.alloc (.cells #[.int .i64 r.id,.int .i64 r.ep,.float .f64 r.lo,.float .f64 r.hi] 32))).heap.size ((w.alloc (.cells #[.int .i64 r.id,.int .i64 r.ep,.float .f64 r.lo,.float .f64 r.hi] 32))) W') (by kernel_rfl) (Below.refl _ _).drew (fun hHeld=>?_)
 refine tc 0 4 ?_
 go_frame
 refine ts 1 5 rfl (v:=.int .i64 r.id) (fun W hSw=>by have z:=(hSw.cell (p:=⟨w.heap.size,0,none⟩) HB).trans C0;clear hSw;go_simp) ?_
 go_frame
 refine tc 3 7 ?_
 go_frame
 refine ts 4 8 rfl (v:=.int .i64 r.ep) (fun W hSw=>by have z:=(hSw.cell (p:=⟨w.heap.size,1,none⟩) HB).trans C1;clear hSw;go_simp) ?_
 go_frame
 have s0:Below ((w.alloc (.cells #[.int .i64 r.id,.int .i64 r.ep,.float .f64 r.lo,.float .f64 r.hi] 32))).heap.size ((w.alloc (.cells #[.int .i64 r.id,.int .i64 r.ep,.float .f64 r.lo,.float .f64 r.hi] 32))) ((w.alloc (.cells #[.int .i64 r.id,.int .i64 r.ep,.float .f64 r.lo,.float .f64 r.hi] 32))).drew:=(Below.refl _ _).drew
 refine tr (o:=⟨some 6,_,_,_,_,_⟩) 2 rfl fun K hK=>?_
 go_simp
 (with_reducible refine(xint r.id _ k1 k1').mono ?_)
 rintro e w1 ⟨A1,q1,rfl,hq1,hm1,hown1,hb1⟩
 have s1:Below ((w.alloc (.cells #[.int .i64 r.id,.int .i64 r.ep,.float .f64 r.lo,.float .f64 r.hi] 32))).heap.size ((w.alloc (.cells #[.int .i64 r.id,.int .i64 r.ep,.float .f64 r.lo,.float .f64 r.hi] 32))) w1:=s0.trans (hb1.mono (s0).size)
 refine hK.out _ _ s1 (fun hHeld=>?_)
 clear hK K
 try go_frame
 have hrow1:RowRel ((w.alloc (.cells #[.int .i64 r.id,.int .i64 r.ep,.float .f64 r.lo,.float .f64 r.hi] 32))) (encI r.id) (.slice A1 (encI r.id).length q1) w1:=⟨hown1,s1⟩
 refine tr (o:=⟨some 9,_,_,_,_,_⟩) 5 rfl fun K hK=>?_
 go_simp
 (with_reducible refine(xint r.ep _ k2 k2').mono ?_)
 rintro e w2 ⟨A2,q2,rfl,hq2,hm2,hown2,hb2⟩
 have s2:Below ((w.alloc (.cells #[.int .i64 r.id,.int .i64 r.ep,.float .f64 r.lo,.float .f64 r.hi] 32))).heap.size ((w.alloc (.cells #[.int .i64 r.id,.int .i64 r.ep,.float .f64 r.lo,.float .f64 r.hi] 32))) w2:=s1.trans (hb2.mono (s1).size)
 refine hK.out _ _ s2 (fun hHeld=>?_)
 clear hK K
 try go_frame
 have hrow2:=hrow1.below hb2
 have za:(encI r.id).length+(encI r.ep).length≤maxLen:=by unfold maxLen;omega
 have zb:((encI r.id).length+(encI r.ep).length)*1≤140737488355328:=by omega
 refine tr (o:=⟨some 10,_,_,_,_,_⟩) 6 rfl fun K hK=>?_
 refine step_append_any _ rfl _ _ _ rfl ((w.alloc (.cells #[.int .i64 r.id,.int .i64 r.ep,.float .f64 r.lo,.float .f64 r.hi] 32))).heap.size 5 i0 _ 1 1 Tryz.underlying48 hi0 hz0 hz1 hz2 rfl (by omega) (.slice A1 (encI r.id).length q1) _ (bytesV (encI r.id)) (by rfl) hrow2.1 w2.heap.size A2 (encI r.ep).length q2 (bytesV (encI r.ep)) (by rfl) (Reads.of_own hown2) (bytesV_one _) za zb hrow2.2.size ?_
 intro v2' w2' hown2' hg2' hat2'
 have hr2:=hrow2.push (Below.refl _ _) hown2' hg2'
 obtain⟨P2,HP2,LP2⟩:=named (encI r.id) (encI r.ep)
 rw[←HP2.out]at hr2
 obtain⟨A2',q2',rfl,hq2',hm2'⟩:=own_form hr2.1
 refine hK.out _ _ hr2.2 (fun hHeld=>?_)
 clear hK K
 try go_frame
 refine tc 7 3 ?_
 go_frame
 refine td ?_
 clear za zb hown2' hg2' hat2' hrow1 hrow2 hown1 hown2 hb1 hb2 s0 s1 s2 hHeld
 have c2_0:w2'.cell? ⟨w.heap.size,0,none⟩=some (.int .i64 r.id):=(hr2.2.cell (p:=⟨w.heap.size,0,none⟩) HB).trans C0
 have c2_1:w2'.cell? ⟨w.heap.size,1,none⟩=some (.int .i64 r.ep):=(hr2.2.cell (p:=⟨w.heap.size,1,none⟩) HB).trans C1
 have c2_2:w2'.cell? ⟨w.heap.size,2,none⟩=some (.float .f64 r.lo):=(hr2.2.cell (p:=⟨w.heap.size,2,none⟩) HB).trans C2
 have c2_3:w2'.cell? ⟨w.heap.size,3,none⟩=some (.float .f64 r.hi):=(hr2.2.cell (p:=⟨w.heap.size,3,none⟩) HB).trans C3
 go_wp2_with fail
 refine(xfloat r.lo _ k3).mono ?_
 rintro e w3 ⟨A3,q3,rfl,hq3,hm3,hown3,hb3⟩
 have hrow3:=hr2.below hb3
 have z3a:(P2).length+(encF64 r.lo).length≤maxLen:=by unfold maxLen;have:=LP2.out;omega
 have z3b:((P2).length+(encF64 r.lo).length)*1≤140737488355328:=by have:=LP2.out;omega
 go_wp2_with (at_builtin;refine wpList_append_any _ rfl _ _ _ rfl ((w.alloc (.cells #[.int .i64 r.id,.int .i64 r.ep,.float .f64 r.lo,.float .f64 r.hi] 32))).heap.size 5 i0 _ 1 1 Tryz.underlying48 hi0 hz0 hz1 hz2 rfl (by omega) (.slice A2' P2.length q2') _ (bytesV (P2)) (by rfl) hrow3.1 w3.heap.size A3 (encF64 r.lo).length q3 (bytesV (encF64 r.lo)) (by rfl) (Reads.of_own hown3) (bytesV_one _) z3a z3b hrow3.2.size ?_;intro v3' w3' hown3' hg3' hat3';have hr3:=hrow3.push (Below.refl _ _) hown3' hg3';obtain⟨P3,HP3,LP3⟩:=named (P2) (encF64 r.lo);rw[←HP3.out]at hr3;obtain⟨A3',q3',rfl,hq3',hm3'⟩:=own_form hr3.1;have c3_0:(w3').cell? ⟨w.heap.size,0,none⟩=some (.int .i64 r.id):=(hr3.2.cell (p:=⟨w.heap.size,0,none⟩) HB).trans C0;have c3_1:(w3').cell? ⟨w.heap.size,1,none⟩=some (.int .i64 r.ep):=(hr3.2.cell (p:=⟨w.heap.size,1,none⟩) HB).trans C1;have c3_2:(w3').cell? ⟨w.heap.size,2,none⟩=some (.float .f64 r.lo):=(hr3.2.cell (p:=⟨w.heap.size,2,none⟩) HB).trans C2;have c3_3:(w3').cell? ⟨w.heap.size,3,none⟩=some (.float .f64 r.hi):=(hr3.2.cell (p:=⟨w.heap.size,3,none⟩) HB).trans C3)
 clear z3a z3b hown3' hg3' hat3' hrow3 hown3 hb3
 go_wp2_with fail
 refine(xfloat r.hi _ k4).mono ?_
 rintro e w4 ⟨A4,q4,rfl,hq4,hm4,hown4,hb4⟩
 have hrow4:=hr3.below hb4
 have z4a:(P3).length+(encF64 r.hi).length≤maxLen:=by unfold maxLen;have:=LP2.out;have:=LP3.out;omega
 have z4b:((P3).length+(encF64 r.hi).length)*1≤140737488355328:=by have:=LP2.out;have:=LP3.out;omega
 go_wp2_with (at_builtin;refine wpList_append_any _ rfl _ _ _ rfl ((w.alloc (.cells #[.int .i64 r.id,.int .i64 r.ep,.float .f64 r.lo,.float .f64 r.hi] 32))).heap.size 5 i0 _ 1 1 Tryz.underlying48 hi0 hz0 hz1 hz2 rfl (by omega) (.slice A3' P3.length q3') _ (bytesV (P3)) (by rfl) hrow4.1 w4.heap.size A4 (encF64 r.hi).length q4 (bytesV (encF64 r.hi)) (by rfl) (Reads.of_own hown4) (bytesV_one _) z4a z4b hrow4.2.size ?_;intro v4' w4' hown4' hg4' hat4';have hr4:=hrow4.push (Below.refl _ _) hown4' hg4';obtain⟨P4,HP4,LP4⟩:=named (P3) (encF64 r.hi);rw[←HP4.out]at hr4;obtain⟨A4',q4',rfl,hq4',hm4'⟩:=own_form hr4.1;have c4_0:(w4').cell? ⟨w.heap.size,0,none⟩=some (.int .i64 r.id):=(hr4.2.cell (p:=⟨w.heap.size,0,none⟩) HB).trans C0;have c4_1:(w4').cell? ⟨w.heap.size,1,none⟩=some (.int .i64 r.ep):=(hr4.2.cell (p:=⟨w.heap.size,1,none⟩) HB).trans C1;have c4_2:(w4').cell? ⟨w.heap.size,2,none⟩=some (.float .f64 r.lo):=(hr4.2.cell (p:=⟨w.heap.size,2,none⟩) HB).trans C2;have c4_3:(w4').cell? ⟨w.heap.size,3,none⟩=some (.float .f64 r.hi):=(hr4.2.cell (p:=⟨w.heap.size,3,none⟩) HB).trans C3)
 clear z4a z4b hown4' hg4' hat4' hrow4 hown4 hb4
 have HP:=RowPost.down HX hr4.post
 have HQ:encRg r=P4:=by rw[HP4.out,HP3.out,HP2.out];simp only[encRg,List.append_assoc]
 go_ret
 rw[HQ]
 exact HP
end Go.Proofs.YthdmanadhbpogaaGreat
/- The walks of the document's bytes: values, lists. -/
namespace Go.Proofs.YthdmanadhbpogaaGreat
set_option maxHeartbeats 2000000
set_option maxRecDepth 100000
set_option linter.unusedVariables false
open Go.RowKit Fl
attribute [local go_sem] run_store_float
theorem xPut (v:Vl) (w:World) (hok:v.ok) (hlen:(encVl v).length≤1000000000000):Calls Tryz.prog 76 #[v.val] w (RowPost w (encVl v)):=by
 have hM:=fun w'=>rvmay_any v w'
 cases hm:v.may
 · have he:encVl v=encI 0:=by unfold encVl;rw[hm];rfl
   rw[he]
   rw[hm]at hM
   clear he hm hlen
   have HX:Below w.heap.size w (w.alloc (.cells v.cells.toArray 58)):=by go_grown
   go_enter Tryz.func76,Tryz.ntmps76
   go_wp2_with ((with_reducible refine(hM _).mono ?_);rintro e w1 ⟨rfl,hb1⟩)
   have hB:=HX.trans (hb1.mono HX.size)
   go_ret
   exact⟨some ⟨w1.heap.size,0,none⟩,1,rfl,Nat.le_refl _,by unfold maxLen;omega,owns_down (World.ownsRow_lit w1 #[.int .u8 0] 1 (Nat.le_refl _) (by unfold maxLen;omega) rfl) hB.size,hB.alloc hB.size _⟩
 · rcases may_kind hm with hk|hk|hk
   · have he:encVl v=encI 0:=by unfold encVl;rw[hm,hk];rfl
     rw[he]at hlen ⊢
     rw[hm]at hM
     have hx:=hok.2.1
     have hy:=hok.2.2
     obtain⟨vk,vn,vt⟩:=v
     change vk=0 at hk
     subst hk
     clear he hm hok
     obtain⟨i0,hi0,hz0,hz1,hz2⟩:=info_partsW u8_info
     have HX:Below w.heap.size w (w.alloc (.cells #[.int .i64 0,.float .f64 vn,.string vt] 58)):=by go_grown
     have HB:w.heap.size<((w.alloc (.cells #[.int .i64 0,.float .f64 vn,.string vt] 58))).heap.size:=by simp
     have C0:((w.alloc (.cells #[.int .i64 0,.float .f64 vn,.string vt] 58))).cell? ⟨w.heap.size,0,none⟩=some (.int .i64 0):=(Blk.new w 58 #[.int .i64 0,.float .f64 vn,.string vt]).cell 0
     have C1:((w.alloc (.cells #[.int .i64 0,.float .f64 vn,.string vt] 58))).cell? ⟨w.heap.size,1,none⟩=some (.float .f64 vn):=(Blk.new w 58 #[.int .i64 0,.float .f64 vn,.string vt]).cell 1
     have C2:((w.alloc (.cells #[.int .i64 0,.float .f64 vn,.string vt] 58))).cell? ⟨w.heap.size,2,none⟩=some (.string vt):=(Blk.new w 58 #[.int .i64 0,.float .f64 vn,.string vt]).cell 2
     go_enter Tryz.func76,Tryz.ntmps76
     have eK:(encI (0:Int)).length=1:=rfl
     go_wp2_with fail
     refine(hM _).mono ?_
     rintro e w0 ⟨rfl,hb0⟩
     have d0:w0.cell? ⟨w.heap.size,0,none⟩=some (.int .i64 0):=(hb0.cell (p:=⟨w.heap.size,0,none⟩) HB).trans C0
     have d1:w0.cell? ⟨w.heap.size,1,none⟩=some (.float .f64 vn):=(hb0.cell (p:=⟨w.heap.size,1,none⟩) HB).trans C1
     have d2:w0.cell? ⟨w.heap.size,2,none⟩=some (.string vt):=(hb0.cell (p:=⟨w.heap.size,2,none⟩) HB).trans C2
     go_wp2_with fail
     refine(xint 0 _ (by omega) (by omega)).mono ?_
     rintro e w1 ⟨A1,q1,rfl,hq1,hm1,hown1,hb1⟩
     have hrow1:RowRel (w.alloc (.cells #[.int .i64 0,.float .f64 vn,.string vt] 58)) (encI 0) (.slice A1 (encI 0).length q1) w1:=⟨owns_down hown1 hb0.size,hb0.trans (hb1.mono hb0.size)⟩
     have c1_0:(w1).cell? ⟨w.heap.size,0,none⟩=some (.int .i64 0):=(hrow1.2.cell (p:=⟨w.heap.size,0,none⟩) HB).trans C0
     have c1_1:(w1).cell? ⟨w.heap.size,1,none⟩=some (.float .f64 vn):=(hrow1.2.cell (p:=⟨w.heap.size,1,none⟩) HB).trans C1
     have c1_2:(w1).cell? ⟨w.heap.size,2,none⟩=some (.string vt):=(hrow1.2.cell (p:=⟨w.heap.size,2,none⟩) HB).trans C2
     go_wp2
     have HP:=RowPost.down HX hrow1.post
     go_ret
     exact HP
   · have he:encVl v=encI 1++encF64 v.n:=by unfold encVl;rw[hm,hk];rfl
     rw[he]at hlen ⊢
     rw[hm]at hM
     have hx:=hok.2.1
     have hy:=hok.2.2
     obtain⟨vk,vn,vt⟩:=v
     change vk=1 at hk
     subst hk
     clear he hm hok
     obtain⟨i0,hi0,hz0,hz1,hz2⟩:=info_partsW u8_info
     have HX:Below w.heap.size w (w.alloc (.cells #[.int .i64 1,.float .f64 vn,.string vt] 58)):=by go_grown
     have HB:w.heap.size<((w.alloc (.cells #[.int .i64 1,.float .f64 vn,.string vt] 58))).heap.size:=by simp
     have C0:((w.alloc (.cells #[.int .i64 1,.float .f64 vn,.string vt] 58))).cell? ⟨w.heap.size,0,none⟩=some (.int .i64 1):=(Blk.new w 58 #[.int .i64 1,.float .f64 vn,.string vt]).cell 0
     have C1:((w.alloc (.cells #[.int .i64 1,.float .f64 vn,.string vt] 58))).cell? ⟨w.heap.size,1,none⟩=some (.float .f64 vn):=(Blk.new w 58 #[.int .i64 1,.float .f64 vn,.string vt]).cell 1
     have C2:((w.alloc (.cells #[.int .i64 1,.float .f64 vn,.string vt] 58))).cell? ⟨w.heap.size,2,none⟩=some (.string vt):=(Blk.new w 58 #[.int .i64 1,.float .f64 vn,.string vt]).cell 2
     go_enter Tryz.func76,Tryz.ntmps76
     have eK:(encI (1:Int)).length=1:=rfl
     simp only[List.length_append]at hlen
     go_wp2_with fail
     refine(hM _).mono ?_
     rintro e w0 ⟨rfl,hb0⟩
     have d0:w0.cell? ⟨w.heap.size,0,none⟩=some (.int .i64 1):=(hb0.cell (p:=⟨w.heap.size,0,none⟩) HB).trans C0
     have d1:w0.cell? ⟨w.heap.size,1,none⟩=some (.float .f64 vn):=(hb0.cell (p:=⟨w.heap.size,1,none⟩) HB).trans C1
     have d2:w0.cell? ⟨w.heap.size,2,none⟩=some (.string vt):=(hb0.cell (p:=⟨w.heap.size,2,none⟩) HB).trans C2
     go_wp2_with fail
     refine(xint 1 _ (by omega) (by omega)).mono ?_
     rintro e w1 ⟨A1,q1,rfl,hq1,hm1,hown1,hb1⟩
     have hrow1:RowRel (w.alloc (.cells #[.int .i64 1,.float .f64 vn,.string vt] 58)) (encI 1) (.slice A1 (encI 1).length q1) w1:=⟨owns_down hown1 hb0.size,hb0.trans (hb1.mono hb0.size)⟩
     have c1_0:(w1).cell? ⟨w.heap.size,0,none⟩=some (.int .i64 1):=(hrow1.2.cell (p:=⟨w.heap.size,0,none⟩) HB).trans C0
     have c1_1:(w1).cell? ⟨w.heap.size,1,none⟩=some (.float .f64 vn):=(hrow1.2.cell (p:=⟨w.heap.size,1,none⟩) HB).trans C1
     have c1_2:(w1).cell? ⟨w.heap.size,2,none⟩=some (.string vt):=(hrow1.2.cell (p:=⟨w.heap.size,2,none⟩) HB).trans C2
     have e8:(encF64 vn).length=8:=leW_len 8 _
     go_wp2_with fail
     refine(xfloat vn _ hx).mono ?_
     rintro e w2 ⟨A2,q2,rfl,hq2,hm2,hown2,hb2⟩
     have hrow2:=hrow1.below hb2
     have z2a:(encI 1).length+(encF64 vn).length≤maxLen:=by unfold maxLen;omega
     have z2b:((encI 1).length+(encF64 vn).length)*1≤140737488355328:=by omega
     go_wp2_with (at_builtin;refine wpList_append_any _ rfl _ _ _ rfl ((w.alloc (.cells #[.int .i64 1,.float .f64 vn,.string vt] 58))).heap.size 5 i0 _ 1 1 Tryz.underlying48 hi0 hz0 hz1 hz2 rfl (by omega) (.slice A1 (encI 1).length q1) _ (bytesV (encI 1)) (by rfl) hrow2.1 w2.heap.size A2 (encF64 vn).length q2 (bytesV (encF64 vn)) (by rfl) (Reads.of_own hown2) (bytesV_one _) z2a z2b hrow2.2.size ?_;intro v2' w2' hown2' hg2' hat2';have hr2:=hrow2.push (Below.refl _ _) hown2' hg2';obtain⟨P2,HP2,LP2⟩:=named (encI 1) (encF64 vn);rw[←HP2.out]at hr2;obtain⟨A2',q2',rfl,hq2',hm2'⟩:=own_form hr2.1;have c2_0:(w2').cell? ⟨w.heap.size,0,none⟩=some (.int .i64 1):=(hr2.2.cell (p:=⟨w.heap.size,0,none⟩) HB).trans C0;have c2_1:(w2').cell? ⟨w.heap.size,1,none⟩=some (.float .f64 vn):=(hr2.2.cell (p:=⟨w.heap.size,1,none⟩) HB).trans C1;have c2_2:(w2').cell? ⟨w.heap.size,2,none⟩=some (.string vt):=(hr2.2.cell (p:=⟨w.heap.size,2,none⟩) HB).trans C2)
     clear z2a z2b hown2' hg2' hat2' hrow2 hown2 hb2
     go_wp2
     have HP:=RowPost.down HX hr2.post
     have HQ:encI 1++encF64 vn=P2:=by rw[HP2.out]
     go_ret
     rw[HQ]
     exact HP
   · have he:encVl v=encI 2++encKy v.t:=by unfold encVl;rw[hm,hk];rfl
     rw[he]at hlen ⊢
     rw[hm]at hM
     have hx:=hok.2.1
     have hy:=hok.2.2
     obtain⟨vk,vn,vt⟩:=v
     change vk=2 at hk
     subst hk
     clear he hm hok
     obtain⟨i0,hi0,hz0,hz1,hz2⟩:=info_partsW u8_info
     have HX:Below w.heap.size w (w.alloc (.cells #[.int .i64 2,.float .f64 vn,.string vt] 58)):=by go_grown
     have HB:w.heap.size<((w.alloc (.cells #[.int .i64 2,.float .f64 vn,.string vt] 58))).heap.size:=by simp
     have C0:((w.alloc (.cells #[.int .i64 2,.float .f64 vn,.string vt] 58))).cell? ⟨w.heap.size,0,none⟩=some (.int .i64 2):=(Blk.new w 58 #[.int .i64 2,.float .f64 vn,.string vt]).cell 0
     have C1:((w.alloc (.cells #[.int .i64 2,.float .f64 vn,.string vt] 58))).cell? ⟨w.heap.size,1,none⟩=some (.float .f64 vn):=(Blk.new w 58 #[.int .i64 2,.float .f64 vn,.string vt]).cell 1
     have C2:((w.alloc (.cells #[.int .i64 2,.float .f64 vn,.string vt] 58))).cell? ⟨w.heap.size,2,none⟩=some (.string vt):=(Blk.new w 58 #[.int .i64 2,.float .f64 vn,.string vt]).cell 2
     go_enter Tryz.func76,Tryz.ntmps76
     have eK:(encI (2:Int)).length=1:=rfl
     simp only[List.length_append]at hlen
     go_wp2_with fail
     refine(hM _).mono ?_
     rintro e w0 ⟨rfl,hb0⟩
     have d0:w0.cell? ⟨w.heap.size,0,none⟩=some (.int .i64 2):=(hb0.cell (p:=⟨w.heap.size,0,none⟩) HB).trans C0
     have d1:w0.cell? ⟨w.heap.size,1,none⟩=some (.float .f64 vn):=(hb0.cell (p:=⟨w.heap.size,1,none⟩) HB).trans C1
     have d2:w0.cell? ⟨w.heap.size,2,none⟩=some (.string vt):=(hb0.cell (p:=⟨w.heap.size,2,none⟩) HB).trans C2
     go_wp2_with fail
     refine(xint 2 _ (by omega) (by omega)).mono ?_
     rintro e w1 ⟨A1,q1,rfl,hq1,hm1,hown1,hb1⟩
     have hrow1:RowRel (w.alloc (.cells #[.int .i64 2,.float .f64 vn,.string vt] 58)) (encI 2) (.slice A1 (encI 2).length q1) w1:=⟨owns_down hown1 hb0.size,hb0.trans (hb1.mono hb0.size)⟩
     have c1_0:(w1).cell? ⟨w.heap.size,0,none⟩=some (.int .i64 2):=(hrow1.2.cell (p:=⟨w.heap.size,0,none⟩) HB).trans C0
     have c1_1:(w1).cell? ⟨w.heap.size,1,none⟩=some (.float .f64 vn):=(hrow1.2.cell (p:=⟨w.heap.size,1,none⟩) HB).trans C1
     have c1_2:(w1).cell? ⟨w.heap.size,2,none⟩=some (.string vt):=(hrow1.2.cell (p:=⟨w.heap.size,2,none⟩) HB).trans C2
     have e8:vt.size≤(encKy vt).length:=by {have e:vt.size=vt.data.toList.length:=(Array.length_toList (xs:=vt.data)).symm;unfold encKy encT;rw[List.length_append];omega}
     go_wp2_with fail
     refine(xtext vt _ (by omega)).mono ?_
     rintro e w2 ⟨A2,q2,rfl,hq2,hm2,hown2,hb2⟩
     have hrow2:=hrow1.below hb2
     have z2a:(encI 2).length+(encKy vt).length≤maxLen:=by unfold maxLen;omega
     have z2b:((encI 2).length+(encKy vt).length)*1≤140737488355328:=by omega
     go_wp2_with (at_builtin;refine wpList_append_any _ rfl _ _ _ rfl ((w.alloc (.cells #[.int .i64 2,.float .f64 vn,.string vt] 58))).heap.size 5 i0 _ 1 1 Tryz.underlying48 hi0 hz0 hz1 hz2 rfl (by omega) (.slice A1 (encI 2).length q1) _ (bytesV (encI 2)) (by rfl) hrow2.1 w2.heap.size A2 (encKy vt).length q2 (bytesV (encKy vt)) (by rfl) (Reads.of_own hown2) (bytesV_one _) z2a z2b hrow2.2.size ?_;intro v2' w2' hown2' hg2' hat2';have hr2:=hrow2.push (Below.refl _ _) hown2' hg2';obtain⟨P2,HP2,LP2⟩:=named (encI 2) (encKy vt);rw[←HP2.out]at hr2;obtain⟨A2',q2',rfl,hq2',hm2'⟩:=own_form hr2.1;have c2_0:(w2').cell? ⟨w.heap.size,0,none⟩=some (.int .i64 2):=(hr2.2.cell (p:=⟨w.heap.size,0,none⟩) HB).trans C0;have c2_1:(w2').cell? ⟨w.heap.size,1,none⟩=some (.float .f64 vn):=(hr2.2.cell (p:=⟨w.heap.size,1,none⟩) HB).trans C1;have c2_2:(w2').cell? ⟨w.heap.size,2,none⟩=some (.string vt):=(hr2.2.cell (p:=⟨w.heap.size,2,none⟩) HB).trans C2)
     clear z2a z2b hown2' hg2' hat2' hrow2 hown2 hb2
     go_wp2
     have HP:=RowPost.down HX hr2.post
     have HQ:encI 2++encKy vt=P2:=by rw[HP2.out]
     go_ret
     rw[HQ]
     exact HP
theorem xTexts (A:Option Addr) (n c:Nat) (l:List ByteArray) (w:World) (h:Sl KyRel 1 w w.heap.size A n l) (hn:n≤maxLen) (hlen:(encLs encKy l).length≤1000000000000):
 Calls Tryz.prog 78 #[.slice A n c] w (RowPost w (encLs encKy l)):=by
 obtain⟨i0,hi0,hz0,hz1,hz2⟩:=info_partsW u8_info
 unfold maxLen at hn
 have hln:l.length=n:=h.1
 have hle:l.length≤n:=by omega
 have hge:n≤l.length:=by omega
 have HN:=Lib.hid hln
 have hlt0:(encLs encKy l).length=(encI (n:Int)).length+(l.flatMap encKy).length:=by unfold encLs;rw[List.length_append,hln]
 have hl1:(encI (n:Int)).length+(l.flatMap encKy).length≤1000000000000:=by omega
 have HL:=Lib.hid hl1
 clear hln hlt0 hlen hl1
 have HX:=Below.refl w.heap.size w
 go_enter Tryz.func78,Tryz.ntmps78
 go_wp2_with fail
 refine(xint (n:Int) _ (by omega) (by omega)).mono ?_
 rintro e w1 ⟨A1,q1,rfl,hq1,hm1,hown1,hb1⟩
 have hrow1:RowRel w (encI (n:Int)) (.slice A1 (encI (n:Int)).length q1) w1:=⟨hown1,hb1⟩
 go_wp2_with fail
 go_loopw [3,4] (fun out i wr=>∃k:Nat,k≤n∧i=.int .i64 (k:Int)∧RowRel w (encI (n:Int)++(l.take k).flatMap encKy) out wr) (fun _ i _=>n-(intOf i).toNat)
 case atStart=>exact⟨0,by omega,rfl,by simpa using hrow1⟩
 case round=>
  clear hown1 hb1 hrow1 hq1 hm1
  obtain⟨k,hk,rfl,hrow⟩:=hrel
  obtain⟨P0,HP0,LP0⟩:=named (encI (n:Int)) ((l.take k).flatMap encKy)
  rw[←HP0.out]at hrow
  obtain⟨A0,q0,rfl,hq0,hm0⟩:=own_form hrow.1
  by_cases hlt:k<n
  · obtain⟨ad,a,rfl,hl,hbk,hok,C0⟩:=h.ky hlt
    have hsz:a.size≤(encKy a).length:=by {have e:a.size=a.data.toList.length:=(Array.length_toList (xs:=a.data)).symm;unfold encKy encT;rw[List.length_append];omega}
    have hd1:decide ((k:Int)<(n:Int))=true:=by simp;omega
    have hk0:(0:Int)≤(k:Int):=by omega
    have hk1:(k:Int)<(n:Int):=by omega
    have HT:=Lib.hid (flat_snoc encKy hl)
    have hfl:((l.take k).flatMap encKy).length+(encKy a).length≤(l.flatMap encKy).length:=by
        have h1:=flat_take_le encKy l (k+1)
        rw[HT.out,List.length_append]at h1;exact h1
    have HK:=Lib.hid hfl
    have HE:RowKit.Hid ((encKy a).length=(encKy a).length):=Lib.hid (by rfl)
    clear hl hfl
    have c0_0:wr.cell? (ad.add k)=some (.string a):=(hrow.2.cell (p:=(ad.add k)) hbk).trans C0
    have LL:RowKit.Hid (P0.length+(encKy a).length≤1000000000000):=Lib.hid (by have h1:=LP0.out;have h2:=HL.out;have h3:=HK.out;omega)
    have LE:=HE
    go_wp2_with fail
    refine(xtext a _ (by have:=LL.out;omega)).mono ?_
    rintro e w1 ⟨A1,q1,rfl,hq1,hm1,hown1,hb1⟩
    have hrow1:=hrow.below hb1
    have z1a:(P0).length+(encKy a).length≤maxLen:=by unfold maxLen;have:=LL.out;have:=LE.out;omega
    have z1b:((P0).length+(encKy a).length)*1≤140737488355328:=by have:=LL.out;have:=LE.out;omega
    go_wp2_with (at_builtin;refine wpList_append_any _ rfl _ _ _ rfl (w).heap.size 5 i0 _ 1 1 Tryz.underlying48 hi0 hz0 hz1 hz2 rfl (by omega) (.slice A0 P0.length q0) _ (bytesV (P0)) (by rfl) hrow1.1 w1.heap.size A1 (encKy a).length q1 (bytesV (encKy a)) (by rfl) (Reads.of_own hown1) (bytesV_one _) z1a z1b hrow1.2.size ?_;intro v1' w1' hown1' hg1' hat1';have hr1:=hrow1.push (Below.refl _ _) hown1' hg1';obtain⟨P1,HP1,LP1⟩:=named (P0) (encKy a);rw[←HP1.out]at hr1;obtain⟨A1',q1',rfl,hq1',hm1'⟩:=own_form hr1.1;have c1_0:(w1').cell? (ad.add k)=some (.string a):=(hr1.2.cell (p:=(ad.add k)) hbk).trans C0)
    clear z1a z1b hown1' hg1' hat1' hrow1 hown1 hb1
    go_roundw
    case rel=>
        refine⟨k+1,by omega,by go_num,?_⟩
        have HQ:encI (n:Int)++(l.take (k+1)).flatMap encKy=P1:=by rw[HT.out,HP1.out,HP0.out];simp only[List.append_assoc]
        rw[HQ]
        exact hr1
    case measure=>simp[intOf];omega
  · have hd1:decide ((k:Int)<(n:Int))=false:=by simp;omega
    go_wp2_with fail
    go_ret
    have HQ:encLs encKy l=P0:=by rw[HP0.out,flat_all encKy (by omega)];unfold encLs;rw[HN.out]
    rw[HQ]
    exact hrow.post
theorem xInts (A:Option Addr) (n c:Nat) (l:List Int) (w:World) (h:Sl NmRel 1 w w.heap.size A n l) (hn:n≤maxLen) (hlen:(encLs encI l).length≤1000000000000):
 Calls Tryz.prog 132 #[.slice A n c] w (RowPost w (encLs encI l)):=by
 obtain⟨i0,hi0,hz0,hz1,hz2⟩:=info_partsW u8_info
 unfold maxLen at hn
 have hln:l.length=n:=h.1
 have hle:l.length≤n:=by omega
 have hge:n≤l.length:=by omega
 have HN:=Lib.hid hln
 have hlt0:(encLs encI l).length=(encI (n:Int)).length+(l.flatMap encI).length:=by unfold encLs;rw[List.length_append,hln]
 have hl1:(encI (n:Int)).length+(l.flatMap encI).length≤1000000000000:=by omega
 have HL:=Lib.hid hl1
 clear hln hlt0 hlen hl1
 have HX:=Below.refl w.heap.size w
 go_enter Tryz.func132,Tryz.ntmps132
 go_wp2_with fail
 refine(xint (n:Int) _ (by omega) (by omega)).mono ?_
 rintro e w1 ⟨A1,q1,rfl,hq1,hm1,hown1,hb1⟩
 have hrow1:RowRel w (encI (n:Int)) (.slice A1 (encI (n:Int)).length q1) w1:=⟨hown1,hb1⟩
 go_wp2_with fail
 go_loopw [3,4] (fun out i wr=>∃k:Nat,k≤n∧i=.int .i64 (k:Int)∧RowRel w (encI (n:Int)++(l.take k).flatMap encI) out wr) (fun _ i _=>n-(intOf i).toNat)
 case atStart=>exact⟨0,by omega,rfl,by simpa using hrow1⟩
 case round=>
  clear hown1 hb1 hrow1 hq1 hm1
  obtain⟨k,hk,rfl,hrow⟩:=hrel
  obtain⟨P0,HP0,LP0⟩:=named (encI (n:Int)) ((l.take k).flatMap encI)
  rw[←HP0.out]at hrow
  obtain⟨A0,q0,rfl,hq0,hm0⟩:=own_form hrow.1
  by_cases hlt:k<n
  · obtain⟨ad,a,rfl,hl,hbk,hok,C0⟩:=h.nm hlt
    have hd1:decide ((k:Int)<(n:Int))=true:=by simp;omega
    have hk0:(0:Int)≤(k:Int):=by omega
    have hk1:(k:Int)<(n:Int):=by omega
    have HT:=Lib.hid (flat_snoc encI hl)
    have hfl:((l.take k).flatMap encI).length+(encI a).length≤(l.flatMap encI).length:=by
        have h1:=flat_take_le encI l (k+1)
        rw[HT.out,List.length_append]at h1;exact h1
    have HK:=Lib.hid hfl
    have HE:RowKit.Hid ((encI a).length=(encI a).length):=Lib.hid (by rfl)
    clear hl hfl
    have c0_0:wr.cell? (ad.add k)=some (.int .i64 a):=(hrow.2.cell (p:=(ad.add k)) hbk).trans C0
    have LL:RowKit.Hid (P0.length+(encI a).length≤1000000000000):=Lib.hid (by have h1:=LP0.out;have h2:=HL.out;have h3:=HK.out;omega)
    have LE:=HE
    go_wp2_with fail
    refine(xint a _ hok.1 hok.2).mono ?_
    rintro e w1 ⟨A1,q1,rfl,hq1,hm1,hown1,hb1⟩
    have hrow1:=hrow.below hb1
    have z1a:(P0).length+(encI a).length≤maxLen:=by unfold maxLen;have:=LL.out;have:=LE.out;omega
    have z1b:((P0).length+(encI a).length)*1≤140737488355328:=by have:=LL.out;have:=LE.out;omega
    go_wp2_with (at_builtin;refine wpList_append_any _ rfl _ _ _ rfl (w).heap.size 5 i0 _ 1 1 Tryz.underlying48 hi0 hz0 hz1 hz2 rfl (by omega) (.slice A0 P0.length q0) _ (bytesV (P0)) (by rfl) hrow1.1 w1.heap.size A1 (encI a).length q1 (bytesV (encI a)) (by rfl) (Reads.of_own hown1) (bytesV_one _) z1a z1b hrow1.2.size ?_;intro v1' w1' hown1' hg1' hat1';have hr1:=hrow1.push (Below.refl _ _) hown1' hg1';obtain⟨P1,HP1,LP1⟩:=named (P0) (encI a);rw[←HP1.out]at hr1;obtain⟨A1',q1',rfl,hq1',hm1'⟩:=own_form hr1.1;have c1_0:(w1').cell? (ad.add k)=some (.int .i64 a):=(hr1.2.cell (p:=(ad.add k)) hbk).trans C0)
    clear z1a z1b hown1' hg1' hat1' hrow1 hown1 hb1
    go_roundw
    case rel=>
        refine⟨k+1,by omega,by go_num,?_⟩
        have HQ:encI (n:Int)++(l.take (k+1)).flatMap encI=P1:=by rw[HT.out,HP1.out,HP0.out];simp only[List.append_assoc]
        rw[HQ]
        exact hr1
    case measure=>simp[intOf];omega
  · have hd1:decide ((k:Int)<(n:Int))=false:=by simp;omega
    go_wp2_with fail
    go_ret
    have HQ:encLs encI l=P0:=by rw[HP0.out,flat_all encI (by omega)];unfold encLs;rw[HN.out]
    rw[HQ]
    exact hrow.post
theorem xWrites (A:Option Addr) (n c:Nat) (l:List Wt) (w:World) (h:Sl WtRel 4 w w.heap.size A n l) (hn:n≤maxLen) (hlen:(encLs encWt l).length≤1000000000000):
 Calls Tryz.prog 79 #[.slice A n c] w (RowPost w (encLs encWt l)):=by
 obtain⟨i0,hi0,hz0,hz1,hz2⟩:=info_partsW u8_info
 unfold maxLen at hn
 have hln:l.length=n:=h.1
 have hle:l.length≤n:=by omega
 have hge:n≤l.length:=by omega
 have HN:=Lib.hid hln
 have hlt0:(encLs encWt l).length=(encI (n:Int)).length+(l.flatMap encWt).length:=by unfold encLs;rw[List.length_append,hln]
 have hl1:(encI (n:Int)).length+(l.flatMap encWt).length≤1000000000000:=by omega
 have HL:=Lib.hid hl1
 clear hln hlt0 hlen hl1
 have HX:=Below.refl w.heap.size w
 go_enter Tryz.func79,Tryz.ntmps79
 go_wp2_with fail
 refine(xint (n:Int) _ (by omega) (by omega)).mono ?_
 rintro e w1 ⟨A1,q1,rfl,hq1,hm1,hown1,hb1⟩
 have hrow1:RowRel w (encI (n:Int)) (.slice A1 (encI (n:Int)).length q1) w1:=⟨hown1,hb1⟩
 go_wp2_with fail
 go_loopw [3,4] (fun out i wr=>∃k:Nat,k≤n∧i=.int .i64 (k:Int)∧RowRel w (encI (n:Int)++(l.take k).flatMap encWt) out wr) (fun _ i _=>n-(intOf i).toNat)
 case atStart=>exact⟨0,by omega,rfl,by simpa using hrow1⟩
 case round=>
  clear hown1 hb1 hrow1 hq1 hm1
  obtain⟨k,hk,rfl,hrow⟩:=hrel
  obtain⟨P0,HP0,LP0⟩:=named (encI (n:Int)) ((l.take k).flatMap encWt)
  rw[←HP0.out]at hrow
  obtain⟨A0,q0,rfl,hq0,hm0⟩:=own_form hrow.1
  by_cases hlt:k<n
  · obtain⟨ad,a,rfl,hl,hbk,hok,C0,C1,C2,C3⟩:=h.wt hlt
    have hsz:a.key.size≤(encKy a.key).length:=by {have e:a.key.size=a.key.data.toList.length:=(Array.length_toList (xs:=a.key.data)).symm;unfold encKy encT;rw[List.length_append];omega}
    have hd1:decide ((k:Int)<(n:Int))=true:=by simp;omega
    have hk0:(0:Int)≤(k:Int):=by omega
    have hk1:(k:Int)<(n:Int):=by omega
    have HT:=Lib.hid (flat_snoc encWt hl)
    have hfl:((l.take k).flatMap encWt).length+(encWt a).length≤(l.flatMap encWt).length:=by
        have h1:=flat_take_le encWt l (k+1)
        rw[HT.out,List.length_append]at h1;exact h1
    have HK:=Lib.hid hfl
    have HE:RowKit.Hid ((encWt a).length=(encKy a.key).length+(encVl a.v).length):=Lib.hid (by unfold encWt;simp only[List.length_append])
    clear hl hfl
    have c0_0:wr.cell? (ad.add (k*4))=some (.string a.key):=(hrow.2.cell (p:=(ad.add (k*4))) hbk).trans C0
    have c0_1:wr.cell? ⟨(ad.add (k*4)).block,(ad.add (k*4)).off+1,none⟩=some (.int .i64 a.v.k):=(hrow.2.cell (p:=⟨(ad.add (k*4)).block,(ad.add (k*4)).off+1,none⟩) hbk).trans C1
    have c0_2:wr.cell? ⟨(ad.add (k*4)).block,(ad.add (k*4)).off+2,none⟩=some (.float .f64 a.v.n):=(hrow.2.cell (p:=⟨(ad.add (k*4)).block,(ad.add (k*4)).off+2,none⟩) hbk).trans C2
    have c0_3:wr.cell? ⟨(ad.add (k*4)).block,(ad.add (k*4)).off+3,none⟩=some (.string a.v.t):=(hrow.2.cell (p:=⟨(ad.add (k*4)).block,(ad.add (k*4)).off+3,none⟩) hbk).trans C3
    have LL:RowKit.Hid (P0.length+(encWt a).length≤1000000000000):=Lib.hid (by have h1:=LP0.out;have h2:=HL.out;have h3:=HK.out;omega)
    have LE:=HE
    go_wp2_with fail
    refine(xtext a.key _ (by have:=LL.out;have:=LE.out;omega)).mono ?_
    rintro e w1 ⟨A1,q1,rfl,hq1,hm1,hown1,hb1⟩
    have hrow1:=hrow.below hb1
    have z1a:(P0).length+(encKy a.key).length≤maxLen:=by unfold maxLen;have:=LL.out;have:=LE.out;omega
    have z1b:((P0).length+(encKy a.key).length)*1≤140737488355328:=by have:=LL.out;have:=LE.out;omega
    go_wp2_with (at_builtin;refine wpList_append_any _ rfl _ _ _ rfl (w).heap.size 5 i0 _ 1 1 Tryz.underlying48 hi0 hz0 hz1 hz2 rfl (by omega) (.slice A0 P0.length q0) _ (bytesV (P0)) (by rfl) hrow1.1 w1.heap.size A1 (encKy a.key).length q1 (bytesV (encKy a.key)) (by rfl) (Reads.of_own hown1) (bytesV_one _) z1a z1b hrow1.2.size ?_;intro v1' w1' hown1' hg1' hat1';have hr1:=hrow1.push (Below.refl _ _) hown1' hg1';obtain⟨P1,HP1,LP1⟩:=named (P0) (encKy a.key);rw[←HP1.out]at hr1;obtain⟨A1',q1',rfl,hq1',hm1'⟩:=own_form hr1.1;have c1_0:(w1').cell? (ad.add (k*4))=some (.string a.key):=(hr1.2.cell (p:=(ad.add (k*4))) hbk).trans C0;have c1_1:(w1').cell? ⟨(ad.add (k*4)).block,(ad.add (k*4)).off+1,none⟩=some (.int .i64 a.v.k):=(hr1.2.cell (p:=⟨(ad.add (k*4)).block,(ad.add (k*4)).off+1,none⟩) hbk).trans C1;have c1_2:(w1').cell? ⟨(ad.add (k*4)).block,(ad.add (k*4)).off+2,none⟩=some (.float .f64 a.v.n):=(hr1.2.cell (p:=⟨(ad.add (k*4)).block,(ad.add (k*4)).off+2,none⟩) hbk).trans C2;have c1_3:(w1').cell? ⟨(ad.add (k*4)).block,(ad.add (k*4)).off+3,none⟩=some (.string a.v.t):=(hr1.2.cell (p:=⟨(ad.add (k*4)).block,(ad.add (k*4)).off+3,none⟩) hbk).trans C3)
    clear z1a z1b hown1' hg1' hat1' hrow1 hown1 hb1
    go_wp2_with fail
    refine(xPut a.v _ hok.2 (by have:=LL.out;have:=LE.out;omega)).mono ?_
    rintro e w2 ⟨A2,q2,rfl,hq2,hm2,hown2,hb2⟩
    have hrow2:=hr1.below hb2
    have z2a:(P1).length+(encVl a.v).length≤maxLen:=by unfold maxLen;have:=LL.out;have:=LE.out;have:=LP1.out;omega
    have z2b:((P1).length+(encVl a.v).length)*1≤140737488355328:=by have:=LL.out;have:=LE.out;have:=LP1.out;omega
    go_wp2_with (at_builtin;refine wpList_append_any _ rfl _ _ _ rfl (w).heap.size 5 i0 _ 1 1 Tryz.underlying48 hi0 hz0 hz1 hz2 rfl (by omega) (.slice A1' P1.length q1') _ (bytesV (P1)) (by rfl) hrow2.1 w2.heap.size A2 (encVl a.v).length q2 (bytesV (encVl a.v)) (by rfl) (Reads.of_own hown2) (bytesV_one _) z2a z2b hrow2.2.size ?_;intro v2' w2' hown2' hg2' hat2';have hr2:=hrow2.push (Below.refl _ _) hown2' hg2';obtain⟨P2,HP2,LP2⟩:=named (P1) (encVl a.v);rw[←HP2.out]at hr2;obtain⟨A2',q2',rfl,hq2',hm2'⟩:=own_form hr2.1;have c2_0:(w2').cell? (ad.add (k*4))=some (.string a.key):=(hr2.2.cell (p:=(ad.add (k*4))) hbk).trans C0;have c2_1:(w2').cell? ⟨(ad.add (k*4)).block,(ad.add (k*4)).off+1,none⟩=some (.int .i64 a.v.k):=(hr2.2.cell (p:=⟨(ad.add (k*4)).block,(ad.add (k*4)).off+1,none⟩) hbk).trans C1;have c2_2:(w2').cell? ⟨(ad.add (k*4)).block,(ad.add (k*4)).off+2,none⟩=some (.float .f64 a.v.n):=(hr2.2.cell (p:=⟨(ad.add (k*4)).block,(ad.add (k*4)).off+2,none⟩) hbk).trans C2;have c2_3:(w2').cell? ⟨(ad.add (k*4)).block,(ad.add (k*4)).off+3,none⟩=some (.string a.v.t):=(hr2.2.cell (p:=⟨(ad.add (k*4)).block,(ad.add (k*4)).off+3,none⟩) hbk).trans C3)
    clear z2a z2b hown2' hg2' hat2' hrow2 hown2 hb2
    go_roundw
    case rel=>
        refine⟨k+1,by omega,by go_num,?_⟩
        have HQ:encI (n:Int)++(l.take (k+1)).flatMap encWt=P2:=by rw[HT.out,HP2.out,HP1.out,HP0.out];simp only[encWt,List.append_assoc]
        rw[HQ]
        exact hr2
    case measure=>simp[intOf];omega
  · have hd1:decide ((k:Int)<(n:Int))=false:=by simp;omega
    go_wp2_with fail
    go_ret
    have HQ:encLs encWt l=P0:=by rw[HP0.out,flat_all encWt (by omega)];unfold encLs;rw[HN.out]
    rw[HQ]
    exact hrow.post
theorem xPairs (A:Option Addr) (n c:Nat) (l:List Wt) (w:World) (h:Sl WtRel 4 w w.heap.size A n l) (hn:n≤maxLen) (hlen:(encLs encWt l).length≤1000000000000):
 Calls Tryz.prog 135 #[.slice A n c] w (RowPost w (encLs encWt l)):=by
 obtain⟨i0,hi0,hz0,hz1,hz2⟩:=info_partsW u8_info
 unfold maxLen at hn
 have hln:l.length=n:=h.1
 have hle:l.length≤n:=by omega
 have hge:n≤l.length:=by omega
 have HN:=Lib.hid hln
 have hlt0:(encLs encWt l).length=(encI (n:Int)).length+(l.flatMap encWt).length:=by unfold encLs;rw[List.length_append,hln]
 have hl1:(encI (n:Int)).length+(l.flatMap encWt).length≤1000000000000:=by omega
 have HL:=Lib.hid hl1
 clear hln hlt0 hlen hl1
 have HX:=Below.refl w.heap.size w
 go_enter Tryz.func135,Tryz.ntmps135
 go_wp2_with fail
 refine(xint (n:Int) _ (by omega) (by omega)).mono ?_
 rintro e w1 ⟨A1,q1,rfl,hq1,hm1,hown1,hb1⟩
 have hrow1:RowRel w (encI (n:Int)) (.slice A1 (encI (n:Int)).length q1) w1:=⟨hown1,hb1⟩
 go_wp2_with fail
 go_loopw [3,4] (fun out i wr=>∃k:Nat,k≤n∧i=.int .i64 (k:Int)∧RowRel w (encI (n:Int)++(l.take k).flatMap encWt) out wr) (fun _ i _=>n-(intOf i).toNat)
 case atStart=>exact⟨0,by omega,rfl,by simpa using hrow1⟩
 case round=>
  clear hown1 hb1 hrow1 hq1 hm1
  obtain⟨k,hk,rfl,hrow⟩:=hrel
  obtain⟨P0,HP0,LP0⟩:=named (encI (n:Int)) ((l.take k).flatMap encWt)
  rw[←HP0.out]at hrow
  obtain⟨A0,q0,rfl,hq0,hm0⟩:=own_form hrow.1
  by_cases hlt:k<n
  · obtain⟨ad,a,rfl,hl,hbk,hok,C0,C1,C2,C3⟩:=h.wt hlt
    have hsz:a.key.size≤(encKy a.key).length:=by {have e:a.key.size=a.key.data.toList.length:=(Array.length_toList (xs:=a.key.data)).symm;unfold encKy encT;rw[List.length_append];omega}
    have hd1:decide ((k:Int)<(n:Int))=true:=by simp;omega
    have hk0:(0:Int)≤(k:Int):=by omega
    have hk1:(k:Int)<(n:Int):=by omega
    have HT:=Lib.hid (flat_snoc encWt hl)
    have hfl:((l.take k).flatMap encWt).length+(encWt a).length≤(l.flatMap encWt).length:=by
        have h1:=flat_take_le encWt l (k+1)
        rw[HT.out,List.length_append]at h1;exact h1
    have HK:=Lib.hid hfl
    have HE:RowKit.Hid ((encWt a).length=(encKy a.key).length+(encVl a.v).length):=Lib.hid (by unfold encWt;simp only[List.length_append])
    clear hl hfl
    have c0_0:wr.cell? (ad.add (k*4))=some (.string a.key):=(hrow.2.cell (p:=(ad.add (k*4))) hbk).trans C0
    have c0_1:wr.cell? ⟨(ad.add (k*4)).block,(ad.add (k*4)).off+1,none⟩=some (.int .i64 a.v.k):=(hrow.2.cell (p:=⟨(ad.add (k*4)).block,(ad.add (k*4)).off+1,none⟩) hbk).trans C1
    have c0_2:wr.cell? ⟨(ad.add (k*4)).block,(ad.add (k*4)).off+2,none⟩=some (.float .f64 a.v.n):=(hrow.2.cell (p:=⟨(ad.add (k*4)).block,(ad.add (k*4)).off+2,none⟩) hbk).trans C2
    have c0_3:wr.cell? ⟨(ad.add (k*4)).block,(ad.add (k*4)).off+3,none⟩=some (.string a.v.t):=(hrow.2.cell (p:=⟨(ad.add (k*4)).block,(ad.add (k*4)).off+3,none⟩) hbk).trans C3
    have LL:RowKit.Hid (P0.length+(encWt a).length≤1000000000000):=Lib.hid (by have h1:=LP0.out;have h2:=HL.out;have h3:=HK.out;omega)
    have LE:=HE
    go_wp2_with fail
    refine(xtext a.key _ (by have:=LL.out;have:=LE.out;omega)).mono ?_
    rintro e w1 ⟨A1,q1,rfl,hq1,hm1,hown1,hb1⟩
    have hrow1:=hrow.below hb1
    have z1a:(P0).length+(encKy a.key).length≤maxLen:=by unfold maxLen;have:=LL.out;have:=LE.out;omega
    have z1b:((P0).length+(encKy a.key).length)*1≤140737488355328:=by have:=LL.out;have:=LE.out;omega
    go_wp2_with (at_builtin;refine wpList_append_any _ rfl _ _ _ rfl (w).heap.size 5 i0 _ 1 1 Tryz.underlying48 hi0 hz0 hz1 hz2 rfl (by omega) (.slice A0 P0.length q0) _ (bytesV (P0)) (by rfl) hrow1.1 w1.heap.size A1 (encKy a.key).length q1 (bytesV (encKy a.key)) (by rfl) (Reads.of_own hown1) (bytesV_one _) z1a z1b hrow1.2.size ?_;intro v1' w1' hown1' hg1' hat1';have hr1:=hrow1.push (Below.refl _ _) hown1' hg1';obtain⟨P1,HP1,LP1⟩:=named (P0) (encKy a.key);rw[←HP1.out]at hr1;obtain⟨A1',q1',rfl,hq1',hm1'⟩:=own_form hr1.1;have c1_0:(w1').cell? (ad.add (k*4))=some (.string a.key):=(hr1.2.cell (p:=(ad.add (k*4))) hbk).trans C0;have c1_1:(w1').cell? ⟨(ad.add (k*4)).block,(ad.add (k*4)).off+1,none⟩=some (.int .i64 a.v.k):=(hr1.2.cell (p:=⟨(ad.add (k*4)).block,(ad.add (k*4)).off+1,none⟩) hbk).trans C1;have c1_2:(w1').cell? ⟨(ad.add (k*4)).block,(ad.add (k*4)).off+2,none⟩=some (.float .f64 a.v.n):=(hr1.2.cell (p:=⟨(ad.add (k*4)).block,(ad.add (k*4)).off+2,none⟩) hbk).trans C2;have c1_3:(w1').cell? ⟨(ad.add (k*4)).block,(ad.add (k*4)).off+3,none⟩=some (.string a.v.t):=(hr1.2.cell (p:=⟨(ad.add (k*4)).block,(ad.add (k*4)).off+3,none⟩) hbk).trans C3)
    clear z1a z1b hown1' hg1' hat1' hrow1 hown1 hb1
    go_wp2_with fail
    refine(xPut a.v _ hok.2 (by have:=LL.out;have:=LE.out;omega)).mono ?_
    rintro e w2 ⟨A2,q2,rfl,hq2,hm2,hown2,hb2⟩
    have hrow2:=hr1.below hb2
    have z2a:(P1).length+(encVl a.v).length≤maxLen:=by unfold maxLen;have:=LL.out;have:=LE.out;have:=LP1.out;omega
    have z2b:((P1).length+(encVl a.v).length)*1≤140737488355328:=by have:=LL.out;have:=LE.out;have:=LP1.out;omega
    go_wp2_with (at_builtin;refine wpList_append_any _ rfl _ _ _ rfl (w).heap.size 5 i0 _ 1 1 Tryz.underlying48 hi0 hz0 hz1 hz2 rfl (by omega) (.slice A1' P1.length q1') _ (bytesV (P1)) (by rfl) hrow2.1 w2.heap.size A2 (encVl a.v).length q2 (bytesV (encVl a.v)) (by rfl) (Reads.of_own hown2) (bytesV_one _) z2a z2b hrow2.2.size ?_;intro v2' w2' hown2' hg2' hat2';have hr2:=hrow2.push (Below.refl _ _) hown2' hg2';obtain⟨P2,HP2,LP2⟩:=named (P1) (encVl a.v);rw[←HP2.out]at hr2;obtain⟨A2',q2',rfl,hq2',hm2'⟩:=own_form hr2.1;have c2_0:(w2').cell? (ad.add (k*4))=some (.string a.key):=(hr2.2.cell (p:=(ad.add (k*4))) hbk).trans C0;have c2_1:(w2').cell? ⟨(ad.add (k*4)).block,(ad.add (k*4)).off+1,none⟩=some (.int .i64 a.v.k):=(hr2.2.cell (p:=⟨(ad.add (k*4)).block,(ad.add (k*4)).off+1,none⟩) hbk).trans C1;have c2_2:(w2').cell? ⟨(ad.add (k*4)).block,(ad.add (k*4)).off+2,none⟩=some (.float .f64 a.v.n):=(hr2.2.cell (p:=⟨(ad.add (k*4)).block,(ad.add (k*4)).off+2,none⟩) hbk).trans C2;have c2_3:(w2').cell? ⟨(ad.add (k*4)).block,(ad.add (k*4)).off+3,none⟩=some (.string a.v.t):=(hr2.2.cell (p:=⟨(ad.add (k*4)).block,(ad.add (k*4)).off+3,none⟩) hbk).trans C3)
    clear z2a z2b hown2' hg2' hat2' hrow2 hown2 hb2
    go_roundw
    case rel=>
        refine⟨k+1,by omega,by go_num,?_⟩
        have HQ:encI (n:Int)++(l.take (k+1)).flatMap encWt=P2:=by rw[HT.out,HP2.out,HP1.out,HP0.out];simp only[encWt,List.append_assoc]
        rw[HQ]
        exact hr2
    case measure=>simp[intOf];omega
  · have hd1:decide ((k:Int)<(n:Int))=false:=by simp;omega
    go_wp2_with fail
    go_ret
    have HQ:encLs encWt l=P0:=by rw[HP0.out,flat_all encWt (by omega)];unfold encLs;rw[HN.out]
    rw[HQ]
    exact hrow.post
end Go.Proofs.YthdmanadhbpogaaGreat
/- Plain: the bytes of a record that weighs no more than 20000 are few. -/
namespace Go.Proofs.YthdmanadhbpogaaGreat
set_option linter.unusedVariables false
open Go.RowKit Fl
theorem Sl.mem {α:Type} {R:Rel α} {size:Nat} {w:World} {B n:Nat} {A:Option Addr} {l:List α} (h:Sl R size w B A n l) {a:α} (ha:a∈l):∃cs,R w B cs a:=by
 obtain⟨i,hi⟩:=List.mem_iff_getElem?.1 ha
 obtain⟨ad,cs,_,_,_,_,hr⟩:=h.2 i a hi
 exact⟨cs,hr⟩
theorem ba_size (s:ByteArray):s.data.toList.length=s.size:=Array.length_toList (xs:=s.data)
theorem lenKy {s:ByteArray} (h:s.size≤140737488351232):((encKy s).length:Int)≤10*wtT s:=by
 have h1:=ba_size s
 have h2:=encI_len (n:=(s.data.toList.length:Int)) (by omega) (by omega)
 unfold encKy encT wtT
 rw[List.length_append]
 omega
theorem lenVl {v:Vl} (h:v.ok):((encVl v).length:Int)≤20+(v.t.size:Int):=by
 have hv:=h.2.2
 have e1:∀k:Int,k=0∨k=1∨k=2→(encI k).length=1:=by rintro k (rfl|rfl|rfl)<;>rfl
 have h1:=ba_size v.t
 have h2:=encI_len (n:=(v.t.data.toList.length:Int)) (by omega) (by omega)
 have h8:(encF64 v.n).length=8:=leW_len 8 _
 unfold encVl
 split
 · split
   · rw[List.length_append,e1 1 (by omega),h8];omega
   · split
     · rw[List.length_append,e1 2 (by omega)];unfold encKy encT;rw[List.length_append];omega
     · rw[e1 0 (by omega)];omega
 · rw[e1 0 (by omega)];omega
theorem lenWt {a:Wt} (h:a.ok):((encWt a).length:Int)≤30*wtW a:=by
 have h1:=lenKy h.1
 have h2:=lenVl h.2
 unfold wtT at h1
 unfold encWt wtW
 rw[List.length_append]
 omega
theorem lenSp {s:Sp} (ok:s.ok):((encSp s).length:Int)≤30:=by
 have h1:=encI_len ok.1.1 ok.1.2
 have h2:=encI_len ok.2.1.1 ok.2.1.2
 have h3:=encI_len ok.2.2.1 ok.2.2.2
 unfold encSp;rw[List.length_append,List.length_append];omega
theorem lenTx {s:Tx} (ok:s.ok):((encTx s).length:Int)≤30:=by
 have h1:=encI_len ok.1.1 ok.1.2
 have h2:=encI_len ok.2.1.1 ok.2.1.2
 have h3:=encI_len ok.2.2.1 ok.2.2.2
 unfold encTx;rw[List.length_append,List.length_append];omega
theorem lenVn {a:Vn} (h:a.ok):((encVn a).length:Int)≤50*wtV a:=by
 have h1:=lenSp h.1
 have h2:=lenVl h.2
 unfold encVn wtV
 rw[List.length_append]
 omega
theorem lenN {n:Nat} (h:n≤1000000000):((encI (n:Int)).length:Int)≤10:=by
 have:=encI_len (n:=(n:Int)) (by omega) (by omega)
 omega
theorem lenHs {w:World} {B:Nat} {cs:List Value} {h:Hs} (hr:HsRel w B cs h) (hl:h.vs.length≤1000000000):((encHs h).length:Int)≤50*wtH h:=by
 obtain⟨v,rfl,hk,A,n,c,rfl,_,_,hS⟩:=hr
 have h1:=lenKy hk
 have h2:=flat_leC encVn wtV 50 h.vs fun a ha=>by obtain⟨_,_,hok⟩:=hS.mem ha;exact lenVn hok
 have h3:=lenN hl
 unfold wtT at h1
 unfold encHs encLs wtH
 rw[List.length_append,List.length_append]
 omega
theorem lenPn {w:World} {B:Nat} {cs:List Value} {p:Pn} (hr:PnRel w B cs p) (hl:p.r.length≤1000000000) (hl2:p.w.length≤1000000000):((encPn p).length:Int)≤80*wtP p:=by
 obtain⟨v,q,rfl,ht,hs,⟨A,n,c,rfl,_,_,hS⟩,A2,n2,c2,rfl,_,_,hS2⟩:=hr
 have h1:=lenTx ht
 have h2:=lenSp hs
 have h3:=flat_leC encKy wtT 10 p.r fun a ha=>by obtain⟨_,_,hok⟩:=hS.mem ha;exact lenKy hok
 have h4:=flat_leC encWt wtW 30 p.w fun a ha=>by obtain⟨_,_,hok⟩:=hS2.mem ha;exact lenWt hok
 have h5:=lenN hl
 have h6:=lenN hl2
 have h7:=sum_nn wtT wtT_nn p.r
 have h8:=sum_nn wtW wtW_nn p.w
 unfold encPn encLs wtP
 rw[List.length_append,List.length_append,List.length_append,List.length_append,List.length_append]
 omega
theorem lenSt {w:World} {s:Stt} {A1 A2:Option Addr} {n1 n2:Nat} (hr:s.r.ok) (hf:s.f.ok) (hc:s.c.ok) (h1:Sl HsRel 2 w w.heap.size A1 n1 s.h) (h2:Sl PnRel 8 w w.heap.size A2 n2 s.p) (h:weighS 20000 s≤20000):
 ((encSt s).length:Int)≤200+80*((s.h.map wtH).sum+(s.p.map wtP).sum)∧SmallH s.h∧SmallP s.p:=by
 have hg:=weighS_gain (by omega) s h
 have hsm:=weighS_small (by omega) (by omega) h
 have k1:=sum_nn wtH wtH_nn s.h
 have k2:=sum_nn wtP wtP_nn s.p
 have l1:=len_sum wtH (fun a=>by unfold wtH;have:=sum_nn wtV wtV_nn a.vs;omega) s.h
 have l2:=len_sum wtP (fun a=>by unfold wtP;have:=sum_nn wtT wtT_nn a.r;have:=sum_nn wtW wtW_nn a.w;omega) s.p
 have f1:=flat_leC encHs wtH 50 s.h fun a ha=>by
  obtain⟨_,hok⟩:=h1.mem ha
  refine lenHs hok ?_
  have m1:=mem_sum wtH wtH_nn ha
  have m2:=len_sum wtV (fun a=>by unfold wtV;omega) a.vs
  have m0:wtH a=1+(a.key.size:Int)+(a.vs.map wtV).sum:=rfl
  omega
 have f2:=flat_leC encPn wtP 80 s.p fun a ha=>by
  obtain⟨_,hok⟩:=h2.mem ha
  have m1:=mem_sum wtP wtP_nn ha
  have m2:=len_sum wtT (fun a=>by unfold wtT;omega) a.r
  have m3:=len_sum wtW (fun a=>by unfold wtW;omega) a.w
  have m4:=sum_nn wtT wtT_nn a.r
  have m5:=sum_nn wtW wtW_nn a.w
  have m0:wtP a=1+(a.r.map wtT).sum+(a.w.map wtW).sum:=rfl
  exact lenPn hok (by omega) (by omega)
 have e1:=encI_len hr.1.1 hr.1.2
 have e2:=encI_len hr.2.1.1 hr.2.1.2
 have e3:(encF64 s.r.lo).length=8:=leW_len 8 _
 have e4:(encF64 s.r.hi).length=8:=leW_len 8 _
 have e5:=lenSp hf
 have e6:=lenSp hc
 have e7:=lenN (n:=s.h.length) (by omega)
 have e8:=lenN (n:=s.p.length) (by omega)
 refine⟨?_,hsm⟩
 unfold encSt encRg encLs
 simp only[List.length_append]
 omega
theorem rec_small {w:World} {r:Rc} {h:Hds} (ok:r.ok) (i:RcIn w r h) (hw:weighRec 20000 r≤20000):RcSm r h∧(encRc r).length≤2000000:=by
 obtain⟨hg,hS⟩:=weighRec_gain (by omega) r hw
 obtain⟨hSt,hsm1,hsm2⟩:=lenSt ok.rg ok.fl ok.cl i.hs i.pn hS
 have k1:=sum_nn wtH wtH_nn r.st.h
 have k2:=sum_nn wtP wtP_nn r.st.p
 have k3:=sum_nn wtT wtT_nn r.rd
 have k4:=sum_nn wtW wtW_nn r.wr
 have k5:=sum_nn wtW wtW_nn r.pr
 have l3:=len_sum wtT (fun a=>by unfold wtT;omega) r.rd
 have l4:=len_sum wtW (fun a=>by unfold wtW;omega) r.wr
 have l5:=len_sum wtW (fun a=>by unfold wtW;omega) r.pr
 have f3:=flat_leC encKy wtT 10 r.rd fun a ha=>by obtain⟨_,_,hok⟩:=i.rd.mem ha;exact lenKy hok
 have f4:=flat_leC encWt wtW 30 r.wr fun a ha=>by obtain⟨_,_,hok⟩:=i.wr.mem ha;exact lenWt hok
 have f5:=flat_leC encWt wtW 30 r.pr fun a ha=>by obtain⟨_,_,hok⟩:=i.pr.mem ha;exact lenWt hok
 have f6:=flat_leC encI (fun _=>1) 10 r.ps fun a ha=>by
  obtain⟨_,_,hok⟩:=i.ps.mem ha
  have:=encI_len hok.1 hok.2
  omega
 have s6:∀l:List Int,(l.map fun _=>(1:Int)).sum=(l.length:Int):=by
  intro l
  induction l with
  |nil=>rfl
  |cons a l ih=>simp only[List.map_cons,List.sum_cons,List.length_cons,ih];omega
 rw[s6]at f6
 have g1:=lenN (n:=r.rd.length) (by omega)
 have g2:=lenN (n:=r.wr.length) (by omega)
 have g3:=lenN (n:=r.ps.length) (by omega)
 have g4:=lenN (n:=r.pr.length) (by omega)
 have e1:=encI_len ok.k.1 ok.k.2
 have e2:=encI_len ok.n.1 ok.n.2
 have e3:(encF64 r.pt).length=8:=leW_len 8 _
 have e4:=lenSp ok.s
 have e5:=lenSp ok.pv
 have e6:=lenTx ok.t
 have e7:(encB r.cm).length=1:=rfl
 refine⟨⟨by rw[←i.rd.1];omega,by rw[←i.wr.1];omega,by rw[←i.ps.1];omega,by rw[←i.pr.1];omega,hsm1,hsm2⟩,?_⟩
 have hB:(encBody r).length≤1900000:=by
  unfold encBody encPn encLs
  by_cases c1:r.k=1
  · rw[if_pos c1];omega
  rw[if_neg c1]
  by_cases c2:r.k=2
  · rw[if_pos c2];omega
  rw[if_neg c2]
  by_cases c3:r.k=3
  · rw[if_pos c3];simp only[List.length_append];omega
  rw[if_neg c3]
  by_cases c4:r.k=4
  · rw[if_pos c4];simp only[List.length_append];omega
  rw[if_neg c4]
  by_cases c5:r.k=5
  · rw[if_pos c5];omega
  rw[if_neg c5]
  by_cases c6:r.k=6
  · rw[if_pos c6];simp only[List.length_append];omega
  rw[if_neg c6]
  by_cases c7:r.k=7
  · rw[if_pos c7];omega
  rw[if_neg c7]
  by_cases c8:r.k=8
  · rw[if_pos c8];omega
  rw[if_neg c8]
  by_cases c9:r.k=9
  · rw[if_pos c9];simp only[List.length_append];omega
  rw[if_neg c9]
  by_cases c10:r.k=10
  · rw[if_pos c10];omega
  rw[if_neg c10]
  by_cases c11:r.k=11
  · rw[if_pos c11];simp only[List.length_append];omega
  rw[if_neg c11]
  by_cases c12:r.k=12
  · rw[if_pos c12];simp only[List.length_append];omega
  rw[if_neg c12]
  simp
 unfold encRc
 rw[List.length_append]
 omega
end Go.Proofs.YthdmanadhbpogaaGreat
