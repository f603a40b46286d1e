/- The walks of the reference's writing functions, of Bytes and CopyBytes. -/
import Derived.Defers
import Derived.Recover
import Derived.Test.YtcalkfgibflbnaaGreatDacd
import Derived.Test.YtcalkfgibflbnaaGreatDadb
namespace Go.Proofs.YtcalkfgibflbnaaGreat
set_option maxHeartbeats 4000000
set_option maxRecDepth 100000
open Go.RowKit Fl
theorem sbytes (w:World) {B B':Nat} {A A':Option Addr} {n n' c c':Nat} {a b:List UInt8} (ha:Reads w B 1 A n (bytesV a)) (hb:Reads w B' 1 A' n' (bytesV b)):
 Calls Tryz.prog 18 #[.slice A n c,.slice A' n' c'] w fun e w'=>e=.returned (.bool (a==b))∧w=w':=by
 have h1:=run_conv_reads (P:=Tryz.prog) w 49 9 5 Tryz.underlying49 Tryz.underlying5 Tryz.underlying9 (c:=c) ha
 have h2:=run_conv_reads (P:=Tryz.prog) w 49 9 5 Tryz.underlying49 Tryz.underlying5 Tryz.underlying9 (c:=c') hb
 go_enter Tryz.func18,Tryz.ntmps18
 go_wp2
 go_ret
 exact⟨rfl,rfl⟩
theorem xbits (a:Nat) (w:World):
 Calls Tryz.prog 209 #[.float .f64 a] w fun e w'=>e=.returned (.int .u64 (canonB a))∧w=w':=by
 by_cases h:dnan a=true
 · have e:canonB a=9221120237041090560:=by simp[canonB,h]
   have h':(FloatKind.f64.format.order a a !=some Ordering.eq)=true:=h
   rw[e]
   clear e h
   go_enter Tryz.func209,Tryz.ntmps209
   go_wp2
   go_ret
   exact⟨rfl,rfl⟩
 · have e:canonB a=a:=by simp[canonB,h]
   have h':(FloatKind.f64.format.order a a !=some Ordering.eq)=false:=by simpa [dnan] using h
   rw[e]
   clear e h
   go_enter Tryz.func209,Tryz.ntmps209
   go_wp2
   go_ret
   exact⟨rfl,rfl⟩
def RowRel (w:World) (bs:List UInt8) (v:Value) (wr:World):Prop:=wr.ownsRow w.heap.size 5 1 v bs.length (bytesV bs)∧Below w.heap.size w wr
theorem RowRel.start (w:World):RowRel w [] (.slice none 0 0) w:=⟨World.ownsRow_nil _ _ _ _,Below.refl _ _⟩
theorem RowRel.post {w wr:World} {bs:List UInt8} {v:Value} (h:RowRel w bs v wr):RowPost w bs (.returned v) wr:=by
 obtain⟨A,c,rfl,h1,h2⟩:=own_form h.1
 exact⟨A,c,rfl,h1,h2,h.1,h.2⟩
theorem RowRel.push {w wr X w1:World} {bs more:List UInt8} {v v1:Value} (h:RowRel w bs v wr) (hX:Below wr.heap.size wr X)
 (hown:w1.ownsRow w.heap.size 5 1 v1 (bs.length+more.length) (bytesV bs++bytesV more)) (hg:X.grownBy w1 v.ownBlock):RowRel w (bs++more) v1 w1:=by
 refine⟨by rw[List.length_append,bytesV,List.map_append];exact hown,?_⟩
 refine Below.grown (h.2.trans (hX.mono h.2.size)) hg (Nat.le_trans h.2.size hX.size) fun k hk=>(h.1.lt k hk).1
theorem big_byte (k:Nat):bytesV [(k%128+128).toUInt8]=[.int .u8 ((k:Int)%128+128)]:=by
 show [Value.int .u8 (((k%128+128)%256:Nat):Int)]=_
 congr 2
 omega
def XIntRel (w:World) (n:Int) (u out:Value) (wr:World):Prop:=
 ∃(k:Nat) (pre:List UInt8),u=.int .u64 (k:Int)∧k<18446744073709551616∧pre++encU k=encI n∧RowRel w pre out wr
theorem xint (n:Int) (w:World) (hn1: -9223372036854775808≤n) (hn2:n≤9223372036854775807):
 Calls Tryz.prog 44 #[.int .i64 n] w (RowPost w (encI n)):=by
 obtain⟨i0,hi0,hz0,hz1,hz2⟩:=info_partsW u8_info
 have hzl:=zig_lt hn1 hn2
 have hel:=encI_len hn1 hn2
 have hcase:n<0∨0≤n:=by omega
 rcases hcase with hneg|hneg
 all_goals (
  go_enter Tryz.func44,Tryz.ntmps44
  go_wp2
  go_loopw [3,4] (fun u out wr=>XIntRel w n u out wr) (fun u _ _=>(intOf u).toNat)
  case atStart=>
   refine⟨zig n,[],?_,hzl,rfl,RowRel.start w⟩
   first
        |rw[zig_neg hneg hn1]
        |(have e:=zig_pos hneg hn2
          rw[show IntKind.u64.wrap n=n from by rw[IntKind.wrap_u64];omega,show IntKind.u64.wrap (n*2)=n*2 from by rw[IntKind.wrap_u64];omega]at e
          rw[e])
  case round=>
   obtain⟨k,pre,rfl,hk,henc,hrow⟩:=hrel
   obtain⟨A1,c1,rfl,hA1,hA2⟩:=own_form hrow.1
   have hzz:=hrow.2.size
   have hpre:pre.length+(encU k).length=(encI n).length:=by rw[←henc,List.length_append]
   by_cases hbig:k<128
   · have h1:encU k=[k.toUInt8]:=encU_small hbig
     go_wp2_with (first
      |(at_builtin
        refine wpList_append_any _ rfl (.tmp 23) (.tmp 26) _ rfl w.heap.size 5 i0 _ 1 1 Tryz.underlying49 hi0 hz0 hz1 hz2 rfl (by omega) (.slice A1 pre.length c1) _ (bytesV pre) (by rfl) (hrow.1.alloc _) (wr.heap.size+1) (some ⟨wr.heap.size,0,none⟩) 1 1 (bytesV [k.toUInt8]) (by rfl)
            (by rw[low_byte k hbig];exact reads_new wr 5 _ 1 rfl) (bytesV_one _) (by unfold maxLen;omega) (by omega) (by simp;omega) ?_
        intro v2 w1 hown1 hg1 hat1))
     go_ret
     rw[←henc,h1]
     exact(hrow.push ((Below.refl _ _).alloc (Nat.le_refl _) _) hown1 hg1).post
   · have h1:=encU_big hbig
     go_wp2_with (first
      |(at_builtin
        refine wpList_append_any _ rfl (.tmp 14) (.tmp 19) _ rfl w.heap.size 5 i0 _ 1 1 Tryz.underlying49 hi0 hz0 hz1 hz2 rfl (by omega) (.slice A1 pre.length c1) _ (bytesV pre) (by rfl) (hrow.1.alloc _) (wr.heap.size+1) (some ⟨wr.heap.size,0,none⟩) 1 1 (bytesV [(k%128+128).toUInt8]) (by rfl)
            (by rw[big_byte k];exact reads_new wr 5 _ 1 rfl) (bytesV_one _) (by unfold maxLen;omega) (by omega) (by simp;omega) ?_
        intro v2 w1 hown1 hg1 hat1))
     go_roundw
     case rel=>
      refine⟨k/128,pre++[(k%128+128).toUInt8],by go_num,by omega,?_,hrow.push ((Below.refl _ _).alloc (Nat.le_refl _) _) hown1 hg1⟩
      rw[List.append_assoc,←henc,h1];rfl
     case measure=>simp[intOf];omega)
theorem xflag (b:Bool) (w:World):Calls Tryz.prog 151 #[.bool b] w (RowPost w (encB b)):=by
 cases b
 all_goals (
  go_enter Tryz.func151,Tryz.ntmps151
  go_wp2
  go_ret)
 · exact⟨some ⟨w.heap.size,0,none⟩,1,rfl,Nat.le_refl _,by unfold maxLen;omega,World.ownsRow_lit w #[.int .u8 0] 1 (Nat.le_refl _) (by unfold maxLen;omega) rfl,(Below.refl _ _).alloc (Nat.le_refl _) _⟩
 · exact⟨some ⟨w.heap.size,0,none⟩,1,rfl,Nat.le_refl _,by unfold maxLen;omega,World.ownsRow_lit w #[.int .u8 1] 1 (Nat.le_refl _) (by unfold maxLen;omega) rfl,(Below.refl _ _).alloc (Nat.le_refl _) _⟩
def XFloatRel (w:World) (x:Nat) (u out i:Value) (wr:World):Prop:=
 ∃(j k:Nat) (pre:List UInt8),j≤8∧i=.int .i64 (j:Int)∧u=.int .u64 (k:Int)∧k<18446744073709551616∧pre.length=j∧pre++leW (8-j) k=leW 8 x∧RowRel w pre out wr
theorem xfloat (a:Nat) (w:World) (ha:a<18446744073709551616):Calls Tryz.prog 174 #[.float .f64 a] w (RowPost w (leW 8 (canonB a))):=by
 obtain⟨i0,hi0,hz0,hz1,hz2⟩:=info_partsW u8_info
 have hcan:canonB a<18446744073709551616:=canonB_lt ha
 go_enter Tryz.func174,Tryz.ntmps174
 go_wp2_with ((with_reducible refine(xbits _ _).mono ?_);rintro e w' ⟨rfl,rfl⟩)
 go_loopw [3,4,5] (fun u out i wr=>XFloatRel w (canonB a) u out i wr) (fun _ _ i _=>8-(intOf i).toNat)
 case atStart=>exact⟨0,_,[],by omega,rfl,rfl,hcan,rfl,rfl,RowRel.start w⟩
 case round=>
  obtain⟨j,k,pre,hj,rfl,rfl,hk,hpl,henc,hrow⟩:=hrel
  have hl8:pre.length≤8:=by omega
  have hzz:=hrow.2.size
  have HP:=Lib.hid hpl
  clear hpl
  obtain⟨A1,c1,rfl,hA1,hA2⟩:=own_form hrow.1
  by_cases hlt:j<8
  · go_wp2_with (first
     |(at_builtin
       refine wpList_append_any _ rfl (.tmp 12) (.tmp 16) _ rfl w.heap.size 5 i0 _ 1 1 Tryz.underlying49 hi0 hz0 hz1 hz2 rfl (by omega) (.slice A1 pre.length c1) _ (bytesV pre) (by rfl) (hrow.1.alloc _) (wr.heap.size+1) (some ⟨wr.heap.size,0,none⟩) 1 1 (bytesV [(k%256).toUInt8]) (by rfl)
               (by rw[mod_byte k];exact reads_new wr 5 _ 1 rfl) (bytesV_one _) (by unfold maxLen;omega) (by omega) (by simp;omega) ?_
       intro v2 w1 hown1 hg1 hat1))
    go_roundw
    case rel=>
        refine⟨j+1,k/256,pre++[(k%256).toUInt8],by omega,by go_num,by go_num,by omega,by simp[HP.out],?_,hrow.push ((Below.refl _ _).alloc (Nat.le_refl _) _) hown1 hg1⟩
        rw[List.append_assoc,←henc,show 8-j=(8-(j+1))+1 from by omega];rfl
    case measure=>simp[intOf];omega
  · obtain rfl:j=8:=by omega
    have hen:pre=leW 8 (canonB a):=by simpa [leW] using henc
    have HE:=Lib.hid hen
    clear hen henc
    go_wp2
    go_ret
    rw[←HE.out]
    exact hrow.post
theorem xtext (s:ByteArray) (w:World) (hs:s.size≤1000000000000):Calls Tryz.prog 152 #[.string s] w (RowPost w (encT s.data.toList)):=by
 obtain⟨i0,hi0,hz0,hz1,hz2⟩:=info_partsW u8_info
 have hel:(encI (s.size:Int)).length≤10:=encI_len (by omega) (by omega)
 go_enter Tryz.func152,Tryz.ntmps152
 go_wp2_with (first
         |((with_reducible refine(xint _ _ (by omega) (by omega)).mono ?_);rintro e w1 ⟨A1,c1,rfl,hA1,hA2,hown,hb⟩)
         |(at_builtin
           refine wpList_append_str _ rfl (.tmp 5) (.tmp 6) _ _ rfl w.heap.size 5 i0 Tryz.underlying49 Tryz.underlying9 hi0 hz0 hz1 hz2 (.slice A1 (encI (s.size:Int)).length c1) _ (bytesV (encI (s.size:Int))) (by rfl) hown s (by rfl)
              (by unfold maxLen;omega) (by omega) hb.size ?_
           intro v2 w2 hown1 hg1 hat1))
 have hsz:s.size=s.data.toList.length:=(Array.length_toList (xs:=s.data)).symm
 have hr:=RowRel.push (w:=w) (more:=s.data.toList) ⟨hown,hb⟩ (Below.refl _ _) (by rw[←hsz];exact hown1) hg1
 go_ret
 unfold encT
 rw[←hsz]
 exact hr.post
def CopyRelW (w:World) (bs:List UInt8) (out i:Value) (wr:World):Prop:=∃k:Nat,k≤bs.length∧i=.int .i64 (k:Int)∧RowRel w (bs.take k) out wr
theorem xcopy (A:Option Addr) (n c:Nat) (bs:List UInt8) (w:World) (h:Reads w w.heap.size 1 A n (bytesV bs)) (hn:n≤1000000000000):Calls Tryz.prog 19 #[.slice A n c] w (RowPost w bs):=by
 obtain⟨i0,hi0,hz0,hz1,hz2⟩:=info_partsW u8_info
 have hlen:bs.length=n:=by have:=h.1;simpa using this
 have HL:=Lib.hid hlen
 have hle:bs.length≤n:=by omega
 have hge:n≤bs.length:=by omega
 clear hlen
 go_enter Tryz.func19,Tryz.ntmps19
 go_wp2
 go_loopw [3,4] (fun out i wr=>CopyRelW w bs out i wr) (fun _ i _=>n-(intOf i).toNat)
 case atStart=>exact⟨0,Nat.zero_le _,rfl,RowRel.start w⟩
 case round=>
  obtain⟨k,hk,rfl,hrow⟩:=hrel
  obtain⟨A1,c1,rfl,hA1,hA2⟩:=own_form hrow.1
  have hzz:=hrow.2.size
  have htl:(bs.take k).length≤k:=List.length_take_le _ _
  by_cases hlt:k<n
  · obtain⟨ad,x,rfl,hb,hx,hc⟩:=h.at_ hlt
    have hxl:∃y,bs[k]?=some y∧x=.int .u8 (y.toNat:Int):=by
        have hk2:bs[k]?=some bs[k]:=List.getElem?_eq_getElem (by omega)
        rw[List.getElem?_map,hk2]at hx
        exact⟨_,hk2,(Option.some.inj hx).symm⟩
    obtain⟨y,hy,rfl⟩:=hxl
    have hcw:wr.cell? (ad.add k)=some (.int .u8 (y.toNat:Int)):=by rw[hrow.2.cell (by rw[block_of_add];exact hb)];exact hc
    have HT:RowKit.Hid (bs.take (k+1)=bs.take k++[y]):=Lib.hid (by rw[List.take_add_one,hy];rfl)
    clear hx hy hc
    go_wp2_with (first
     |(at_builtin
       refine wpList_append_any _ rfl (.tmp 11) (.tmp 16) _ rfl w.heap.size 5 i0 _ 1 1 Tryz.underlying49 hi0 hz0 hz1 hz2 rfl (by omega) (.slice A1 (bs.take k).length c1) _ (bytesV (bs.take k)) (by rfl) (hrow.1.alloc _) (wr.heap.size+1) (some ⟨wr.heap.size,0,none⟩) 1 1 (bytesV [y]) (by rfl)
               (reads_new wr 5 _ 1 rfl) (bytesV_one _) (by unfold maxLen;omega) (by omega) (by simp;omega) ?_
       intro v2 w1 hown1 hg1 hat1))
    go_roundw
    case rel=>
        refine⟨k+1,by omega,by go_num,?_⟩
        rw[HT.out]
        exact hrow.push ((Below.refl _ _).alloc (Nat.le_refl _) _) hown1 hg1
    case measure=>simp[intOf];omega
  · have he:bs.take k=bs:=List.take_of_length_le (by omega)
    have HE:=Lib.hid he
    clear he
    go_wp2
    go_ret
    have:=hrow.post
    rw[HE.out]at this
    rw[HE.out]
    exact this
end Go.Proofs.YtcalkfgibflbnaaGreat
namespace Go.Proofs.YtcalkfgibflbnaaGreat
set_option maxHeartbeats 2000000
set_option maxRecDepth 100000
set_option linter.unusedVariables false
open Go.RowKit Fl
attribute [local go_sem] run_store_float
theorem RowPost.down {w X w':World} {bs:List UInt8} {e:Ending} (hX:Below w.heap.size w X) (h:RowPost X bs e w'):RowPost w bs e w':=by
 obtain⟨A,c,h1,h2,h3,h4,h5⟩:=h
 exact⟨A,c,h1,h2,h3,owns_down h4 hX.size,hX.trans (h5.mono hX.size)⟩
theorem named (a b:List UInt8):∃P:List UInt8,RowKit.Hid (P=a++b)∧RowKit.Hid (P.length=a.length+b.length):=⟨a++b,Lib.hid rfl,Lib.hid (List.length_append)⟩
theorem RowRel.below {w wr w2:World} {bs:List UInt8} {v:Value} (h:RowRel w bs v wr) (hb:Below wr.heap.size wr w2):RowRel w bs v w2:=
 ⟨h.1.kept (row:=none) ⟨hb.os,hb.tape,hb.output,hb.size,fun k hk _=>hb.block k hk⟩ (by cases v.ownBlock<;>simp),h.2.trans (hb.mono h.2.size)⟩
theorem xStamp (s:Sp) (w:World) (ok:s.ok):Calls Tryz.prog 92 #[s.val] w (RowPost w (encSp s)):=by
 obtain⟨⟨k1,k1'⟩,⟨k2,k2'⟩,k3,k3'⟩:=ok
 have e1:(encI s.w).length≤10:=encI_len k1 k1'
 have e2:(encI s.l).length≤10:=encI_len k2 k2'
 have e3:(encI s.n).length≤10:=encI_len k3 k3'
 obtain⟨i0,hi0,hz0,hz1,hz2⟩:=info_partsW u8_info
 have HX:Below w.heap.size w (w.alloc (.cells #[.int .i64 s.w,.int .i64 s.l,.int .i64 s.n] 26)):=by go_grown
 have HB:w.heap.size<((w.alloc (.cells #[.int .i64 s.w,.int .i64 s.l,.int .i64 s.n] 26))).heap.size:=by simp
 have C0:=cn HX 0
 have C1:=cn HX 1
 have C2:=cn HX 2
 go_enter Tryz.func92,Tryz.ntmps92
 go_wp2_with fail
 refine(xint s.w _ k1 k1').mono ?_
 rintro e w1 ⟨A1,q1,rfl,hq1,hm1,hown1,hb1⟩
 have hrow1:RowRel (w.alloc (.cells #[.int .i64 s.w,.int .i64 s.l,.int .i64 s.n] 26)) (encI s.w) (.slice A1 (encI s.w).length q1) w1:=⟨hown1,hb1⟩
 have c1_0:=up C0 hrow1.2 HB
 have c1_1:=up C1 hrow1.2 HB
 have c1_2:=up C2 hrow1.2 HB
 go_wp2_with fail
 refine(xint s.l _ k2 k2').mono ?_
 rintro e w2 ⟨A2,q2,rfl,hq2,hm2,hown2,hb2⟩
 have hrow2:=hrow1.below hb2
 have z2a:(encI s.w).length+(encI s.l).length≤maxLen:=by unfold maxLen;omega
 have z2b:((encI s.w).length+(encI s.l).length)*1≤140737488355328:=by omega
 go_wp2_with (at_builtin;refine wpList_append_any _ rfl _ _ _ rfl ((w.alloc (.cells #[.int .i64 s.w,.int .i64 s.l,.int .i64 s.n] 26))).heap.size 5 i0 _ 1 1 Tryz.underlying49 hi0 hz0 hz1 hz2 rfl (by omega) (.slice A1 (encI s.w).length q1) _ (bytesV (encI s.w)) (by rfl) hrow2.1 w2.heap.size A2 (encI s.l).length q2 (bytesV (encI s.l)) (by rfl) (Reads.of_own hown2) (bytesV_one _) z2a z2b hrow2.2.size ?_;intro v2' w2' hown2' hg2' hat2';have hr2:=hrow2.push (Below.refl _ _) hown2' hg2';obtain⟨P2,HP2,LP2⟩:=named (encI s.w) (encI s.l);rw[←HP2.out]at hr2;obtain⟨A2',q2',rfl,hq2',hm2'⟩:=own_form hr2.1;have c2_0:=up C0 hr2.2 HB;have c2_1:=up C1 hr2.2 HB;have c2_2:=up C2 hr2.2 HB)
 clear z2a z2b hown2' hg2' hat2' hrow2 hown2 hb2
 go_wp2_with fail
 refine(xint s.n _ k3 k3').mono ?_
 rintro e w3 ⟨A3,q3,rfl,hq3,hm3,hown3,hb3⟩
 have hrow3:=hr2.below hb3
 have z3a:(P2).length+(encI s.n).length≤maxLen:=by unfold maxLen;have:=LP2.out;omega
 have z3b:((P2).length+(encI s.n).length)*1≤140737488355328:=by have:=LP2.out;omega
 go_wp2_with (at_builtin;refine wpList_append_any _ rfl _ _ _ rfl ((w.alloc (.cells #[.int .i64 s.w,.int .i64 s.l,.int .i64 s.n] 26))).heap.size 5 i0 _ 1 1 Tryz.underlying49 hi0 hz0 hz1 hz2 rfl (by omega) (.slice A2' P2.length q2') _ (bytesV (P2)) (by rfl) hrow3.1 w3.heap.size A3 (encI s.n).length q3 (bytesV (encI s.n)) (by rfl) (Reads.of_own hown3) (bytesV_one _) z3a z3b hrow3.2.size ?_;intro v3' w3' hown3' hg3' hat3';have hr3:=hrow3.push (Below.refl _ _) hown3' hg3';obtain⟨P3,HP3,LP3⟩:=named (P2) (encI s.n);rw[←HP3.out]at hr3;obtain⟨A3',q3',rfl,hq3',hm3'⟩:=own_form hr3.1;have c3_0:=up C0 hr3.2 HB;have c3_1:=up C1 hr3.2 HB;have c3_2:=up C2 hr3.2 HB)
 clear z3a z3b hown3' hg3' hat3' hrow3 hown3 hb3
 have HP:=RowPost.down HX hr3.post
 have HQ:encSp s=P3:=by rw[HP3.out,HP2.out];simp only[encSp,List.append_assoc]
 go_ret
 rw[HQ]
 exact HP
theorem xTxn (s:Tx) (w:World) (ok:s.ok):Calls Tryz.prog 95 #[s.val] w (RowPost w (encTx s)):=by
 obtain⟨⟨k1,k1'⟩,⟨k2,k2'⟩,k3,k3'⟩:=ok
 have e1:(encI s.c).length≤10:=encI_len k1 k1'
 have e2:(encI s.l).length≤10:=encI_len k2 k2'
 have e3:(encI s.s).length≤10:=encI_len k3 k3'
 obtain⟨i0,hi0,hz0,hz1,hz2⟩:=info_partsW u8_info
 have HX:Below w.heap.size w (w.alloc (.cells #[.int .i64 s.c,.int .i64 s.l,.int .i64 s.s] 23)):=by go_grown
 have HB:w.heap.size<((w.alloc (.cells #[.int .i64 s.c,.int .i64 s.l,.int .i64 s.s] 23))).heap.size:=by simp
 have C0:=cn HX 0
 have C1:=cn HX 1
 have C2:=cn HX 2
 go_enter Tryz.func95,Tryz.ntmps95
 go_wp2_with fail
 refine(xint s.c _ k1 k1').mono ?_
 rintro e w1 ⟨A1,q1,rfl,hq1,hm1,hown1,hb1⟩
 have hrow1:RowRel (w.alloc (.cells #[.int .i64 s.c,.int .i64 s.l,.int .i64 s.s] 23)) (encI s.c) (.slice A1 (encI s.c).length q1) w1:=⟨hown1,hb1⟩
 have c1_0:=up C0 hrow1.2 HB
 have c1_1:=up C1 hrow1.2 HB
 have c1_2:=up C2 hrow1.2 HB
 go_wp2_with fail
 refine(xint s.l _ k2 k2').mono ?_
 rintro e w2 ⟨A2,q2,rfl,hq2,hm2,hown2,hb2⟩
 have hrow2:=hrow1.below hb2
 have z2a:(encI s.c).length+(encI s.l).length≤maxLen:=by unfold maxLen;omega
 have z2b:((encI s.c).length+(encI s.l).length)*1≤140737488355328:=by omega
 go_wp2_with (at_builtin;refine wpList_append_any _ rfl _ _ _ rfl ((w.alloc (.cells #[.int .i64 s.c,.int .i64 s.l,.int .i64 s.s] 23))).heap.size 5 i0 _ 1 1 Tryz.underlying49 hi0 hz0 hz1 hz2 rfl (by omega) (.slice A1 (encI s.c).length q1) _ (bytesV (encI s.c)) (by rfl) hrow2.1 w2.heap.size A2 (encI s.l).length q2 (bytesV (encI s.l)) (by rfl) (Reads.of_own hown2) (bytesV_one _) z2a z2b hrow2.2.size ?_;intro v2' w2' hown2' hg2' hat2';have hr2:=hrow2.push (Below.refl _ _) hown2' hg2';obtain⟨P2,HP2,LP2⟩:=named (encI s.c) (encI s.l);rw[←HP2.out]at hr2;obtain⟨A2',q2',rfl,hq2',hm2'⟩:=own_form hr2.1;have c2_0:=up C0 hr2.2 HB;have c2_1:=up C1 hr2.2 HB;have c2_2:=up C2 hr2.2 HB)
 clear z2a z2b hown2' hg2' hat2' hrow2 hown2 hb2
 go_wp2_with fail
 refine(xint s.s _ k3 k3').mono ?_
 rintro e w3 ⟨A3,q3,rfl,hq3,hm3,hown3,hb3⟩
 have hrow3:=hr2.below hb3
 have z3a:(P2).length+(encI s.s).length≤maxLen:=by unfold maxLen;have:=LP2.out;omega
 have z3b:((P2).length+(encI s.s).length)*1≤140737488355328:=by have:=LP2.out;omega
 go_wp2_with (at_builtin;refine wpList_append_any _ rfl _ _ _ rfl ((w.alloc (.cells #[.int .i64 s.c,.int .i64 s.l,.int .i64 s.s] 23))).heap.size 5 i0 _ 1 1 Tryz.underlying49 hi0 hz0 hz1 hz2 rfl (by omega) (.slice A2' P2.length q2') _ (bytesV (P2)) (by rfl) hrow3.1 w3.heap.size A3 (encI s.s).length q3 (bytesV (encI s.s)) (by rfl) (Reads.of_own hown3) (bytesV_one _) z3a z3b hrow3.2.size ?_;intro v3' w3' hown3' hg3' hat3';have hr3:=hrow3.push (Below.refl _ _) hown3' hg3';obtain⟨P3,HP3,LP3⟩:=named (P2) (encI s.s);rw[←HP3.out]at hr3;obtain⟨A3',q3',rfl,hq3',hm3'⟩:=own_form hr3.1;have c3_0:=up C0 hr3.2 HB;have c3_1:=up C1 hr3.2 HB;have c3_2:=up C2 hr3.2 HB)
 clear z3a z3b hown3' hg3' hat3' hrow3 hown3 hb3
 have HP:=RowPost.down HX hr3.post
 have HQ:encTx s=P3:=by rw[HP3.out,HP2.out];simp only[encTx,List.append_assoc]
 go_ret
 rw[HQ]
 exact HP
theorem xRange (r:Rg) (w:World) (ok:r.ok):Calls Tryz.prog 153 #[.agg #[.int .i64 r.id,.int .i64 r.ep,.float .f64 r.lo,.float .f64 r.hi]] w (RowPost w (encRg r)):=by
 obtain⟨⟨k1,k1'⟩,⟨k2,k2'⟩,k3,k4⟩:=ok
 have e1:(encI r.id).length≤10:=encI_len k1 k1'
 have e2:(encI r.ep).length≤10:=encI_len k2 k2'
 have e3:(encF64 r.lo).length=8:=leW_len 8 _
 have e4:(encF64 r.hi).length=8:=leW_len 8 _
 obtain⟨i0,hi0,hz0,hz1,hz2⟩:=info_partsW u8_info
 have HX:Below w.heap.size w (w.alloc (.cells #[.int .i64 r.id,.int .i64 r.ep,.float .f64 r.lo,.float .f64 r.hi] 35)):=by go_grown
 have HB:w.heap.size<((w.alloc (.cells #[.int .i64 r.id,.int .i64 r.ep,.float .f64 r.lo,.float .f64 r.hi] 35))).heap.size:=by simp
 have C0:=cn HX 0
 have C1:=cn HX 1
 have C2:=cn HX 2
 have C3:=cn HX 3
 go_enter Tryz.func153,Tryz.ntmps153
 go_wp2_with fail
 refine wp_region_held_drew (S:=fun W'=>Below ((w.alloc (.cells #[.int .i64 r.id,.int .i64 r.ep,.float .f64 r.lo,.float .f64 r.hi] 35))).heap.size ((w.alloc (.cells #[.int .i64 r.id,.int .i64 r.ep,.float .f64 r.lo,.float .f64 r.hi] 35))) W') (by kernel_rfl) (Below.refl _ _).drew (fun hHeld=>?_)
 refine tc 0 4 ?_
 go_frame
 refine ts 1 5 rfl (v:=.int .i64 r.id) (fun W hSw=>by have z:=(hSw.cell (p:=⟨w.heap.size,0,none⟩) HB).trans C0;clear hSw;go_simp) ?_
 go_frame
 refine tc 3 7 ?_
 go_frame
 refine ts 4 8 rfl (v:=.int .i64 r.ep) (fun W hSw=>by have z:=(hSw.cell (p:=⟨w.heap.size,1,none⟩) HB).trans C1;clear hSw;go_simp) ?_
 go_frame
 have s0:Below ((w.alloc (.cells #[.int .i64 r.id,.int .i64 r.ep,.float .f64 r.lo,.float .f64 r.hi] 35))).heap.size ((w.alloc (.cells #[.int .i64 r.id,.int .i64 r.ep,.float .f64 r.lo,.float .f64 r.hi] 35))) ((w.alloc (.cells #[.int .i64 r.id,.int .i64 r.ep,.float .f64 r.lo,.float .f64 r.hi] 35))).drew:=(Below.refl _ _).drew
 refine tr (o:=⟨some 6,_,_,_,_,_⟩) 2 rfl fun K hK=>?_
 go_simp
 (with_reducible refine(xint r.id _ k1 k1').mono ?_)
 rintro e w1 ⟨A1,q1,rfl,hq1,hm1,hown1,hb1⟩
 have s1:Below ((w.alloc (.cells #[.int .i64 r.id,.int .i64 r.ep,.float .f64 r.lo,.float .f64 r.hi] 35))).heap.size ((w.alloc (.cells #[.int .i64 r.id,.int .i64 r.ep,.float .f64 r.lo,.float .f64 r.hi] 35))) w1:=s0.trans (hb1.mono (s0).size)
 refine hK.out _ _ s1 (fun hHeld=>?_)
 clear hK K
 try go_frame
 have hrow1:RowRel ((w.alloc (.cells #[.int .i64 r.id,.int .i64 r.ep,.float .f64 r.lo,.float .f64 r.hi] 35))) (encI r.id) (.slice A1 (encI r.id).length q1) w1:=⟨hown1,s1⟩
 refine tr (o:=⟨some 9,_,_,_,_,_⟩) 5 rfl fun K hK=>?_
 go_simp
 (with_reducible refine(xint r.ep _ k2 k2').mono ?_)
 rintro e w2 ⟨A2,q2,rfl,hq2,hm2,hown2,hb2⟩
 have s2:Below ((w.alloc (.cells #[.int .i64 r.id,.int .i64 r.ep,.float .f64 r.lo,.float .f64 r.hi] 35))).heap.size ((w.alloc (.cells #[.int .i64 r.id,.int .i64 r.ep,.float .f64 r.lo,.float .f64 r.hi] 35))) w2:=s1.trans (hb2.mono (s1).size)
 refine hK.out _ _ s2 (fun hHeld=>?_)
 clear hK K
 try go_frame
 have hrow2:=hrow1.below hb2
 have za:(encI r.id).length+(encI r.ep).length≤maxLen:=by unfold maxLen;omega
 have zb:((encI r.id).length+(encI r.ep).length)*1≤140737488355328:=by omega
 refine tr (o:=⟨some 10,_,_,_,_,_⟩) 6 rfl fun K hK=>?_
 refine step_append_any _ rfl _ _ _ rfl ((w.alloc (.cells #[.int .i64 r.id,.int .i64 r.ep,.float .f64 r.lo,.float .f64 r.hi] 35))).heap.size 5 i0 _ 1 1 Tryz.underlying49 hi0 hz0 hz1 hz2 rfl (by omega) (.slice A1 (encI r.id).length q1) _ (bytesV (encI r.id)) (by rfl) hrow2.1 w2.heap.size A2 (encI r.ep).length q2 (bytesV (encI r.ep)) (by rfl) (Reads.of_own hown2) (bytesV_one _) za zb hrow2.2.size ?_
 intro v2' w2' hown2' hg2' hat2'
 have hr2:=hrow2.push (Below.refl _ _) hown2' hg2'
 obtain⟨P2,HP2,LP2⟩:=named (encI r.id) (encI r.ep)
 rw[←HP2.out]at hr2
 obtain⟨A2',q2',rfl,hq2',hm2'⟩:=own_form hr2.1
 refine hK.out _ _ hr2.2 (fun hHeld=>?_)
 clear hK K
 try go_frame
 refine tc 7 3 ?_
 go_frame
 refine td ?_
 clear za zb hown2' hg2' hat2' hrow1 hrow2 hown1 hown2 hb1 hb2 s0 s1 s2 hHeld
 have c2_0:=up C0 hr2.2 HB
 have c2_1:=up C1 hr2.2 HB
 have c2_2:=up C2 hr2.2 HB
 have c2_3:=up C3 hr2.2 HB
 go_wp2_with fail
 refine(xfloat r.lo _ k3).mono ?_
 rintro e w3 ⟨A3,q3,rfl,hq3,hm3,hown3,hb3⟩
 have hrow3:=hr2.below hb3
 have z3a:(P2).length+(encF64 r.lo).length≤maxLen:=by unfold maxLen;have:=LP2.out;omega
 have z3b:((P2).length+(encF64 r.lo).length)*1≤140737488355328:=by have:=LP2.out;omega
 go_wp2_with (at_builtin;refine wpList_append_any _ rfl _ _ _ rfl ((w.alloc (.cells #[.int .i64 r.id,.int .i64 r.ep,.float .f64 r.lo,.float .f64 r.hi] 35))).heap.size 5 i0 _ 1 1 Tryz.underlying49 hi0 hz0 hz1 hz2 rfl (by omega) (.slice A2' P2.length q2') _ (bytesV (P2)) (by rfl) hrow3.1 w3.heap.size A3 (encF64 r.lo).length q3 (bytesV (encF64 r.lo)) (by rfl) (Reads.of_own hown3) (bytesV_one _) z3a z3b hrow3.2.size ?_;intro v3' w3' hown3' hg3' hat3';have hr3:=hrow3.push (Below.refl _ _) hown3' hg3';obtain⟨P3,HP3,LP3⟩:=named (P2) (encF64 r.lo);rw[←HP3.out]at hr3;obtain⟨A3',q3',rfl,hq3',hm3'⟩:=own_form hr3.1;have c3_0:=up C0 hr3.2 HB;have c3_1:=up C1 hr3.2 HB;have c3_2:=up C2 hr3.2 HB;have c3_3:=up C3 hr3.2 HB)
 clear z3a z3b hown3' hg3' hat3' hrow3 hown3 hb3
 go_wp2_with fail
 refine(xfloat r.hi _ k4).mono ?_
 rintro e w4 ⟨A4,q4,rfl,hq4,hm4,hown4,hb4⟩
 have hrow4:=hr3.below hb4
 have z4a:(P3).length+(encF64 r.hi).length≤maxLen:=by unfold maxLen;have:=LP2.out;have:=LP3.out;omega
 have z4b:((P3).length+(encF64 r.hi).length)*1≤140737488355328:=by have:=LP2.out;have:=LP3.out;omega
 go_wp2_with (at_builtin;refine wpList_append_any _ rfl _ _ _ rfl ((w.alloc (.cells #[.int .i64 r.id,.int .i64 r.ep,.float .f64 r.lo,.float .f64 r.hi] 35))).heap.size 5 i0 _ 1 1 Tryz.underlying49 hi0 hz0 hz1 hz2 rfl (by omega) (.slice A3' P3.length q3') _ (bytesV (P3)) (by rfl) hrow4.1 w4.heap.size A4 (encF64 r.hi).length q4 (bytesV (encF64 r.hi)) (by rfl) (Reads.of_own hown4) (bytesV_one _) z4a z4b hrow4.2.size ?_;intro v4' w4' hown4' hg4' hat4';have hr4:=hrow4.push (Below.refl _ _) hown4' hg4';obtain⟨P4,HP4,LP4⟩:=named (P3) (encF64 r.hi);rw[←HP4.out]at hr4;obtain⟨A4',q4',rfl,hq4',hm4'⟩:=own_form hr4.1;have c4_0:=up C0 hr4.2 HB;have c4_1:=up C1 hr4.2 HB;have c4_2:=up C2 hr4.2 HB;have c4_3:=up C3 hr4.2 HB)
 clear z4a z4b hown4' hg4' hat4' hrow4 hown4 hb4
 have HP:=RowPost.down HX hr4.post
 have HQ:encRg r=P4:=by rw[HP4.out,HP3.out,HP2.out];simp only[encRg,List.append_assoc]
 go_ret
 rw[HQ]
 exact HP
theorem Blk.push {w w':World} {g:Nat} {t:TypeId} {cs:Array Value} {base n:Nat} {v:Value} {xs:List Value} (hb:Blk w g t cs) (ht:t≠5) (hown:w.ownsRow base 5 1 v n xs) (hg:w.grownBy w' v.ownBlock):Blk w' g t cs:=
 hb.grown hg fun e=>by
  obtain⟨c,fz,hc⟩:=Go.Lib.ownsRow_kind hown g e.symm
  unfold Blk at hb
  rw[hc]at hb
  injection hb with h1
  injection h1 with h2 h3
  exact ht h3.symm
structure BW (X:World) (T suf P:List UInt8) (A:Option Addr) (n c:Nat) (w:World):Prop where
 r:RowRel X P (.slice A n c) w
 l:P.length=n
 e:P++suf=T
 s:T.length≤1000000000000
structure BC (X:World) (T suf P:List UInt8) (A:Option Addr) (n c:Nat) (more:List UInt8) (A2:Option Addr) (n2 c2:Nat) (w:World):Prop where
 b:BW X T (more++suf) P A n c w
 o:∃B,w.ownsRow B 5 1 (.slice A2 n2 c2) n2 (bytesV more)
 l:more.length=n2
section
variable {X w w':World} {T suf suf' P more:List UInt8} {A A2:Option Addr} {n c n2 c2 F:Nat} {vs:Array Value}
theorem BW.as (b:BW X T suf P A n c w) (e:suf=suf'):BW X T suf' P A n c w:=e▸b
theorem BW.below (b:BW X T suf P A n c w) (hb:Below w.heap.size w w'):BW X T suf P A n c w':=⟨b.r.below hb,b.l,b.e,b.s⟩
theorem BW.blk (b:BW X T suf P A n c w) {g:Nat} {t:TypeId} {cs:Array Value} (B:Blk X g t cs):Blk w g t cs:=B.below b.r.2 B.lt
theorem BW.post (b:BW X T [] P A n c w):RowPost X T (.returned (.slice A n c)) w:=by
 have h:=b.r.post
 rw[b.l.symm,←b.e,List.append_nil]
 have e:=b.l
 subst e
 exact h
theorem BW.fst (hX:Below X.heap.size X w) (e:more++suf=T) (s:T.length≤1000000000000) (H:more.length≤1000000000000→Calls Tryz.prog F vs w (RowPost w more)):
 Calls Tryz.prog F vs w (fun e w'=>∃A n c P,e=.returned (.slice A n c)∧BW X T suf P A n c w'):=by
 refine(H (by rw[←e,List.length_append]at s;omega)).mono ?_
 rintro _ w1 ⟨A1,q1,rfl,-,-,ho,hb⟩
 exact⟨A1,_,q1,more,rfl,⟨⟨owns_down ho hX.size,hX.trans (hb.mono hX.size)⟩,rfl,e,s⟩⟩
theorem BW.call (b:BW X T (more++suf) P A n c w) (H:more.length≤1000000000000→Calls Tryz.prog F vs w (RowPost w more)):
 Calls Tryz.prog F vs w (fun e w'=>∃A2 n2 c2,e=.returned (.slice A2 n2 c2)∧BC X T suf P A n c more A2 n2 c2 w'):=by
 refine(H (by have s:=b.s;rw[←b.e,List.length_append,List.length_append]at s;omega)).mono ?_
 rintro _ w1 ⟨A1,q1,rfl,-,-,ho,hb⟩
 exact⟨A1,_,q1,rfl,⟨b.below hb,⟨_,ho⟩,rfl⟩⟩
theorem BC.wp2 (k:BC X T suf P A n c more A2 n2 c2 w) {a:Act} {o:Operand} {x y:Operand} {K:Act→World→Prop} {Q:Exit→Act→World→Prop} {op:Oper} (ho:op.op=.call {callee:=.builtin .append,args:=#[x,y],argTypes:=#[49,49]})
 (hx:a.eval x=.slice A n c) (hy:a.eval y=.slice A2 n2 c2) (h:∀A n c P w',BW X T suf P A n c w'→(∀g t cs,t≠5→Blk w g t cs→Blk w' g t cs)→K (a.put op.dst (.slice A n c)) w'):Oper.wp Tryz.prog op a w K Q:=by
 obtain⟨i0,hi0,hz0,hz1,hz2⟩:=info_partsW u8_info
 obtain⟨B,hB⟩:=k.o
 have s:=k.b.s
 rw[←k.b.e,List.length_append,List.length_append]at s
 have l1:=k.b.l
 have l2:=k.l
 refine wp_append_any w x y 49 ho X.heap.size 5 i0 _ 1 1 Tryz.underlying49 hi0 hz0 hz1 hz2 rfl (by omega) (.slice A n c) n (bytesV P) hx (by have:=k.b.r.1;rw[l1]at this;exact this) w.heap.size A2 n2 c2 (bytesV more) hy (Reads.of_own hB) (bytesV_one _) (by unfold maxLen;omega) (by omega) k.b.r.2.size ?_
 intro v' w' hown hg hat
 have hr:=k.b.r.push (more:=more) (Below.refl _ _) (by rw[l1,l2];exact hown) hg
 obtain⟨A',q',rfl,hq',hm'⟩:=own_form hr.1
 exact h _ _ _ _ _ ⟨hr,rfl,by rw[List.append_assoc];exact k.b.e,k.b.s⟩ fun g t cs d B=>B.push d k.b.r.1 hg
theorem BC.wp (k:BC X T suf P A n c more A2 n2 c2 w) {a:Act} {o:Operand} {x y:Operand} {K:Act→World→Prop} {Q:Exit→Act→World→Prop} {op:Oper} (ho:op.op=.call {callee:=.builtin .append,args:=#[x,y],argTypes:=#[49,49]})
 (hx:a.eval x=.slice A n c) (hy:a.eval y=.slice A2 n2 c2) (h:∀A n c P w,BW X T suf P A n c w→K (a.put op.dst (.slice A n c)) w):Oper.wp Tryz.prog op a w K Q:=
 k.wp2 (o:=o) ho hx hy fun A n c P w b _=>h A n c P w b
theorem BC.app (k:BC X T suf P A n c more A2 n2 c2 w) {ops:Array Oper} {rest:List Oper} {o:Oper} {a:Act} {Q:Exit→Act→World→Prop} (hgd:o.guard=none) (x y:Operand) (ho:o.op=.call {callee:=.builtin .append,args:=#[x,y],argTypes:=#[49,49]})
 (hx:a.eval x=.slice A n c) (hy:a.eval y=.slice A2 n2 c2) (h:∀A n c P w,BW X T suf P A n c w→wpList Tryz.prog ops Q rest (a.put o.dst (.slice A n c)) w):wpList Tryz.prog ops Q (o::rest) a w:=
 wpList_plain hgd fun _ hK=>k.wp (o:=x) ho hx hy fun A n c P w b=>hK _ _ (h A n c P w b)
structure BB (X:World) (T suf P:List UInt8) (A:Option Addr) (n c:Nat) (w:World) (g:Nat) (t:TypeId) (cs:Array Value):Prop where
 b:BW X T suf P A n c w
 d:t≠5
 k:Blk w g t cs
structure BD (X:World) (T suf P:List UInt8) (A:Option Addr) (n c:Nat) (more:List UInt8) (A2:Option Addr) (n2 c2:Nat) (w:World) (g:Nat) (t:TypeId) (cs:Array Value):Prop where
 c:BC X T suf P A n c more A2 n2 c2 w
 d:t≠5
 k:Blk w g t cs
variable {g:Nat} {t:TypeId} {cs:Array Value}
theorem BB.call (b:BB X T (more++suf) P A n c w g t cs) (H:more.length≤1000000000000→Calls Tryz.prog F vs w (RowPost w more)):
 Calls Tryz.prog F vs w (fun e w'=>∃A2 n2 c2,e=.returned (.slice A2 n2 c2)∧BD X T suf P A n c more A2 n2 c2 w' g t cs):=by
 refine(H (by have s:=b.b.s;rw[←b.b.e,List.length_append,List.length_append]at s;omega)).mono ?_
 rintro _ w1 ⟨A1,q1,rfl,-,-,ho,hb⟩
 exact⟨A1,_,q1,rfl,⟨b.b.below hb,⟨_,ho⟩,rfl⟩,b.d,b.k.below hb b.k.lt⟩
theorem BD.app (k:BD X T suf P A n c more A2 n2 c2 w g t cs) {ops:Array Oper} {rest:List Oper} {o:Oper} {a:Act} {Q:Exit→Act→World→Prop} (hgd:o.guard=none) (x y:Operand) (ho:o.op=.call {callee:=.builtin .append,args:=#[x,y],argTypes:=#[49,49]})
 (hx:a.eval x=.slice A n c) (hy:a.eval y=.slice A2 n2 c2) (h:∀A n c P w,BB X T suf P A n c w g t cs→wpList Tryz.prog ops Q rest (a.put o.dst (.slice A n c)) w):wpList Tryz.prog ops Q (o::rest) a w:=
 wpList_plain hgd fun _ hK=>k.c.wp2 (o:=x) ho hx hy fun A n c P w b q=>hK _ _ (h A n c P w ⟨b,k.d,q _ _ _ k.d k.k⟩)
end
theorem flat_drop {α:Type} {f:α→List UInt8} {l:List α} {k:Nat} {a:α} (h:l[k]?=some a):(l.drop k).flatMap f=f a++(l.drop (k+1)).flatMap f:=by
 obtain⟨hk,e⟩:=List.getElem?_eq_some_iff.1 h
 rw[List.drop_eq_getElem_cons hk,e,List.flatMap_cons]
theorem Blk.rng {w:World} {g:Nat} {t:TypeId} {cs:Array Value} (h:Blk w g t cs) (o:Nat) (xs:List Value) (e:(cs.toList.drop o).take xs.length=xs:=by rfl):w.rangeAt g o xs:=h.range o xs fun j u hj=>by
 have hlt:=(List.getElem?_eq_some_iff.1 hj).1
 have h3:((cs.toList.drop o).take xs.length)[j]?=some u:=by rw[e];exact hj
 rw[List.getElem?_take_of_lt hlt,List.getElem?_drop,Array.getElem?_toList]at h3
 exact h3
theorem BW.hb {X w:World} {T suf P:List UInt8} {A:Option Addr} {n c:Nat} (b:BW X T suf P A n c w):Below X.heap.size X w:=b.r.2
theorem BW.fin {X w:World} {T P:List UInt8} {A:Option Addr} {n c:Nat} (b:BW X T [] P A n c w):n=T.length∧P=T:=by
 have e:=b.e
 rw[List.append_nil]at e
 exact⟨by rw[←b.l,e],e⟩
theorem BC.apH {X w:World} {T suf P more:List UInt8} {A A2:Option Addr} {n c n2 c2:Nat} (k:BC X T suf P A n c more A2 n2 c2 w) {ops:Array Oper} {o:Oper} {a:Act} {K:Act→World→Prop} {Q:Exit→Act→World→Prop} {E:Prop} (hgd:o.guard=none) (x y:Operand) (ho:o.op=.call {callee:=.builtin .append,args:=#[x,y],argTypes:=#[49,49]})
 (hx:a.eval x=.slice A n c) (hy:a.eval y=.slice A2 n2 c2) (h:∀A n c P w,BW X T suf P A n c w→K (a.put o.dst (.slice A n c)) w):if Region.wanted o (yielded ops a.tmps)=true then Oper.wp Tryz.prog o a w K Q else E:=by
 have hw:Region.wanted o (yielded ops a.tmps)=true:=by simp[Region.wanted,hgd]
 rw[if_pos hw]
 exact k.wp (o:=x) ho hx hy h
theorem xi (n:Int) (w:World) (h:i64ok n):Calls Tryz.prog 44 #[.int .i64 n] w (RowPost w (encI n)):=xint n w (And.left h) (And.right h)
set_option maxHeartbeats 4000000
theorem xPut (v:Vl) (w:World) (hok:v.ok) (hlen:(encVl v).length≤1000000000000):Calls Tryz.prog 154 #[v.val] w (RowPost w (encVl v)):=by
 have hM:=fun w'=>rvmay_any v w'
 cases hm:v.may
 · have he:encVl v=encI 0:=by unfold encVl;rw[hm];rfl
   rw[he]
   rw[hm]at hM
   clear he hm hlen
   have HX:Below w.heap.size w (w.alloc (.cells v.cells.toArray 59)):=by go_grown
   go_enter Tryz.func154,Tryz.ntmps154
   go_wp2_with ((with_reducible refine(hM _).mono ?_);rintro e w1 ⟨rfl,hb1⟩)
   have hB:=HX.trans (hb1.mono HX.size)
   go_ret
   exact⟨some ⟨w1.heap.size,0,none⟩,1,rfl,Nat.le_refl _,by unfold maxLen;omega,owns_down (World.ownsRow_lit w1 #[.int .u8 0] 1 (Nat.le_refl _) (by unfold maxLen;omega) rfl) hB.size,hB.alloc hB.size _⟩
 · rcases may_kind hm with hk|hk|hk
   · have he:encVl v=encI 0:=by unfold encVl;rw[hm,hk];rfl
     rw[he]at hlen ⊢
     rw[hm]at hM
     have hx:=hok.2.1
     have hy:=hok.2.2
     obtain⟨vk,vn,vt⟩:=v
     change vk=0 at hk
     subst hk
     clear he hm hok
     obtain⟨i0,hi0,hz0,hz1,hz2⟩:=info_partsW u8_info
     have HX:Below w.heap.size w (w.alloc (.cells #[.int .i64 0,.float .f64 vn,.string vt] 59)):=by go_grown
     have HB:w.heap.size<((w.alloc (.cells #[.int .i64 0,.float .f64 vn,.string vt] 59))).heap.size:=by simp
     have C0:=cn HX 0
     have C1:=cn HX 1
     have C2:=cn HX 2
     go_enter Tryz.func154,Tryz.ntmps154
     have eK:(encI (0:Int)).length=1:=rfl
     go_wp2_with fail
     refine(hM _).mono ?_
     rintro e w0 ⟨rfl,hb0⟩
     have d0:=up C0 hb0 HB
     have d1:=up C1 hb0 HB
     have d2:=up C2 hb0 HB
     go_wp2_with fail
     refine(xint 0 _ (by omega) (by omega)).mono ?_
     rintro e w1 ⟨A1,q1,rfl,hq1,hm1,hown1,hb1⟩
     have hrow1:RowRel (w.alloc (.cells #[.int .i64 0,.float .f64 vn,.string vt] 59)) (encI 0) (.slice A1 (encI 0).length q1) w1:=⟨owns_down hown1 hb0.size,hb0.trans (hb1.mono hb0.size)⟩
     have c1_0:=up C0 hrow1.2 HB
     have c1_1:=up C1 hrow1.2 HB
     have c1_2:=up C2 hrow1.2 HB
     go_wp2
     have HP:=RowPost.down HX hrow1.post
     go_ret
     exact HP
   · have he:encVl v=encI 1++encF64 v.n:=by unfold encVl;rw[hm,hk];rfl
     rw[he]at hlen ⊢
     rw[hm]at hM
     have hx:=hok.2.1
     have hy:=hok.2.2
     obtain⟨vk,vn,vt⟩:=v
     change vk=1 at hk
     subst hk
     clear he hm hok
     obtain⟨i0,hi0,hz0,hz1,hz2⟩:=info_partsW u8_info
     have HX:Below w.heap.size w (w.alloc (.cells #[.int .i64 1,.float .f64 vn,.string vt] 59)):=by go_grown
     have HB:w.heap.size<((w.alloc (.cells #[.int .i64 1,.float .f64 vn,.string vt] 59))).heap.size:=by simp
     have C0:=cn HX 0
     have C1:=cn HX 1
     have C2:=cn HX 2
     go_enter Tryz.func154,Tryz.ntmps154
     have eK:(encI (1:Int)).length=1:=rfl
     simp only[List.length_append]at hlen
     go_wp2_with fail
     refine(hM _).mono ?_
     rintro e w0 ⟨rfl,hb0⟩
     have d0:=up C0 hb0 HB
     have d1:=up C1 hb0 HB
     have d2:=up C2 hb0 HB
     go_wp2_with fail
     refine(xint 1 _ (by omega) (by omega)).mono ?_
     rintro e w1 ⟨A1,q1,rfl,hq1,hm1,hown1,hb1⟩
     have hrow1:RowRel (w.alloc (.cells #[.int .i64 1,.float .f64 vn,.string vt] 59)) (encI 1) (.slice A1 (encI 1).length q1) w1:=⟨owns_down hown1 hb0.size,hb0.trans (hb1.mono hb0.size)⟩
     have c1_0:=up C0 hrow1.2 HB
     have c1_1:=up C1 hrow1.2 HB
     have c1_2:=up C2 hrow1.2 HB
     have e8:(encF64 vn).length=8:=leW_len 8 _
     go_wp2_with fail
     refine(xfloat vn _ hx).mono ?_
     rintro e w2 ⟨A2,q2,rfl,hq2,hm2,hown2,hb2⟩
     have hrow2:=hrow1.below hb2
     have z2a:(encI 1).length+(encF64 vn).length≤maxLen:=by unfold maxLen;omega
     have z2b:((encI 1).length+(encF64 vn).length)*1≤140737488355328:=by omega
     go_wp2_with (at_builtin;refine wpList_append_any _ rfl _ _ _ rfl ((w.alloc (.cells #[.int .i64 1,.float .f64 vn,.string vt] 59))).heap.size 5 i0 _ 1 1 Tryz.underlying49 hi0 hz0 hz1 hz2 rfl (by omega) (.slice A1 (encI 1).length q1) _ (bytesV (encI 1)) (by rfl) hrow2.1 w2.heap.size A2 (encF64 vn).length q2 (bytesV (encF64 vn)) (by rfl) (Reads.of_own hown2) (bytesV_one _) z2a z2b hrow2.2.size ?_;intro v2' w2' hown2' hg2' hat2';have hr2:=hrow2.push (Below.refl _ _) hown2' hg2';obtain⟨P2,HP2,LP2⟩:=named (encI 1) (encF64 vn);rw[←HP2.out]at hr2;obtain⟨A2',q2',rfl,hq2',hm2'⟩:=own_form hr2.1;have c2_0:=up C0 hr2.2 HB;have c2_1:=up C1 hr2.2 HB;have c2_2:=up C2 hr2.2 HB)
     clear z2a z2b hown2' hg2' hat2' hrow2 hown2 hb2
     go_wp2
     have HP:=RowPost.down HX hr2.post
     have HQ:encI 1++encF64 vn=P2:=by rw[HP2.out]
     go_ret
     rw[HQ]
     exact HP
   · have he:encVl v=encI 2++encKy v.t:=by unfold encVl;rw[hm,hk];rfl
     rw[he]at hlen ⊢
     rw[hm]at hM
     have hx:=hok.2.1
     have hy:=hok.2.2
     obtain⟨vk,vn,vt⟩:=v
     change vk=2 at hk
     subst hk
     clear he hm hok
     obtain⟨i0,hi0,hz0,hz1,hz2⟩:=info_partsW u8_info
     have HX:Below w.heap.size w (w.alloc (.cells #[.int .i64 2,.float .f64 vn,.string vt] 59)):=by go_grown
     have HB:w.heap.size<((w.alloc (.cells #[.int .i64 2,.float .f64 vn,.string vt] 59))).heap.size:=by simp
     have C0:=cn HX 0
     have C1:=cn HX 1
     have C2:=cn HX 2
     go_enter Tryz.func154,Tryz.ntmps154
     have eK:(encI (2:Int)).length=1:=rfl
     simp only[List.length_append]at hlen
     go_wp2_with fail
     refine(hM _).mono ?_
     rintro e w0 ⟨rfl,hb0⟩
     have d0:=up C0 hb0 HB
     have d1:=up C1 hb0 HB
     have d2:=up C2 hb0 HB
     go_wp2_with fail
     refine(xint 2 _ (by omega) (by omega)).mono ?_
     rintro e w1 ⟨A1,q1,rfl,hq1,hm1,hown1,hb1⟩
     have hrow1:RowRel (w.alloc (.cells #[.int .i64 2,.float .f64 vn,.string vt] 59)) (encI 2) (.slice A1 (encI 2).length q1) w1:=⟨owns_down hown1 hb0.size,hb0.trans (hb1.mono hb0.size)⟩
     have c1_0:=up C0 hrow1.2 HB
     have c1_1:=up C1 hrow1.2 HB
     have c1_2:=up C2 hrow1.2 HB
     have e8:vt.size≤(encKy vt).length:=by {have e:vt.size=vt.data.toList.length:=(Array.length_toList (xs:=vt.data)).symm;unfold encKy encT;rw[List.length_append];omega}
     go_wp2_with fail
     refine(xtext vt _ (by omega)).mono ?_
     rintro e w2 ⟨A2,q2,rfl,hq2,hm2,hown2,hb2⟩
     have hrow2:=hrow1.below hb2
     have z2a:(encI 2).length+(encKy vt).length≤maxLen:=by unfold maxLen;omega
     have z2b:((encI 2).length+(encKy vt).length)*1≤140737488355328:=by omega
     go_wp2_with (at_builtin;refine wpList_append_any _ rfl _ _ _ rfl ((w.alloc (.cells #[.int .i64 2,.float .f64 vn,.string vt] 59))).heap.size 5 i0 _ 1 1 Tryz.underlying49 hi0 hz0 hz1 hz2 rfl (by omega) (.slice A1 (encI 2).length q1) _ (bytesV (encI 2)) (by rfl) hrow2.1 w2.heap.size A2 (encKy vt).length q2 (bytesV (encKy vt)) (by rfl) (Reads.of_own hown2) (bytesV_one _) z2a z2b hrow2.2.size ?_;intro v2' w2' hown2' hg2' hat2';have hr2:=hrow2.push (Below.refl _ _) hown2' hg2';obtain⟨P2,HP2,LP2⟩:=named (encI 2) (encKy vt);rw[←HP2.out]at hr2;obtain⟨A2',q2',rfl,hq2',hm2'⟩:=own_form hr2.1;have c2_0:=up C0 hr2.2 HB;have c2_1:=up C1 hr2.2 HB;have c2_2:=up C2 hr2.2 HB)
     clear z2a z2b hown2' hg2' hat2' hrow2 hown2 hb2
     go_wp2
     have HP:=RowPost.down HX hr2.post
     have HQ:encI 2++encKy vt=P2:=by rw[HP2.out]
     go_ret
     rw[HQ]
     exact HP
theorem xTexts (A:Option Addr) (n c:Nat) (l:List ByteArray) (w:World) (h:Sl KyRel 1 w w.heap.size A n l) (hn:n≤maxLen) (hlen:(encLs encKy l).length≤1000000000000):
 Calls Tryz.prog 147 #[.slice A n c] w (RowPost w (encLs encKy l)):=by
 unfold maxLen at hn
 have hln:l.length=n:=h.1
 have hle:l.length≤n:=by omega
 have hge:n≤l.length:=by omega
 have e0:encI (n:Int)++l.flatMap encKy=encLs encKy l:=by unfold encLs;rw[hln]
 generalize encLs encKy l=T at*
 clear hln
 go_enter Tryz.func147,Tryz.ntmps147
 go_wp2_with fail
 refine(BW.fst (Below.refl w.heap.size w) e0 hlen fun _=>xint (n:Int) _ (by omega) (by omega)).mono ?_
 rintro e w1 ⟨A0,m0,c0,P0,rfl,b0⟩
 clear e0 hlen
 go_wp2_with fail
 go_loopw [3,4] (fun out i wr=>∃(k:Nat) (A0:Option Addr) (m0 c0:Nat) (P0:List UInt8),k≤n∧i=.int .i64 (k:Int)∧out=.slice A0 m0 c0∧BW w T ((l.drop k).flatMap encKy) P0 A0 m0 c0 wr) (fun _ i _=>n-(intOf i).toNat)
 case atStart=>exact⟨0,A0,m0,c0,P0,by omega,rfl,rfl,b0⟩
 case round=>
  clear b0
  obtain⟨k,A0,m0,c0,P0,hk,rfl,rfl,b⟩:=hrel
  by_cases hlt:k<n
  · obtain⟨ad,a,rfl,hl,hbk,hok,C0⟩:=h.ky hlt
    have hd1:decide ((k:Int)<(n:Int))=true:=by simp;omega
    have hk0:(0:Int)≤(k:Int):=by omega
    have hk1:(k:Int)<(n:Int):=by omega
    replace b:=b.as (suf':=encKy a++(l.drop (k+1)).flatMap encKy) (by rw[flat_drop hl])
    clear hl
    have x0:=(b.r.2.cell (p:=(ad.add k)) hbk).trans C0
    go_wp2_with fail
    refine(b.call fun hl=>xtext a _ (by have e:a.size=a.data.toList.length:=(Array.length_toList (xs:=a.data)).symm;unfold encKy encT at hl;rw[List.length_append]at hl;omega)).mono ?_
    rintro e w2 ⟨A5,n5,c5,rfl,b2⟩
    go_wp2_with (at_builtin;refine b2.app rfl _ _ rfl rfl rfl ?_;intro A0 m0 c0 P0 w3 b)
    clear b2
    go_roundw
    case rel=>exact⟨k+1,_,_,_,_,by omega,by go_num,rfl,b⟩
    case measure=>simp[intOf];omega
  · have hd1:decide ((k:Int)<(n:Int))=false:=by simp;omega
    go_wp2_with fail
    go_ret
    rw[List.drop_of_length_le (by omega)]at b
    exact b.post
theorem xInts (A:Option Addr) (n c:Nat) (l:List Int) (w:World) (h:Sl NmRel 1 w w.heap.size A n l) (hn:n≤maxLen) (hlen:(encLs encI l).length≤1000000000000):
 Calls Tryz.prog 150 #[.slice A n c] w (RowPost w (encLs encI l)):=by
 unfold maxLen at hn
 have hln:l.length=n:=h.1
 have hle:l.length≤n:=by omega
 have hge:n≤l.length:=by omega
 have e0:encI (n:Int)++l.flatMap encI=encLs encI l:=by unfold encLs;rw[hln]
 generalize encLs encI l=T at*
 clear hln
 go_enter Tryz.func150,Tryz.ntmps150
 go_wp2_with fail
 refine(BW.fst (Below.refl w.heap.size w) e0 hlen fun _=>xint (n:Int) _ (by omega) (by omega)).mono ?_
 rintro e w1 ⟨A0,m0,c0,P0,rfl,b0⟩
 clear e0 hlen
 go_wp2_with fail
 go_loopw [3,4] (fun out i wr=>∃(k:Nat) (A0:Option Addr) (m0 c0:Nat) (P0:List UInt8),k≤n∧i=.int .i64 (k:Int)∧out=.slice A0 m0 c0∧BW w T ((l.drop k).flatMap encI) P0 A0 m0 c0 wr) (fun _ i _=>n-(intOf i).toNat)
 case atStart=>exact⟨0,A0,m0,c0,P0,by omega,rfl,rfl,b0⟩
 case round=>
  clear b0
  obtain⟨k,A0,m0,c0,P0,hk,rfl,rfl,b⟩:=hrel
  by_cases hlt:k<n
  · obtain⟨ad,a,rfl,hl,hbk,hok,C0⟩:=h.nm hlt
    have hd1:decide ((k:Int)<(n:Int))=true:=by simp;omega
    have hk0:(0:Int)≤(k:Int):=by omega
    have hk1:(k:Int)<(n:Int):=by omega
    replace b:=b.as (suf':=encI a++(l.drop (k+1)).flatMap encI) (by rw[flat_drop hl])
    clear hl
    have x0:=(b.r.2.cell (p:=(ad.add k)) hbk).trans C0
    go_wp2_with fail
    refine(b.call fun hl=>xi a _ hok).mono ?_
    rintro e w2 ⟨A5,n5,c5,rfl,b2⟩
    go_wp2_with (at_builtin;refine b2.app rfl _ _ rfl rfl rfl ?_;intro A0 m0 c0 P0 w3 b)
    clear b2
    go_roundw
    case rel=>exact⟨k+1,_,_,_,_,by omega,by go_num,rfl,b⟩
    case measure=>simp[intOf];omega
  · have hd1:decide ((k:Int)<(n:Int))=false:=by simp;omega
    go_wp2_with fail
    go_ret
    rw[List.drop_of_length_le (by omega)]at b
    exact b.post
theorem xWrites (A:Option Addr) (n c:Nat) (l:List Wt) (w:World) (h:Sl WtRel 4 w w.heap.size A n l) (hn:n≤maxLen) (hlen:(encLs encWt l).length≤1000000000000):
 Calls Tryz.prog 96 #[.slice A n c] w (RowPost w (encLs encWt l)):=by
 unfold maxLen at hn
 have hln:l.length=n:=h.1
 have hle:l.length≤n:=by omega
 have hge:n≤l.length:=by omega
 have e0:encI (n:Int)++l.flatMap encWt=encLs encWt l:=by unfold encLs;rw[hln]
 generalize encLs encWt l=T at*
 clear hln
 go_enter Tryz.func96,Tryz.ntmps96
 go_wp2_with fail
 refine(BW.fst (Below.refl w.heap.size w) e0 hlen fun _=>xint (n:Int) _ (by omega) (by omega)).mono ?_
 rintro e w1 ⟨A0,m0,c0,P0,rfl,b0⟩
 clear e0 hlen
 go_wp2_with fail
 go_loopw [3,4] (fun out i wr=>∃(k:Nat) (A0:Option Addr) (m0 c0:Nat) (P0:List UInt8),k≤n∧i=.int .i64 (k:Int)∧out=.slice A0 m0 c0∧BW w T ((l.drop k).flatMap encWt) P0 A0 m0 c0 wr) (fun _ i _=>n-(intOf i).toNat)
 case atStart=>exact⟨0,A0,m0,c0,P0,by omega,rfl,rfl,b0⟩
 case round=>
  clear b0
  obtain⟨k,A0,m0,c0,P0,hk,rfl,rfl,b⟩:=hrel
  by_cases hlt:k<n
  · obtain⟨ad,a,rfl,hl,hbk,hok,C0,C1,C2,C3⟩:=h.wt hlt
    have hd1:decide ((k:Int)<(n:Int))=true:=by simp;omega
    have hk0:(0:Int)≤(k:Int):=by omega
    have hk1:(k:Int)<(n:Int):=by omega
    replace b:=b.as (suf':=encKy a.key++(encVl a.v++(l.drop (k+1)).flatMap encWt)) (by rw[flat_drop hl];simp only[encWt,List.append_assoc])
    clear hl
    have x0:=(b.r.2.cell (p:=(ad.add (k*4))) hbk).trans C0
    go_wp2_with fail
    refine(b.call fun hl=>xtext a.key _ (by have e:a.key.size=a.key.data.toList.length:=(Array.length_toList (xs:=a.key.data)).symm;unfold encKy encT at hl;rw[List.length_append]at hl;omega)).mono ?_
    rintro e w2 ⟨A5,n5,c5,rfl,b2⟩
    go_wp2_with (at_builtin;refine b2.app rfl _ _ rfl rfl rfl ?_;intro A0 m0 c0 P0 w3 b;have x1:=(b.r.2.cell (p:=⟨(ad.add (k*4)).block,(ad.add (k*4)).off+1,none⟩) hbk).trans C1;have x2:=(b.r.2.cell (p:=⟨(ad.add (k*4)).block,(ad.add (k*4)).off+2,none⟩) hbk).trans C2;have x3:=(b.r.2.cell (p:=⟨(ad.add (k*4)).block,(ad.add (k*4)).off+3,none⟩) hbk).trans C3)
    clear b2 x0
    go_wp2_with fail
    refine(b.call fun hl=>xPut a.v _ hok.2 hl).mono ?_
    rintro e w4 ⟨A5,n5,c5,rfl,b2⟩
    go_wp2_with (at_builtin;refine b2.app rfl _ _ rfl rfl rfl ?_;intro A0 m0 c0 P0 w5 b)
    clear b2
    go_roundw
    case rel=>exact⟨k+1,_,_,_,_,by omega,by go_num,rfl,b⟩
    case measure=>simp[intOf];omega
  · have hd1:decide ((k:Int)<(n:Int))=false:=by simp;omega
    go_wp2_with fail
    go_ret
    rw[List.drop_of_length_le (by omega)]at b
    exact b.post
theorem xPairs (A:Option Addr) (n c:Nat) (l:List Wt) (w:World) (h:Sl WtRel 4 w w.heap.size A n l) (hn:n≤maxLen) (hlen:(encLs encWt l).length≤1000000000000):
 Calls Tryz.prog 175 #[.slice A n c] w (RowPost w (encLs encWt l)):=by
 unfold maxLen at hn
 have hln:l.length=n:=h.1
 have hle:l.length≤n:=by omega
 have hge:n≤l.length:=by omega
 have e0:encI (n:Int)++l.flatMap encWt=encLs encWt l:=by unfold encLs;rw[hln]
 generalize encLs encWt l=T at*
 clear hln
 go_enter Tryz.func175,Tryz.ntmps175
 go_wp2_with fail
 refine(BW.fst (Below.refl w.heap.size w) e0 hlen fun _=>xint (n:Int) _ (by omega) (by omega)).mono ?_
 rintro e w1 ⟨A0,m0,c0,P0,rfl,b0⟩
 clear e0 hlen
 go_wp2_with fail
 go_loopw [3,4] (fun out i wr=>∃(k:Nat) (A0:Option Addr) (m0 c0:Nat) (P0:List UInt8),k≤n∧i=.int .i64 (k:Int)∧out=.slice A0 m0 c0∧BW w T ((l.drop k).flatMap encWt) P0 A0 m0 c0 wr) (fun _ i _=>n-(intOf i).toNat)
 case atStart=>exact⟨0,A0,m0,c0,P0,by omega,rfl,rfl,b0⟩
 case round=>
  clear b0
  obtain⟨k,A0,m0,c0,P0,hk,rfl,rfl,b⟩:=hrel
  by_cases hlt:k<n
  · obtain⟨ad,a,rfl,hl,hbk,hok,C0,C1,C2,C3⟩:=h.wt hlt
    have hd1:decide ((k:Int)<(n:Int))=true:=by simp;omega
    have hk0:(0:Int)≤(k:Int):=by omega
    have hk1:(k:Int)<(n:Int):=by omega
    replace b:=b.as (suf':=encKy a.key++(encVl a.v++(l.drop (k+1)).flatMap encWt)) (by rw[flat_drop hl];simp only[encWt,List.append_assoc])
    clear hl
    have x0:=(b.r.2.cell (p:=(ad.add (k*4))) hbk).trans C0
    go_wp2_with fail
    refine(b.call fun hl=>xtext a.key _ (by have e:a.key.size=a.key.data.toList.length:=(Array.length_toList (xs:=a.key.data)).symm;unfold encKy encT at hl;rw[List.length_append]at hl;omega)).mono ?_
    rintro e w2 ⟨A5,n5,c5,rfl,b2⟩
    go_wp2_with (at_builtin;refine b2.app rfl _ _ rfl rfl rfl ?_;intro A0 m0 c0 P0 w3 b;have x1:=(b.r.2.cell (p:=⟨(ad.add (k*4)).block,(ad.add (k*4)).off+1,none⟩) hbk).trans C1;have x2:=(b.r.2.cell (p:=⟨(ad.add (k*4)).block,(ad.add (k*4)).off+2,none⟩) hbk).trans C2;have x3:=(b.r.2.cell (p:=⟨(ad.add (k*4)).block,(ad.add (k*4)).off+3,none⟩) hbk).trans C3)
    clear b2 x0
    go_wp2_with fail
    refine(b.call fun hl=>xPut a.v _ hok.2 hl).mono ?_
    rintro e w4 ⟨A5,n5,c5,rfl,b2⟩
    go_wp2_with (at_builtin;refine b2.app rfl _ _ rfl rfl rfl ?_;intro A0 m0 c0 P0 w5 b)
    clear b2
    go_roundw
    case rel=>exact⟨k+1,_,_,_,_,by omega,by go_num,rfl,b⟩
    case measure=>simp[intOf];omega
  · have hd1:decide ((k:Int)<(n:Int))=false:=by simp;omega
    go_wp2_with fail
    go_ret
    rw[List.drop_of_length_le (by omega)]at b
    exact b.post
theorem Sl.rm2 {w:World} {B n:Nat} {A:Option Addr} {l:List Rc} (h:Sl RmRel 29 w B A n l) {k:Nat} (hk:k<n):∃(ad:Addr) (r:Rc) (g:Hds) (b o:Nat),A=some ad∧l[k]?=some r∧ad.add (k*29)=⟨b,o,none⟩∧b<B∧w.rangeAt b o (r.vals g).toList∧r.ok∧g.caps∧RcLo w B r g:=by
 obtain⟨ad,r,g,e,hl,hb,hc,ok,cp,i⟩:=h.rm hk
 have c0:w.cell? (ad.add (k*29))=some (.int .i64 r.k):=hc 0 _ rfl
 generalize hq:ad.add (k*29)=q at*
 obtain⟨b,o,sp⟩:=q
 cases sp with
 |some s=>
  unfold World.cell? at c0
  cases h5:w.heap[b]? with
  |none=>simp[h5]at c0
  |some x=>cases x<;>simp[h5]at c0
 |none=>
  exact⟨ad,r,g,b,o,e,hl,hq,hb,fun j u hj=>by have:=hc j u hj;rwa [Addr.add_mid]at this,ok,cp,i⟩
structure RcPl (r:Rc):Prop where
 a:r.rd.length≤1000000
 b:r.wr.length≤1000000
 c:r.ps.length≤1000000
 d:r.pr.length≤1000000
 h:SmallH r.st.h
 p:SmallP r.st.p
 e:(encRc r).length≤2000000
theorem RcLo.into {w:World} {r:Rc} {h:Hds} (i:RcLo w w.heap.size r h):RcIn w r h:=⟨i.rd,i.wr,i.ps,i.pr,i.hs,i.pn,i.na,i.nb,i.nc,i.nd,i.ne,i.nf⟩
theorem RcPl.sm {w:World} {B:Nat} {r:Rc} {h:Hds} (p:RcPl r) (i:RcLo w B r h):RcSm r h:=by
 have h1:=i.rd.1
 have h2:=i.wr.1
 have h3:=i.ps.1
 have h4:=i.pr.1
 exact⟨by have:=p.a;omega,by have:=p.b;omega,by have:=p.c;omega,by have:=p.d;omega,p.h,p.p⟩
def batchB (l:List Rc):Bool:=(l.all fun r=>encE r==0)&&decide ((l.length:Int)≤8)
def BatR (l:List Rc) (w:World) (i:Value) (wr:World):Prop:=∃k:Nat,k≤l.length∧i=.int .i64 (k:Int)∧((l.drop k).all fun r=>encE r==0)=(l.all fun r=>encE r==0)∧Below w.heap.size w wr
set_option maxRecDepth 100000 in
set_option maxHeartbeats 4000000 in
theorem mbatch_any (A:Option Addr) (n c:Nat) (l:List Rc) (w:World) (h:Sl RmRel 29 w w.heap.size A n l) (hn:n≤1000000) (hw:∀r∈l,RcPl r):
 Calls Tryz.prog 61 #[.slice A n c] w fun e w'=>e=.returned (.bool (batchB l))∧Below w.heap.size w w':=by
 have hl:=h.1
 have hge:n≤l.length:=by omega
 have HW:=Lib.hid hw
 clear hw
 go_enter Tryz.func61,Tryz.ntmps61
 go_wp2
 go_loopw [9] (fun i wr=>BatR l w i wr) (fun i _=>n-(intOf i).toNat)
 case atStart=>exact⟨0,by omega,rfl,rfl,Below.refl _ _⟩
 case round=>
  obtain⟨k,hk,rfl,hs,hb⟩:=hrel
  have hzz:=hb.size
  by_cases hlt:k<n
  · obtain⟨ad,r,g,b,o,rfl,ha,hq,hbb,hrg,ok,cp,i⟩:=((h.below RmRel.kept hb).more RmRel.kept hb.size).rm2 hlt
    have hd1:decide ((k:Int)<(n:Int))=true:=by simp;omega
    have hk0:(0:Int)≤(k:Int):=by omega
    have hk1:(k:Int)<(n:Int):=by omega
    have pl:=HW.out r (List.mem_of_getElem? ha)
    have hE:=fun w' (hb:Below wr.heap.size wr w')=>encode_any r g w' ok (i.into.below hb) cp (pl.sm i) (by have:=pl.e;omega)
    rw[all_drop ha]at hs
    have hX:Below wr.heap.size wr (wr.alloc (.cells (r.vals g) 69)):=by go_grown
    have bR:=Blk.new wr 69 (r.vals g)
    clear ha i hl pl
    go_upto_region 4 with (first
        |(guard_target=~ wpList _ _ _ _ _ _;refine wpList_load_mid rfl 69 _ rfl b o (by kernel_rfl) (r.vals g).toList _ hrg rfl rfl (by kernel_rfl) ?_)
        |(guard_target=~ wpList _ _ _ _ _ _;refine wpList_store_new rfl 69 _ _ rfl _ rfl rfl _ _ (by kernel_rfl) (by kernel_rfl) (by kernel_rfl) ?_))
    have HB:=Lib.hid (show encE r≠0→batchB l=false by
        intro hz
        unfold batchB
        rw[←hs,show (encE r==0)=false from by simp[hz]]
        rfl)
    have HS:=Lib.hid (show encE r=0→((l.drop (k+1)).all fun r=>encE r==0)=(l.all fun r=>encE r==0) by
        intro hz
        rw[←hs,hz]
        rfl)
    clear hs
    generalize hz:encE r=z at*
    clear hz
    by_cases hz:z=0
    · subst hz
      go_wp2_with (first
       |(guard_target=~ wpList _ _ _ _ _ _;refine wpList_load_row rfl 69 _ rfl wr.heap.size (by kernel_rfl) _ _ (0,0) _ bR rfl rfl (by kernel_rfl) ?_)
       |((with_reducible refine(hE _ hX).mono ?_);rintro e w5 ⟨A5,c5,rfl,q5,m5,o5,hb5⟩))
      go_roundw
      case rel=>exact⟨k+1,by omega,by go_num,HS.out (by trivial),hb.trans ((hX.trans (hb5.mono hX.size)).mono hzz)⟩
      case measure=>simp[intOf];omega
    · have hz1:(z !=0)=true:=by simp[hz]
      go_wp2_with (first
       |(guard_target=~ wpList _ _ _ _ _ _;refine wpList_load_row rfl 69 _ rfl wr.heap.size (by kernel_rfl) _ _ (0,0) _ bR rfl rfl (by kernel_rfl) ?_)
       |((with_reducible refine(hE _ hX).mono ?_);rintro e w5 ⟨A5,c5,rfl,q5,m5,o5,hb5⟩))
      go_ret
      rw[HB.out hz]
      exact⟨rfl,hb.trans ((hX.trans (hb5.mono hX.size)).mono hzz)⟩
  · have hd1:decide ((k:Int)<(n:Int))=false:=by simp;omega
    have hs2:(l.all fun r=>encE r==0)=true:=by
        rw[←hs,List.drop_of_length_le (by omega)];rfl
    have HV:=Lib.hid (show batchB l=decide ((n:Int)≤8) by unfold batchB;rw[hs2,hl];rfl)
    clear hs hs2 hl
    go_wp2
    go_ret
    rw[HV.out]
    exact⟨rfl,hb⟩
abbrev zRec:Array Value:=#[.int .i64 0,.int .i64 0,.int .i64 0,.int .i64 0,.int .i64 0,.int .i64 0,.int .i64 0,.int .i64 0,.int .i64 0,.int .i64 0,.bool false,.int .i64 0,.float .f64 0,.slice none 0 0,.slice none 0 0,.slice none 0 0,.slice none 0 0,.int .i64 0,.int .i64 0,.float .f64 0,.float .f64 0,.int .i64 0,.int .i64 0,.int .i64 0,.int .i64 0,.int .i64 0,.int .i64 0,.slice none 0 0,.slice none 0 0]
abbrev stopY (r:Bool):PanicEntry:={v:=.iface 93 (.agg #[]),recovered:=r}
theorem assert_stopY (t:TypeId) (w:World):(Instr.typeAssert (.iface 93 (.agg #[])) t 93 true).run Tryz.prog w=.ok (.tuple #[.agg #[],.bool true]) w:=by
 simp[go_sem,Instr.typeAssert]
theorem run_errnoY {w:World} {k:Nat} {x:Int} (hb:Blk w k 24 #[.int .i64 x]):(loadVar 24 ⟨k,0,none⟩).run Tryz.prog w=.ok (.int .i64 x) w:=by
 have c:=cl (hb.cell 0)
 simp[go_sem,c]
theorem bequalY (w:World) {B B':Nat} {A A':Option Addr} {n n' c c':Nat} {a b:List UInt8} (ha:Reads w B 1 A n (bytesV a)) (hb:Reads w B' 1 A' n' (bytesV b)):
 Calls Tryz.prog 49 #[.slice A n c,.slice A' n' c'] w fun e w'=>e=.returned (.bool (a==b))∧w=w':=by
 have h1:=run_conv_reads (P:=Tryz.prog) w 49 9 5 Tryz.underlying49 Tryz.underlying5 Tryz.underlying9 (c:=c) ha
 have h2:=run_conv_reads (P:=Tryz.prog) w 49 9 5 Tryz.underlying49 Tryz.underlying5 Tryz.underlying9 (c:=c') hb
 go_enter Tryz.func49,Tryz.ntmps49
 go_wp2
 go_ret
 exact⟨rfl,rfl⟩
def DecP {S H:Type} (K:Bx S H) (w:World) (x:S) (er:Int):Ending→World→Prop:=fun e w'=>∃h,e=.returned (.tuple #[.agg (K.vals x h),.int .i64 er])∧K.lo (only (rng w.heap.size w'.heap.size) w') w'.heap.size x h∧Below w.heap.size w w'
theorem RcLo.inn {K:Nat→Bool} {w:World} {r:Rc} {h:Hds} (i:RcLo (only K w) w.heap.size r h):RcIn w r h:=(i.mn fun p u _ hc=>(only_cell hc).2).into
theorem catch_idleR (p q:Addr) (w:World):
 CallsD Tryz.prog 191 #[.pointer (some p),.pointer (some q)] .returning w fun e u' w'=>e=.returned (.tuple #[])∧u'=.returning∧w=w':=by
 refine callsD_of_wpS Tryz.func191 rfl fun c₀ cs hu=>?_
 apply wpS_seq
 apply wpS_region
 simp[wpOpsS,go_sem,recoverD,hu,Tryz.ntmps191,Exit.thenS]
 refine wpS_of_wp ?_
 go_wp2
 cases c₀
 simp_all [bodyPostS,results,Tryz.results191]
theorem decode_doorR {fn:Func} {tmps:Array Value} {R:Ending→World→Prop} {w:World} {p q:Tmp} {g k:Nat} {cs:Array Value} {x:Int} (h:fn.results=#[.cell p 69,.cell q 24]) (hp:tmps.getD p undef=.pointer (some ⟨g,0,none⟩)) (hq:tmps.getD q undef=.pointer (some ⟨k,0,none⟩))
 (hb:Blk w g 69 cs) (hb':Blk w k 24 #[.int .i64 x]) (hi:(Tryz.prog.info? 69).map (·.size)=some cs.size) (hR:R (.returned (.tuple #[.agg cs,.int .i64 x])) w):Leaves Tryz.prog fn tmps R [] .returning w:=by
 have hp':tmps[p]?.getD undef=.pointer (some ⟨g,0,none⟩):=by simpa using hp
 have hq':tmps[q]?.getD undef=.pointer (some ⟨k,0,none⟩):=by simpa using hq
 refine⟨_,?_,hR⟩
 simp[results,h,hp',hq',asAddr,run_loadVar_blk hb Tryz.underlying69 rfl hi,run_errnoY hb',Sem.run_bind,Result.andThen]
theorem catch_stopR (g k:Nat) (cs:Array Value) (x:Int) (w:World) (hb:Blk w g 69 cs) (hcs:cs.size=29) (hk:Blk w k 24 #[.int .i64 x]) (hne:g≠k):
 CallsD Tryz.prog 191 #[.pointer (some ⟨g,0,none⟩),.pointer (some ⟨k,0,none⟩)] (.panicking [stopY false]) w fun e u' w'=>e=.returned (.tuple #[])∧u'=.panicking [stopY true]∧Blk w' g 69 zRec∧Blk w' k 24 #[.int .i64 4]∧Two2 w w' g k:=by
 have hta:=assert_stopY
 refine callsD_of_wpS Tryz.func191 rfl fun c₀ cs' hu=>?_
 apply wpS_seq
 apply wpS_region
 simp[wpOpsS,go_sem,recoverD,hu,Tryz.ntmps191,Exit.thenS]
 refine wpS_of_wp ?_
 have hX:Below w.heap.size w (w.alloc (.cells #[] 93)):=by go_grown
 have hb1:=hb.below hX hb.lt
 have hk1:=hk.below hX hk.lt
 go_wp2_with (first
  |(guard_target=~ wpList _ _ _ _ _ _;refine wpList_store_row rfl 69 _ _ rfl g zRec (by kernel_rfl) (by kernel_rfl) _ _ hb1 (by kernel_rfl) (by rw[hcs];rfl) (by kernel_rfl) ?_
    obtain⟨W5,hW5⟩:∃W5:World,W5=(w.alloc (.cells #[] 93)).setRow g zRec:=⟨_,rfl⟩
    rw[←hW5]
    have B5:Blk W5 g 69 zRec:=by rw[hW5];exact hb1.setRow _
    have E5:Blk W5 k 24 #[.int .i64 x]:=by rw[hW5];exact hk1.setRow_far _ (by omega)
    have z5:=cl (E5.cell 0)
    have f5:W5.frozen? ⟨k,0,none⟩=false:=E5.frozen 0
    have HW:=Lib.hid hW5
    clear hW5))
 refine⟨rfl,.panicking [stopY true],rfl,.tuple #[],by simp[results,Tryz.results191],rfl,rfl,B5.far (p:=⟨k,0,none⟩) hne _,E5.set_ 0 (.int .i64 4),?_⟩
 rw[HW.out]
 refine⟨rfl,rfl,rfl,by show w.heap.size≤(((w.alloc (.cells #[] 93)).setRow g zRec).setCell ⟨k,0,none⟩ (.int .i64 4)).heap.size;simp[World.setRow,World.setCell],fun j hj h1 h2=>?_⟩
 rw[Below.heap_setCell _ _ _ _ h2,show ((w.alloc (.cells #[] 93)).setRow g zRec).heap[j]?=(w.alloc (.cells #[] 93)).heap[j]? from by simp[World.setRow,Array.getElem?_modify,Ne.symm h1]]
 exact hX.block j hj
theorem decodeR (A:Option Addr) (n c:Nat) (l:List UInt8) (w:World) (h:Reads w w.heap.size 1 A n (bytesV l)) (hsm:n≤1000000000000):
 Calls Tryz.prog 141 #[.slice A n c] w (DecP rcK w (decR l) (decE l)):=by
 have hmf:∀(fn:Fn) (first cap:Array Value) (w:World),(Instr.makeFunc fn first cap).run Tryz.prog w=.ok (.func fn first cap) w:=fun _ _ _ _=>rfl
 have hll:l.length=n:=by have:=h.1;simpa using this
 have HE:=Lib.hid (show decE l=if 262144<l.length then 4 else if (rRec l ⟨0,0,0⟩).2.e≠0 then 4 else if (rEnd l (rRec l ⟨0,0,0⟩).2).1≠0 then 4 else if encE (rRec l ⟨0,0,0⟩).1≠0 then 4 else if encOut (rRec l ⟨0,0,0⟩).1≠l then 4 else 0 from rfl)
 have HR:=Lib.hid (show decR l=if decE l=0 then (rRec l ⟨0,0,0⟩).1 else zRc from rfl)
 have HR4:=Lib.hid (show decE l=4→decR l=zRc from fun e=>by rw[HR.out,if_neg (by omega)])
 generalize decE l=dE at*
 generalize decR l=dR at*
 go_enter_defers Tryz.func141,Tryz.ntmps141
 have B0:Blk ((w.alloc (.cells zRec 69)).alloc (.cells #[.int .i64 0] 24)) w.heap.size 69 zRec:=(Blk.new _ _ _).alloc _
 have E0:Blk ((w.alloc (.cells zRec 69)).alloc (.cells #[.int .i64 0] 24)) (w.heap.size+1) 24 #[.int .i64 0]:=Blk.new' _ _ (by simp)
 have hX:Below w.heap.size w ((w.alloc (.cells zRec 69)).alloc (.cells #[.int .i64 0] 24)):=by go_grown
 have hXs:w.heap.size+1<((w.alloc (.cells zRec 69)).alloc (.cells #[.int .i64 0] 24)).heap.size:=by simp
 have hl0:w.heap.size≠w.heap.size+1:=by omega
 by_cases hn:262144<n
 · have hd0:decide ((n:Int)>262144)=true:=by simp;omega
   have hd1:262144<(n:Int):=by omega
   have hE4:dE=4:=by rw[HE.out,if_pos (by omega)]
   obtain rfl:=HR4.out hE4
   subst hE4
   clear h HE HR HR4
   go_wp2_with (first
    |(guard_target=~ wpList _ _ _ _ _ _;refine wpList_store_row rfl 69 _ _ rfl w.heap.size zRec (by kernel_rfl) (by kernel_rfl) _ _ B0 (by kernel_rfl) (by kernel_rfl) (by kernel_rfl) ?_
      obtain⟨W5,hW5⟩:∃W5:World,W5=((w.alloc (.cells zRec 69)).alloc (.cells #[.int .i64 0] 24)).setRow w.heap.size zRec:=⟨_,rfl⟩
      rw[←hW5]
      have Nb:Blk W5 w.heap.size 69 zRec:=by rw[hW5];exact B0.setRow _
      have Ne:Blk W5 (w.heap.size+1) 24 #[.int .i64 0]:=by rw[hW5];exact E0.setRow_far _ (by omega)
      have Nx:Below w.heap.size w W5:=by rw[hW5];exact below_setRow hX (Nat.le_refl _) _
      have zN:=cl (Ne.cell 0)
      have fN:W5.frozen? ⟨w.heap.size+1,0,none⟩=false:=Ne.frozen 0
      clear hW5))
   refine leaves_cons (f:=191) (args:=#[.pointer (some ⟨w.heap.size,0,none⟩),.pointer (some ⟨w.heap.size+1,0,none⟩)]) (by simp) (by simp[go_sem]) ?_
   refine(catch_idleR _ _ _).mono ?_
   rintro e u w7 ⟨rfl,rfl,rfl⟩
   exact decode_doorR rfl rfl rfl (Nb.far (p:=⟨w.heap.size+1,0,none⟩) (by simp) (.int .i64 4)) (Ne.set_ 0 (.int .i64 4)) (by kernel_rfl) ⟨zHds,rfl,rcZ _ _,Nx.setCell (p:=⟨w.heap.size+1,0,none⟩) (by simp) (.int .i64 4)⟩
 have hd0:decide ((n:Int)>262144)=false:=by simp;omega
 have hRX:=(h.below hX).more hX.size
 have hRR:=Lib.hid h
 clear h
 go_wp2_with fail
 refine(wRNew A n c l _ hRX hsm).mono ?_
 rintro e w1 ⟨A1,n1,c1,rfl,hz,hge,hrd,had,hb1⟩
 have B1:=B0.below hb1 B0.lt
 have E1:=E0.below hb1 E0.lt
 have hX1:=hX.trans (hb1.mono hX.size)
 clear B0 E0 hb1 hX hRX
 obtain⟨g,hg⟩:∃g,g=w1.heap.size-1:=⟨_,rfl⟩
 rw[←hg]at hge hrd ⊢
 have hD:Below w1.heap.size w1 (w1.alloc (.cells #[.pointer none,.pointer (some ⟨g,0,none⟩)] 87)):=by go_grown
 have hC:CR (w1.alloc (.cells #[.pointer none,.pointer (some ⟨g,0,none⟩)] 87)) g A1 n1 c1 l ⟨0,0,0⟩ w1.heap.size:=
  ⟨hrd.below hD,Blk.new _ _ _,by omega,fun a ha hn=>by
   obtain⟨ad,e,hlt,_⟩:=hrd.reads.2 hn
   rw[ha]at e
   obtain rfl:=Option.some.inj e
   omega⟩
 have B2:=B1.below hD B1.lt
 have E2:=E1.below hD E1.lt
 have hX2:=hX1.trans (hD.mono hX1.size)
 have XM:=RM.start (K:=rcK) (x:=zRc) (h:=zHds) rcG hC rfl B2 (fun w B=>rcZ w B) (by omega) (by omega) (fun a ha _=>by have:=had a ha;omega)
 have hWW:w.heap.size≤g:=by omega
 have hE3:w.heap.size+1≠g:=by omega
 have hlow:=Lib.hid E2.lt
 clear hg B1 E1 hX1 hD had hge hrd hXs B2 hC
 have hW:=rwalk_any _ g A1 n1 c1 l ⟨0,0,0⟩ w1.heap.size w.heap.size XM
 have hcnt:=rRec_cnt l ⟨0,0,0⟩
 have henc:=rRec_enc l ⟨0,0,0⟩ (Nat.zero_le _)
 generalize rRec l ⟨0,0,0⟩=y at*
 obtain⟨r,s1⟩:=y
 clear XM
 go_wp2_with fail
 refine hW.mono ?_
 rintro e w2 (⟨rfl,hd,X2⟩|⟨rfl,e2,t2,cs2,l2,k2⟩)
 rotate_left
 · have E3:Blk w2 (w.heap.size+1) 24 #[.int .i64 0]:=(t2.block _ E2.lt hE3 (by omega)).trans E2
   have hX3:Below w.heap.size w w2:=hX2.trans (t2.below hWW (Nat.le_refl _) hX2.size)
   have hE4:dE=4:=by rw[HE.out,if_neg (by omega),if_pos e2]
   obtain rfl:=HR4.out hE4
   subst hE4
   show Leaves _ _ _ _ _ _ _
   refine leaves_cons (f:=191) (args:=#[.pointer (some ⟨w.heap.size,0,none⟩),.pointer (some ⟨w.heap.size+1,0,none⟩)]) (by simp) (by simp[go_sem]) ?_
   refine(catch_stopR w.heap.size (w.heap.size+1) cs2 0 w2 k2 l2 E3 (by omega)).mono ?_
   rintro e u w7 ⟨rfl,rfl,B7,E7,t7⟩
   exact decode_doorR rfl rfl rfl B7 E7 (by kernel_rfl) ⟨zHds,rfl,rcZ _ _,hX3.trans (t7.below (Nat.le_refl _) (by omega) hX3.size)⟩
 have e2:s1.e=0:=X2.e
 have t2:=X2.two
 have E3:Blk w2 (w.heap.size+1) 24 #[.int .i64 0]:=(t2.block _ E2.lt hE3 (by omega)).trans E2
 have hX3:Below w.heap.size w w2:=hX2.trans (t2.below hWW (Nat.le_refl _) hX2.size)
 have k2:Blk w2 w.heap.size 69 (rcK.vals r hd):=X2.blk
 have hlo:rcK.lo (only (rng w.heap.size w2.heap.size) w2) w2.heap.size r hd:=(rcG).on X2.lo (fun _ _ _=>rfl) (Nat.le_refl _) (by have:=hlow.out;omega)
 have HLO:=Lib.hid X2.lo
 have rsm:RcSm r hd:=hcnt.sm (by omega) hlo.2.2.rd.1 hlo.2.2.wr.1 hlo.2.2.ps.1 hlo.2.2.pr.1
 have rlen:(encRc r).length≤n:=by
  have h2:=congrArg List.length (henc e2).2
  rw[List.take_zero,List.nil_append,List.length_take]at h2
  omega
 have rin:=hlo.2.2.inn
 have rok:=hlo.1
 have rcp:=hlo.2.1
 clear hcnt henc
 have hE:=wREnd g A1 n1 c1 l s1 w2 X2.cr.rd
 have HE':=Lib.hid (show dE=if (rEnd l s1).1≠0 then 4 else if encE r≠0 then 4 else if encOut r≠l then 4 else 0 by rw[HE.out,if_neg (by omega),if_neg (by simp;exact e2)])
 have HRR:=Lib.hid (show dR=if dE=0 then r else zRc from HR.out)
 clear hW E2 hX2 hz HE hlo X2 t2 HR
 go_wp2_with fail
 refine hE.mono ?_
 rintro e w3 ⟨rfl,q,rfl⟩
 have hQ:Below w2.heap.size w2 (w2.drewN q):=belowN _
 have B4:=k2.below hQ k2.lt
 have E4:=E3.below hQ E3.lt
 have hX4:=hX3.trans (hQ.mono hX3.size)
 have hR4:=(hRR.out.below hX4).more hX4.size
 have z4:=cl (E4.cell 0)
 have hN:=encode_any r hd (w2.drewN q) rok (rin.below hQ) rcp rsm (by omega)
 clear rin rok rcp rsm rlen
 clear hE k2 E3 hX3 hRR
 by_cases he1:(rEnd l s1).1=0
 rotate_left
 · have hb1:((rEnd l s1).1==0)=false:=by simp[he1]
   have hE4:dE=4:=by rw[HE'.out,if_pos he1]
   obtain rfl:=HR4.out hE4
   subst hE4
   go_wp2_with (first
    |(guard_target=~ wpList _ _ _ _ _ _;refine wpList_store_row rfl 69 _ _ rfl w.heap.size zRec (by kernel_rfl) (by kernel_rfl) _ _ B4 (by kernel_rfl) (by kernel_rfl) (by kernel_rfl) ?_
      obtain⟨W5,hW5⟩:∃W5:World,W5=(w2.drewN q).setRow w.heap.size zRec:=⟨_,rfl⟩
      rw[←hW5]
      have Nb:Blk W5 w.heap.size 69 zRec:=by rw[hW5];exact B4.setRow _
      have Ne:Blk W5 (w.heap.size+1) 24 #[.int .i64 0]:=by rw[hW5];exact E4.setRow_far _ (by omega)
      have Nx:Below w.heap.size w W5:=by rw[hW5];exact below_setRow hX4 (Nat.le_refl _) _
      have zN:=cl (Ne.cell 0)
      have fN:W5.frozen? ⟨w.heap.size+1,0,none⟩=false:=Ne.frozen 0
      clear hW5))
   refine leaves_cons (f:=191) (args:=#[.pointer (some ⟨w.heap.size,0,none⟩),.pointer (some ⟨w.heap.size+1,0,none⟩)]) (by simp) (by simp[go_sem]) ?_
   refine(catch_idleR _ _ _).mono ?_
   rintro e u w7 ⟨rfl,rfl,rfl⟩
   exact decode_doorR rfl rfl rfl (Nb.far (p:=⟨w.heap.size+1,0,none⟩) (by simp) (.int .i64 4)) (Ne.set_ 0 (.int .i64 4)) (by kernel_rfl) ⟨zHds,rfl,rcZ _ _,Nx.setCell (p:=⟨w.heap.size+1,0,none⟩) (by simp) (.int .i64 4)⟩
 have hb1:((rEnd l s1).1==0)=true:=by simp[he1]
 go_wp2_with (first
  |(guard_target=~ wpList _ _ _ _ _ _;refine wpList_load_row rfl 69 _ rfl w.heap.size (by kernel_rfl) _ _ (0,0) _ B4 rfl rfl (by kernel_rfl) ?_)
  |fail)
 refine hN.mono ?_
 rintro e w4 ⟨A5,c5,rfl,hq5,hm5,hown5,hb5⟩
 have B5:=B4.below hb5 B4.lt
 have E5:=E4.below hb5 E4.lt
 have hX5:=hX4.trans (hb5.mono hX4.size)
 have hR5:=(hR4.below hb5).more hb5.size
 have HB5:=Lib.hid hb5
 have hO5:Reads w4 w4.heap.size 1 A5 (encOut r).length (bytesV (encOut r)):=Reads.of_own hown5
 have z5:=cl (E5.cell 0)
 have hq:=bequalY w4 (c:=c5) (c':=c) hO5 hR5
 clear hown5 hb5 hR4 hN B4 E4 z4 hX4
 generalize encE r=eE at*
 generalize encOut r=eO at*
 by_cases he2:eE=0
 rotate_left
 · have hb2:(eE==0)=false:=by simp[he2]
   have hE4:dE=4:=by rw[HE'.out,if_neg (by omega),if_pos he2]
   obtain rfl:=HR4.out hE4
   subst hE4
   go_wp2_with (first
    |(guard_target=~ wpList _ _ _ _ _ _;refine wpList_store_row rfl 69 _ _ rfl w.heap.size zRec (by kernel_rfl) (by kernel_rfl) _ _ B5 (by kernel_rfl) (by kernel_rfl) (by kernel_rfl) ?_
      obtain⟨W5,hW5⟩:∃W5:World,W5=w4.setRow w.heap.size zRec:=⟨_,rfl⟩
      rw[←hW5]
      have Nb:Blk W5 w.heap.size 69 zRec:=by rw[hW5];exact B5.setRow _
      have Ne:Blk W5 (w.heap.size+1) 24 #[.int .i64 0]:=by rw[hW5];exact E5.setRow_far _ (by omega)
      have Nx:Below w.heap.size w W5:=by rw[hW5];exact below_setRow hX5 (Nat.le_refl _) _
      have zN:=cl (Ne.cell 0)
      have fN:W5.frozen? ⟨w.heap.size+1,0,none⟩=false:=Ne.frozen 0
      clear hW5))
   refine leaves_cons (f:=191) (args:=#[.pointer (some ⟨w.heap.size,0,none⟩),.pointer (some ⟨w.heap.size+1,0,none⟩)]) (by simp) (by simp[go_sem]) ?_
   refine(catch_idleR _ _ _).mono ?_
   rintro e u w7 ⟨rfl,rfl,rfl⟩
   exact decode_doorR rfl rfl rfl (Nb.far (p:=⟨w.heap.size+1,0,none⟩) (by simp) (.int .i64 4)) (Ne.set_ 0 (.int .i64 4)) (by kernel_rfl) ⟨zHds,rfl,rcZ _ _,Nx.setCell (p:=⟨w.heap.size+1,0,none⟩) (by simp) (.int .i64 4)⟩
 have hb2:(eE==0)=true:=by simp[he2]
 go_wp2_with fail
 refine hq.mono ?_
 rintro e w5 ⟨rfl,rfl⟩
 by_cases he3:eO=l
 rotate_left
 · have hb3:(eO==l)=false:=by simp[he3]
   have hE4:dE=4:=by rw[HE'.out,if_neg (by omega),if_neg (by omega),if_pos he3]
   obtain rfl:=HR4.out hE4
   subst hE4
   go_wp2_with (first
    |(guard_target=~ wpList _ _ _ _ _ _;refine wpList_store_row rfl 69 _ _ rfl w.heap.size zRec (by kernel_rfl) (by kernel_rfl) _ _ B5 (by kernel_rfl) (by kernel_rfl) (by kernel_rfl) ?_
      obtain⟨W5,hW5⟩:∃W5:World,W5=w4.setRow w.heap.size zRec:=⟨_,rfl⟩
      rw[←hW5]
      have Nb:Blk W5 w.heap.size 69 zRec:=by rw[hW5];exact B5.setRow _
      have Ne:Blk W5 (w.heap.size+1) 24 #[.int .i64 0]:=by rw[hW5];exact E5.setRow_far _ (by omega)
      have Nx:Below w.heap.size w W5:=by rw[hW5];exact below_setRow hX5 (Nat.le_refl _) _
      have zN:=cl (Ne.cell 0)
      have fN:W5.frozen? ⟨w.heap.size+1,0,none⟩=false:=Ne.frozen 0
      clear hW5))
   refine leaves_cons (f:=191) (args:=#[.pointer (some ⟨w.heap.size,0,none⟩),.pointer (some ⟨w.heap.size+1,0,none⟩)]) (by simp) (by simp[go_sem]) ?_
   refine(catch_idleR _ _ _).mono ?_
   rintro e u w7 ⟨rfl,rfl,rfl⟩
   exact decode_doorR rfl rfl rfl (Nb.far (p:=⟨w.heap.size+1,0,none⟩) (by simp) (.int .i64 4)) (Ne.set_ 0 (.int .i64 4)) (by kernel_rfl) ⟨zHds,rfl,rcZ _ _,Nx.setCell (p:=⟨w.heap.size+1,0,none⟩) (by simp) (.int .i64 4)⟩
 have hb3:(eO==l)=true:=by simp[he3]
 have hE0:dE=0:=by rw[HE'.out,if_neg (by omega),if_neg (by omega),if_neg (by simp[he3])]
 have hR0:dR=r:=by rw[HRR.out,if_pos hE0]
 subst hE0 hR0
 go_wp2_with (first
 |(guard_target=~ wpList _ _ _ _ _ _;refine wpList_load_row rfl 69 _ rfl w.heap.size (by kernel_rfl) _ _ (0,0) _ B5 rfl rfl (by kernel_rfl) ?_)
 |(guard_target=~ wpList _ _ _ _ _ _;refine wpList_store_row rfl 69 _ _ rfl w.heap.size (rcK.vals dR hd) (by kernel_rfl) (by kernel_rfl) _ _ B5 (by kernel_rfl) (by kernel_rfl) (by kernel_rfl) ?_
   obtain⟨W6,hW6⟩:∃W5:World,W5=w4.setRow w.heap.size (rcK.vals dR hd):=⟨_,rfl⟩
   rw[←hW6]
   have B6:Blk W6 w.heap.size 69 (rcK.vals dR hd):=by rw[hW6];exact B5.setRow _
   have E6:Blk W6 (w.heap.size+1) 24 #[.int .i64 0]:=by rw[hW6];exact E5.setRow_far _ (by omega)
   have hX6:Below w.heap.size w W6:=by rw[hW6];exact below_setRow hX5 (Nat.le_refl _) _
   have z6:=cl (E6.cell 0)
   have f6:W6.frozen? ⟨w.heap.size+1,0,none⟩=false:=E6.frozen 0
   have hS6:∀k,k≠w.heap.size→W6.heap[k]?=w4.heap[k]?:=fun k hk=>by rw[hW6];simp[World.setRow,Array.getElem?_modify,Ne.symm hk]
   have hZ6:w4.heap.size≤W6.heap.size:=by rw[hW6];simp[World.setRow]
   clear hW6))
 have B7:=B6.far (p:=⟨w.heap.size+1,0,none⟩) (by simp) (.int .i64 0)
 have E7:=E6.set_ 0 (.int .i64 0)
 have hX7:=hX6.setCell (p:=⟨w.heap.size+1,0,none⟩) (by simp) (.int .i64 0)
 refine leaves_cons (f:=191) (args:=#[.pointer (some ⟨w.heap.size,0,none⟩),.pointer (some ⟨w.heap.size+1,0,none⟩)]) (by simp) (by simp[go_sem]) ?_
 refine(catch_idleR _ _ _).mono ?_
 rintro e u w7 ⟨rfl,rfl,rfl⟩
 refine decode_doorR rfl rfl rfl B7 E7 (by kernel_rfl) ⟨hd,rfl,?_,hX7⟩
 have hs:w2.heap.size≤(W6.setCell ⟨w.heap.size+1,0,none⟩ (.int .i64 0)).heap.size:=by have:=HB5.out.size;have hz:(w2.drewN q).heap.size=w2.heap.size:=rfl;simp only[World.size_setCell];omega
 refine(rcG).on HLO.out (fun k h1 h2=>?_) hs (by have:=hlow.out;omega)
 have h3:=hlow.out
 rw[Below.heap_setCell _ _ _ _ (by simp;omega),hS6 k (by omega)]
 exact HB5.out.block k h2
end Go.Proofs.YtcalkfgibflbnaaGreat
