/- The walks of the reference's writing functions, of Bytes and CopyBytes. -/
import Derived.Defers
import Derived.Recover
import Derived.Test.YtcalkfgibflbnaaGreatBace
import Derived.Test.YtcalkfgibflbnaaGreatBadc
namespace Go.Proofs.YtcalkfgibflbnaaGreat
set_option maxHeartbeats 4000000
set_option maxRecDepth 100000
open Go.RowKit Fl
theorem afo (a:Nat) (w:World):
 Calls Tryz.prog 209 #[.float .f64 a] w fun e w'=>e=.returned (.int .u64 (bU a))/\w=w':=by
 by_cases h:wH a=true
 · have e:bU a=9221120237041090560:=(by simp[bU,h]);have h':(FloatKind.f64.format.order a a !=some Ordering.eq)=true:=h;rw[e];clear e h;go_enter Tryz.func209,Tryz.ntmps209;go_wp2;go_ret;exact⟨rfl,rfl⟩
 · have e:bU a=a:=(by simp[bU,h]);have h':(FloatKind.f64.format.order a a !=some Ordering.eq)=false:=(by simpa [wH] using h);rw[e];clear e h;go_enter Tryz.func209,Tryz.ntmps209;go_wp2;go_ret;exact⟨rfl,rfl⟩
def kM (w:World) (bs:List UInt8) (v:Value) (wr:World):Prop:=wr.ownsRow w.heap.size 5 1 v bs.length (bytesV bs)/\Below w.heap.size w wr
theorem kM.start (w:World):kM w [] (.slice none 0 0) w:=⟨World.ownsRow_nil _ _ _ _,aC⟩
theorem kM.post {w wr:World} {bs:List UInt8} {v:Value} (h:kM w bs v wr):cO w bs (.returned v) wr:=by
 obtain⟨A,c,rfl,h1,h2⟩:=fP h.1;exact⟨A,c,rfl,h1,h2,h.1,h.2⟩
theorem kM.push {w wr X w1:World} {bs more:List UInt8} {v v1:Value} (h:kM w bs v wr) (hX:Below wr.heap.size wr X)
 (hown:w1.ownsRow w.heap.size 5 1 v1 (bs.length+more.length) (bytesV bs++bytesV more)) (hg:X.grownBy w1 v.ownBlock):kM w (bs++more) v1 w1:=by
 refine⟨by rw[aK,bytesV,List.map_append];exact hown,?_⟩;refine Below.grown (h.2.trans (hX.mono h.2.size)) hg (Nat.le_trans h.2.size hX.size) fun k hk=>(h.1.lt k hk).1
theorem afp (k:Nat):bytesV [(k%128+128).toUInt8]=[.int .u8 ((k:Int)%128+128)]:=by
 show [Value.int .u8 (((k%128+128)%256:Nat):Int)]=_
 congr 2
 omega
def afq (w:World) (n:Int) (u out:Value) (wr:World):Prop:=
 ∃(k:Nat) (pre:List UInt8),u=.int .u64 (k:Int)/\k<18446744073709551616/\pre++kU k=encI n/\kM w pre out wr
theorem lQ (n:Int) (w:World) (hn1: -9223372036854775808<=n) (hn2:n<=9223372036854775807):
 Calls Tryz.prog 44 #[.int .i64 n] w (cO w (encI n)):=by
 obtain⟨i0,hi0,hz0,hz1,hz2⟩:=oW oV;have hzl:=Io hn1 hn2;have hel:=iE hn1 hn2;have hcase:n<0∨0<=n:=byOmega;rcases hcase with hneg|hneg
 all_goals (
  go_enter Tryz.func44,Tryz.ntmps44;go_wp2
  go_loopw [3,4] (fun u out wr=>afq w n u out wr) (fun u _ _=>(intOf u).toNat)
  case atStart=>
   refine⟨zig n,[],?_,hzl,rfl,kM.start w⟩
   first
        |rw[QO hneg hn1]
        |(have e:=QN hneg hn2
          rw[show IntKind.u64.wrap n=n from by rw[IntKind.wrap_u64];omega,show IntKind.u64.wrap (n*2)=n*2 from by rw[IntKind.wrap_u64];omega]at e;rw[e])
  case round=>
   obtain⟨k,pre,rfl,hk,henc,hrow⟩:=hrel;obtain⟨A1,c1,rfl,hA1,hA2⟩:=fP hrow.1;have hzz:=hrow.2.size;have hpre:pre.length+(kU k).length=(encI n).length:=(by rw[<-henc,aK]);by_cases hbig:k<128
   · have h1:kU k=[k.toUInt8]:=yS hbig;go_wp2_with (first
      |(at_builtin
        refine iI _ rfl (.tmp 23) (.tmp 26) _ rfl w.heap.size 5 i0 _ 1 1 Tryz.underlying49 hi0 hz0 hz1 hz2 rfl byOmega (.slice A1 pre.length c1) _ (bytesV pre) aI (hrow.1.alloc _) (wr.heap.size+1) (some ⟨wr.heap.size,0,none⟩) 1 1 (bytesV [k.toUInt8]) aI
            (by rw[QM k hbig];exact yV wr 5 _ 1 rfl) (mY _) dX byOmega ay ?_
        intro v2 w1 hown1 hg1 nN))
     go_ret;rw[<-henc,h1];exact(hrow.push ((aC).alloc (Nat.le_refl _) _) hown1 hg1).post
   · have h1:=yT hbig;go_wp2_with (first
      |(at_builtin
        refine iI _ rfl (.tmp 14) (.tmp 19) _ rfl w.heap.size 5 i0 _ 1 1 Tryz.underlying49 hi0 hz0 hz1 hz2 rfl byOmega (.slice A1 pre.length c1) _ (bytesV pre) aI (hrow.1.alloc _) (wr.heap.size+1) (some ⟨wr.heap.size,0,none⟩) 1 1 (bytesV [(k%128+128).toUInt8]) aI
            (by rw[afp k];exact yV wr 5 _ 1 rfl) (mY _) dX byOmega ay ?_
        intro v2 w1 hown1 hg1 nN))
     go_roundw
     case rel=>
      refine⟨k/128,pre++[(k%128+128).toUInt8],by go_num,byOmega,?_,hrow.push ((aC).alloc (Nat.le_refl _) _) hown1 hg1⟩;rw[List.append_assoc,<-henc,h1];rfl
     case measure=>simp[intOf];omega)
theorem U5 (b:Bool) (w:World):Calls Tryz.prog 151 #[.bool b] w (cO w (qF b)):=by
 cases b;all_goals (
  go_enter Tryz.func151,Tryz.ntmps151;go_wp2;go_ret)
 · exact⟨some ⟨w.heap.size,0,none⟩,1,rfl,Nat.le_refl _,by unfold maxLen;omega,World.ownsRow_lit w #[.int .u8 0] 1 (Nat.le_refl _) dX rfl,(aC).alloc (Nat.le_refl _) _⟩
 · exact⟨some ⟨w.heap.size,0,none⟩,1,rfl,Nat.le_refl _,by unfold maxLen;omega,World.ownsRow_lit w #[.int .u8 1] 1 (Nat.le_refl _) dX rfl,(aC).alloc (Nat.le_refl _) _⟩
def afr (w:World) (x:Nat) (u out i:Value) (wr:World):Prop:=
 ∃(j k:Nat) (pre:List UInt8),j<=8/\i=.int .i64 (j:Int)/\u=.int .u64 (k:Int)/\k<18446744073709551616/\pre.length=j/\pre++lX (8-j) k=lX 8 x/\kM w pre out wr
theorem Jy (a:Nat) (w:World) (ha:a<18446744073709551616):Calls Tryz.prog 174 #[.float .f64 a] w (cO w (lX 8 (bU a))):=by
 obtain⟨i0,hi0,hz0,hz1,hz2⟩:=oW oV;have hcan:bU a<18446744073709551616:=Pz ha;go_enter Tryz.func174,Tryz.ntmps174;go_wp2_with ((with_reducible refine(afo _ _).mono ?_);rintro e w' ⟨rfl,rfl⟩)
 go_loopw [3,4,5] (fun u out i wr=>afr w (bU a) u out i wr) (fun _ _ i _=>8-(intOf i).toNat)
 case atStart=>exact⟨0,_,[],byOmega,rfl,rfl,hcan,rfl,rfl,kM.start w⟩
 case round=>
  obtain⟨j,k,pre,hj,rfl,rfl,hk,hpl,henc,hrow⟩:=hrel;have hl8:pre.length<=8:=byOmega;have hzz:=hrow.2.size;have HP:=au hpl;clear hpl;obtain⟨A1,c1,rfl,hA1,hA2⟩:=fP hrow.1;by_cases hlt:j<8
  · go_wp2_with (first
     |(at_builtin
       refine iI _ rfl (.tmp 12) (.tmp 16) _ rfl w.heap.size 5 i0 _ 1 1 Tryz.underlying49 hi0 hz0 hz1 hz2 rfl byOmega (.slice A1 pre.length c1) _ (bytesV pre) aI (hrow.1.alloc _) (wr.heap.size+1) (some ⟨wr.heap.size,0,none⟩) 1 1 (bytesV [(k%256).toUInt8]) aI
               (by rw[QT k];exact yV wr 5 _ 1 rfl) (mY _) dX byOmega ay ?_
       intro v2 w1 hown1 hg1 nN))
    go_roundw
    case rel=>
        refine⟨j+1,k/256,pre++[(k%256).toUInt8],byOmega,by go_num,by go_num,byOmega,by simp[HP.out],?_,hrow.push ((aC).alloc (Nat.le_refl _) _) hown1 hg1⟩;rw[List.append_assoc,<-henc,show 8-j=(8-(j+1))+1 from byOmega];rfl
    case measure=>simp[intOf];omega
  · obtain rfl:j=8:=byOmega;have hen:pre=lX 8 (bU a):=(by simpa [lX] using henc);have HE:=au hen;clear hen henc;go_wp2;go_ret;rw[<-HE.out];exact hrow.post
theorem CQ (s:ByteArray) (w:World) (hs:s.size<=1000000000000):Calls Tryz.prog 152 #[.string s] w (cO w (jX s.data.toList)):=by
 obtain⟨i0,hi0,hz0,hz1,hz2⟩:=oW oV;have hel:(encI (s.size:Int)).length<=10:=iE byOmega byOmega;go_enter Tryz.func152,Tryz.ntmps152;go_wp2_with (first
         |((with_reducible refine(lQ _ _ byOmega byOmega).mono ?_);rintro e w1 ⟨A1,c1,rfl,hA1,hA2,hown,hb⟩)
         |(at_builtin
           refine QL _ rfl (.tmp 5) (.tmp 6) _ _ rfl w.heap.size 5 i0 Tryz.underlying49 Tryz.underlying9 hi0 hz0 hz1 hz2 (.slice A1 (encI (s.size:Int)).length c1) _ (bytesV (encI (s.size:Int))) aI hown s aI
              dX byOmega hb.size ?_
           intro v2 w2 hown1 hg1 nN))
 have hsz:s.size=s.data.toList.length:=(Array.length_toList (xs:=s.data)).symm;have hr:=kM.push (w:=w) (more:=s.data.toList) ⟨hown,hb⟩ aC (by rw[<-hsz];exact hown1) hg1;go_ret;unfold jX;rw[<-hsz];exact hr.post
def afs (w:World) (bs:List UInt8) (out i:Value) (wr:World):Prop:=∃k:Nat,k<=bs.length/\i=.int .i64 (k:Int)/\kM w (bs.take k) out wr
theorem U6 (A:Option Addr) (n c:Nat) (bs:List UInt8) (w:World) (h:Reads w w.heap.size 1 A n (bytesV bs)) (hn:n<=1000000000000):Calls Tryz.prog 19 #[.slice A n c] w (cO w bs):=by
 obtain⟨i0,hi0,hz0,hz1,hz2⟩:=oW oV;have hlen:bs.length=n:=by have:=h.1;simpa using this
 have HL:=au hlen;have hle:bs.length<=n:=byOmega;have hge:n<=bs.length:=byOmega;clear hlen;go_enter Tryz.func19,Tryz.ntmps19;go_wp2
 go_loopw [3,4] (fun out i wr=>afs w bs out i wr) (fun _ i _=>n-(intOf i).toNat)
 case atStart=>exact⟨0,Nat.zero_le _,rfl,kM.start w⟩
 case round=>
  obtain⟨k,hk,rfl,hrow⟩:=hrel;obtain⟨A1,c1,rfl,hA1,hA2⟩:=fP hrow.1;have hzz:=hrow.2.size;have htl:(bs.take k).length<=k:=List.length_take_le _ _;by_cases hlt:k<n
  · obtain⟨ad,x,rfl,hb,hx,hc⟩:=h.at_ hlt;have hxl:∃y,bs[k]?=some y/\x=.int .u8 (y.toNat:Int):=by
        have hk2:bs[k]?=some bs[k]:=List.getElem?_eq_getElem byOmega;rw[List.getElem?_map,hk2]at hx;exact⟨_,hk2,(Option.some.inj hx).symm⟩
    obtain⟨y,hy,rfl⟩:=hxl;have hcw:wr.cell? (ad.add k)=some (.int .u8 (y.toNat:Int)):=(by rw[hrow.2.cell (by rw[iW];exact hb)];exact hc);have HT:RowKit.Hid (bs.take (k+1)=bs.take k++[y]):=au (by rw[List.take_add_one,hy];rfl);clear hx hy hc;go_wp2_with (first
     |(at_builtin
       refine iI _ rfl (.tmp 11) (.tmp 16) _ rfl w.heap.size 5 i0 _ 1 1 Tryz.underlying49 hi0 hz0 hz1 hz2 rfl byOmega (.slice A1 (bs.take k).length c1) _ (bytesV (bs.take k)) aI (hrow.1.alloc _) (wr.heap.size+1) (some ⟨wr.heap.size,0,none⟩) 1 1 (bytesV [y]) aI
               (yV wr 5 _ 1 rfl) (mY _) dX byOmega ay ?_
       intro v2 w1 hown1 hg1 nN))
    go_roundw
    case rel=>
        refine⟨k+1,byOmega,by go_num,?_⟩;rw[HT.out];exact hrow.push ((aC).alloc (Nat.le_refl _) _) hown1 hg1
    case measure=>simp[intOf];omega
  · have he:bs.take k=bs:=List.take_of_length_le byOmega;have HE:=au he;clear he;go_wp2;go_ret;have:=hrow.post;rw[HE.out]at this;rw[HE.out];exact this
end Go.Proofs.YtcalkfgibflbnaaGreat
namespace Go.Proofs.YtcalkfgibflbnaaGreat
set_option maxHeartbeats 6000000
set_option maxRecDepth 100000
set_option linter.unusedVariables false
open Go.RowKit Fl
attribute [local go_sem] dJ
theorem cO.down {w X w':World} {bs:List UInt8} {e:Ending} (hX:Below w.heap.size w X) (h:cO X bs e w'):cO w bs e w':=by
 obtain⟨A,c,h1,h2,h3,h4,h5⟩:=h;exact⟨A,c,h1,h2,h3,zu h4 hX.size,hX.trans (h5.mono hX.size)⟩
theorem named (a b:List UInt8):∃P:List UInt8,RowKit.Hid (P=a++b)/\RowKit.Hid (P.length=a.length+b.length):=⟨a++b,au rfl,au (aK)⟩
theorem kM.below {w wr w2:World} {bs:List UInt8} {v:Value} (h:kM w bs v wr) (hb:Below wr.heap.size wr w2):kM w bs v w2:=
 ⟨h.1.kept (row:=none) ⟨hb.os,hb.tape,hb.output,hb.size,fun k hk _=>hb.block k hk⟩ (by cases v.ownBlock<;>simp),h.2.trans (hb.mono h.2.size)⟩
theorem nG (s:Sp) (w:World) (ok:s.ok):Calls Tryz.prog 92 #[s.val] w (cO w (aU s)):=by
 obtain⟨⟨k1,k1'⟩,⟨k2,k2'⟩,k3,xM⟩:=ok;have e1:(encI s.w).length<=10:=iE k1 k1';have e2:(encI s.l).length<=10:=iE k2 k2';have e3:(encI s.n).length<=10:=iE k3 xM;obtain⟨i0,hi0,hz0,hz1,hz2⟩:=oW oV;have HX:Below w.heap.size w (w.alloc (.cells #[.int .i64 s.w,.int .i64 s.l,.int .i64 s.n] 26)):=aJ;have HB:w.heap.size<((w.alloc (.cells #[.int .i64 s.w,.int .i64 s.l,.int .i64 s.n] 26))).heap.size:=aA;have C0:=cn HX 0;have C1:=cn HX 1;have C2:=cn HX 2;go_enter Tryz.func92,Tryz.ntmps92;go_wp2_with fail;refine(lQ s.w _ k1 k1').mono ?_;rintro e w1 ⟨A1,q1,rfl,hq1,hm1,hown1,hb1⟩;have hrow1:kM (w.alloc (.cells #[.int .i64 s.w,.int .i64 s.l,.int .i64 s.n] 26)) (encI s.w) (.slice A1 (encI s.w).length q1) w1:=⟨hown1,hb1⟩;have Jz:=up C0 hrow1.2 HB;have JA:=up C1 hrow1.2 HB;have JB:=up C2 hrow1.2 HB;go_wp2_with fail;refine(lQ s.l _ k2 k2').mono ?_;rintro e w2 ⟨A2,q2,rfl,hq2,hm2,hown2,hb2⟩;have hrow2:=hrow1.below hb2;have xq:(encI s.w).length+(encI s.l).length<=maxLen:=by unfold maxLen;omega
 have z2b:((encI s.w).length+(encI s.l).length)*1<=140737488355328:=byOmega;go_wp2_with (at_builtin;refine iI _ rfl _ _ _ rfl ((w.alloc (.cells #[.int .i64 s.w,.int .i64 s.l,.int .i64 s.n] 26))).heap.size 5 i0 _ 1 1 Tryz.underlying49 hi0 hz0 hz1 hz2 rfl byOmega (.slice A1 (encI s.w).length q1) _ (bytesV (encI s.w)) aI hrow2.1 w2.heap.size A2 (encI s.l).length q2 (bytesV (encI s.l)) aI (Reads.kK hown2) (mY _) xq z2b hrow2.2.size ?_;intro v2' w2' qU qV xu;have hr2:=hrow2.push aC qU qV;obtain⟨P2,HP2,vw⟩:=named (encI s.w) (encI s.l);rw[<-HP2.out]at hr2;obtain⟨pz,q2',rfl,Et,Eu⟩:=fP hr2.1;have GI:=up C0 hr2.2 HB;have JC:=up C1 hr2.2 HB;have JD:=up C2 hr2.2 HB);clear xq z2b qU qV xu hrow2 hown2 hb2;go_wp2_with fail;refine(lQ s.n _ k3 xM).mono ?_;rintro e w3 ⟨A3,q3,rfl,hq3,iY,hown3,hb3⟩;have hrow3:=hr2.below hb3;have Au:(P2).length+(encI s.n).length<=maxLen:=by unfold maxLen;have:=vw.out;omega
 have Aw:((P2).length+(encI s.n).length)*1<=140737488355328:=by have:=vw.out;omega
 go_wp2_with (at_builtin;refine iI _ rfl _ _ _ rfl ((w.alloc (.cells #[.int .i64 s.w,.int .i64 s.l,.int .i64 s.n] 26))).heap.size 5 i0 _ 1 1 Tryz.underlying49 hi0 hz0 hz1 hz2 rfl byOmega (.slice pz P2.length q2') _ (bytesV (P2)) aI hrow3.1 w3.heap.size A3 (encI s.n).length q3 (bytesV (encI s.n)) aI (Reads.kK hown3) (mY _) Au Aw hrow3.2.size ?_;intro U7 w3' Az hg3' GK;have hr3:=hrow3.push aC Az hg3';obtain⟨P3,AA,JE⟩:=named (P2) (encI s.n);rw[<-AA.out]at hr3;obtain⟨F9,q3',rfl,U8,U9⟩:=fP hr3.1;have Va:=up C0 hr3.2 HB;have Vb:=up C1 hr3.2 HB;have Vd:=up C2 hr3.2 HB);clear Au Aw Az hg3' GK hrow3 hown3 hb3;have HP:=cO.down HX hr3.post;have HQ:aU s=P3:=by rw[AA.out,HP2.out];simp only[aU,List.append_assoc]
 go_ret;rw[HQ];exact HP
theorem AB (s:Tx) (w:World) (ok:s.ok):Calls Tryz.prog 95 #[s.val] w (cO w (eP s)):=by
 obtain⟨⟨k1,k1'⟩,⟨k2,k2'⟩,k3,xM⟩:=ok;have e1:(encI s.c).length<=10:=iE k1 k1';have e2:(encI s.l).length<=10:=iE k2 k2';have e3:(encI s.s).length<=10:=iE k3 xM;obtain⟨i0,hi0,hz0,hz1,hz2⟩:=oW oV;have HX:Below w.heap.size w (w.alloc (.cells #[.int .i64 s.c,.int .i64 s.l,.int .i64 s.s] 23)):=aJ;have HB:w.heap.size<((w.alloc (.cells #[.int .i64 s.c,.int .i64 s.l,.int .i64 s.s] 23))).heap.size:=aA;have C0:=cn HX 0;have C1:=cn HX 1;have C2:=cn HX 2;go_enter Tryz.func95,Tryz.ntmps95;go_wp2_with fail;refine(lQ s.c _ k1 k1').mono ?_;rintro e w1 ⟨A1,q1,rfl,hq1,hm1,hown1,hb1⟩;have hrow1:kM (w.alloc (.cells #[.int .i64 s.c,.int .i64 s.l,.int .i64 s.s] 23)) (encI s.c) (.slice A1 (encI s.c).length q1) w1:=⟨hown1,hb1⟩;have Jz:=up C0 hrow1.2 HB;have JA:=up C1 hrow1.2 HB;have JB:=up C2 hrow1.2 HB;go_wp2_with fail;refine(lQ s.l _ k2 k2').mono ?_;rintro e w2 ⟨A2,q2,rfl,hq2,hm2,hown2,hb2⟩;have hrow2:=hrow1.below hb2;have xq:(encI s.c).length+(encI s.l).length<=maxLen:=by unfold maxLen;omega
 have z2b:((encI s.c).length+(encI s.l).length)*1<=140737488355328:=byOmega;go_wp2_with (at_builtin;refine iI _ rfl _ _ _ rfl ((w.alloc (.cells #[.int .i64 s.c,.int .i64 s.l,.int .i64 s.s] 23))).heap.size 5 i0 _ 1 1 Tryz.underlying49 hi0 hz0 hz1 hz2 rfl byOmega (.slice A1 (encI s.c).length q1) _ (bytesV (encI s.c)) aI hrow2.1 w2.heap.size A2 (encI s.l).length q2 (bytesV (encI s.l)) aI (Reads.kK hown2) (mY _) xq z2b hrow2.2.size ?_;intro v2' w2' qU qV xu;have hr2:=hrow2.push aC qU qV;obtain⟨P2,HP2,vw⟩:=named (encI s.c) (encI s.l);rw[<-HP2.out]at hr2;obtain⟨pz,q2',rfl,Et,Eu⟩:=fP hr2.1;have GI:=up C0 hr2.2 HB;have JC:=up C1 hr2.2 HB;have JD:=up C2 hr2.2 HB);clear xq z2b qU qV xu hrow2 hown2 hb2;go_wp2_with fail;refine(lQ s.s _ k3 xM).mono ?_;rintro e w3 ⟨A3,q3,rfl,hq3,iY,hown3,hb3⟩;have hrow3:=hr2.below hb3;have Au:(P2).length+(encI s.s).length<=maxLen:=by unfold maxLen;have:=vw.out;omega
 have Aw:((P2).length+(encI s.s).length)*1<=140737488355328:=by have:=vw.out;omega
 go_wp2_with (at_builtin;refine iI _ rfl _ _ _ rfl ((w.alloc (.cells #[.int .i64 s.c,.int .i64 s.l,.int .i64 s.s] 23))).heap.size 5 i0 _ 1 1 Tryz.underlying49 hi0 hz0 hz1 hz2 rfl byOmega (.slice pz P2.length q2') _ (bytesV (P2)) aI hrow3.1 w3.heap.size A3 (encI s.s).length q3 (bytesV (encI s.s)) aI (Reads.kK hown3) (mY _) Au Aw hrow3.2.size ?_;intro U7 w3' Az hg3' GK;have hr3:=hrow3.push aC Az hg3';obtain⟨P3,AA,JE⟩:=named (P2) (encI s.s);rw[<-AA.out]at hr3;obtain⟨F9,q3',rfl,U8,U9⟩:=fP hr3.1;have Va:=up C0 hr3.2 HB;have Vb:=up C1 hr3.2 HB;have Vd:=up C2 hr3.2 HB);clear Au Aw Az hg3' GK hrow3 hown3 hb3;have HP:=cO.down HX hr3.post;have HQ:eP s=P3:=by rw[AA.out,HP2.out];simp only[eP,List.append_assoc]
 go_ret;rw[HQ];exact HP
theorem Ve (r:Rg) (w:World) (ok:r.ok):Calls Tryz.prog 153 #[.agg #[.int .i64 r.id,.int .i64 r.ep,.float .f64 r.lo,.float .f64 r.hi]] w (cO w (dU r)):=by
 obtain⟨⟨k1,k1'⟩,⟨k2,k2'⟩,k3,k4⟩:=ok;have e1:(encI r.id).length<=10:=iE k1 k1';have e2:(encI r.ep).length<=10:=iE k2 k2';have e3:(dK r.lo).length=8:=xP 8 _;have e4:(dK r.hi).length=8:=xP 8 _;obtain⟨i0,hi0,hz0,hz1,hz2⟩:=oW oV;have HX:Below w.heap.size w (w.alloc (.cells #[.int .i64 r.id,.int .i64 r.ep,.float .f64 r.lo,.float .f64 r.hi] 35)):=aJ;have HB:w.heap.size<((w.alloc (.cells #[.int .i64 r.id,.int .i64 r.ep,.float .f64 r.lo,.float .f64 r.hi] 35))).heap.size:=aA;have C0:=cn HX 0;have C1:=cn HX 1;have C2:=cn HX 2;have C3:=cn HX 3;go_enter Tryz.func153,Tryz.ntmps153;go_wp2_with fail;refine wp_region_held_drew (S:=fun W'=>Below ((w.alloc (.cells #[.int .i64 r.id,.int .i64 r.ep,.float .f64 r.lo,.float .f64 r.hi] 35))).heap.size ((w.alloc (.cells #[.int .i64 r.id,.int .i64 r.ep,.float .f64 r.lo,.float .f64 r.hi] 35))) W') ah (aC).drew (fun hHeld=>?_);refine wpAnyH_take (i:=0) (oi:=⟨some 4,_,_,_,_,_⟩) (v:=.pointer (some ⟨w.heap.size,0,none⟩)) rfl ah ah ah (fun _ _ _ h=>h) (Or.inl ⟨ah,fun W hSw=>by clear hSw;go_simp⟩) hHeld ?_;go_frame;refine wpAnyH_take (i:=1) (oi:=⟨some 5,_,_,_,_,_⟩) (v:=.int .i64 r.id) rfl ah ah ah (fun _ _ _ h=>h) (Or.inl ⟨ah,fun W hSw=>by have z:=(hSw.cell (p:=⟨w.heap.size,0,none⟩) HB).trans C0;clear hSw;go_simp⟩) hHeld ?_;go_frame;refine wpAnyH_take (i:=3) (oi:=⟨some 7,_,_,_,_,_⟩) (v:=.pointer (some ⟨w.heap.size,1,none⟩)) rfl ah ah ah (fun _ _ _ h=>h) (Or.inl ⟨ah,fun W hSw=>by clear hSw;go_simp⟩) hHeld ?_;go_frame;refine wpAnyH_take (i:=4) (oi:=⟨some 8,_,_,_,_,_⟩) (v:=.int .i64 r.ep) rfl ah ah ah (fun _ _ _ h=>h) (Or.inl ⟨ah,fun W hSw=>by have z:=(hSw.cell (p:=⟨w.heap.size,1,none⟩) HB).trans C1;clear hSw;go_simp⟩) hHeld ?_;go_frame;have s0:Below ((w.alloc (.cells #[.int .i64 r.id,.int .i64 r.ep,.float .f64 r.lo,.float .f64 r.hi] 35))).heap.size ((w.alloc (.cells #[.int .i64 r.id,.int .i64 r.ep,.float .f64 r.lo,.float .f64 r.hi] 35))) ((w.alloc (.cells #[.int .i64 r.id,.int .i64 r.ep,.float .f64 r.lo,.float .f64 r.hi] 35))).drew:=(aC).drew;refine tr (o:=⟨some 6,_,_,_,_,_⟩) 2 rfl fun K hK=>?_
 go_simp
 (with_reducible refine(lQ r.id _ k1 k1').mono ?_)
 rintro e w1 ⟨A1,q1,rfl,hq1,hm1,hown1,hb1⟩;have s1:Below ((w.alloc (.cells #[.int .i64 r.id,.int .i64 r.ep,.float .f64 r.lo,.float .f64 r.hi] 35))).heap.size ((w.alloc (.cells #[.int .i64 r.id,.int .i64 r.ep,.float .f64 r.lo,.float .f64 r.hi] 35))) w1:=s0.trans (hb1.mono (s0).size);refine hK.out _ _ s1 (fun hHeld=>?_);clear hK K
 try go_frame
 have hrow1:kM ((w.alloc (.cells #[.int .i64 r.id,.int .i64 r.ep,.float .f64 r.lo,.float .f64 r.hi] 35))) (encI r.id) (.slice A1 (encI r.id).length q1) w1:=⟨hown1,s1⟩;refine tr (o:=⟨some 9,_,_,_,_,_⟩) 5 rfl fun K hK=>?_
 go_simp
 (with_reducible refine(lQ r.ep _ k2 k2').mono ?_)
 rintro e w2 ⟨A2,q2,rfl,hq2,hm2,hown2,hb2⟩;have s2:Below ((w.alloc (.cells #[.int .i64 r.id,.int .i64 r.ep,.float .f64 r.lo,.float .f64 r.hi] 35))).heap.size ((w.alloc (.cells #[.int .i64 r.id,.int .i64 r.ep,.float .f64 r.lo,.float .f64 r.hi] 35))) w2:=s1.trans (hb2.mono (s1).size);refine hK.out _ _ s2 (fun hHeld=>?_);clear hK K
 try go_frame
 have hrow2:=hrow1.below hb2;have za:(encI r.id).length+(encI r.ep).length<=maxLen:=by unfold maxLen;omega
 have zb:((encI r.id).length+(encI r.ep).length)*1<=140737488355328:=byOmega;refine tr (o:=⟨some 10,_,_,_,_,_⟩) 6 rfl fun K hK=>?_
 refine wG _ rfl _ _ _ rfl ((w.alloc (.cells #[.int .i64 r.id,.int .i64 r.ep,.float .f64 r.lo,.float .f64 r.hi] 35))).heap.size 5 i0 _ 1 1 Tryz.underlying49 hi0 hz0 hz1 hz2 rfl byOmega (.slice A1 (encI r.id).length q1) _ (bytesV (encI r.id)) aI hrow2.1 w2.heap.size A2 (encI r.ep).length q2 (bytesV (encI r.ep)) aI (Reads.kK hown2) (mY _) za zb hrow2.2.size ?_;intro v2' w2' qU qV xu;have hr2:=hrow2.push aC qU qV;obtain⟨P2,HP2,vw⟩:=named (encI r.id) (encI r.ep);rw[<-HP2.out]at hr2;obtain⟨pz,q2',rfl,Et,Eu⟩:=fP hr2.1;refine hK.out _ _ hr2.2 (fun hHeld=>?_);clear hK K
 try go_frame
 refine wpAnyH_take (i:=7) (oi:=⟨some 3,_,_,_,_,_⟩) (v:=.slice pz P2.length q2') rfl ah ah ah (fun _ _ _ h=>h) (Or.inl ⟨ah,fun W hSw=>by clear hSw;go_simp⟩) hHeld ?_;go_frame;refine td ?_;clear za zb qU qV xu hrow1 hrow2 hown1 hown2 hb1 hb2 s0 s1 s2 hHeld;have GI:=up C0 hr2.2 HB;have JC:=up C1 hr2.2 HB;have JD:=up C2 hr2.2 HB;have ajr:=up C3 hr2.2 HB;go_wp2_with fail;refine(Jy r.lo _ k3).mono ?_;rintro e w3 ⟨A3,q3,rfl,hq3,iY,hown3,hb3⟩;have hrow3:=hr2.below hb3;have Au:(P2).length+(dK r.lo).length<=maxLen:=by unfold maxLen;have:=vw.out;omega
 have Aw:((P2).length+(dK r.lo).length)*1<=140737488355328:=by have:=vw.out;omega
 go_wp2_with (at_builtin;refine iI _ rfl _ _ _ rfl ((w.alloc (.cells #[.int .i64 r.id,.int .i64 r.ep,.float .f64 r.lo,.float .f64 r.hi] 35))).heap.size 5 i0 _ 1 1 Tryz.underlying49 hi0 hz0 hz1 hz2 rfl byOmega (.slice pz P2.length q2') _ (bytesV (P2)) aI hrow3.1 w3.heap.size A3 (dK r.lo).length q3 (bytesV (dK r.lo)) aI (Reads.kK hown3) (mY _) Au Aw hrow3.2.size ?_;intro U7 w3' Az hg3' GK;have hr3:=hrow3.push aC Az hg3';obtain⟨P3,AA,JE⟩:=named (P2) (dK r.lo);rw[<-AA.out]at hr3;obtain⟨F9,q3',rfl,U8,U9⟩:=fP hr3.1;have Va:=up C0 hr3.2 HB;have Vb:=up C1 hr3.2 HB;have Vd:=up C2 hr3.2 HB;have ajs:=up C3 hr3.2 HB);clear Au Aw Az hg3' GK hrow3 hown3 hb3;go_wp2_with fail;refine(Jy r.hi _ k4).mono ?_;rintro e w4 ⟨A4,q4,rfl,hq4,hm4,hown4,hb4⟩;have hrow4:=hr3.below hb4;have Vf:(P3).length+(dK r.hi).length<=maxLen:=by unfold maxLen;have:=vw.out;have:=JE.out;omega
 have Vg:((P3).length+(dK r.hi).length)*1<=140737488355328:=by have:=vw.out;have:=JE.out;omega
 go_wp2_with (at_builtin;refine iI _ rfl _ _ _ rfl ((w.alloc (.cells #[.int .i64 r.id,.int .i64 r.ep,.float .f64 r.lo,.float .f64 r.hi] 35))).heap.size 5 i0 _ 1 1 Tryz.underlying49 hi0 hz0 hz1 hz2 rfl byOmega (.slice F9 P3.length q3') _ (bytesV (P3)) aI hrow4.1 w4.heap.size A4 (dK r.hi).length q4 (bytesV (dK r.hi)) aI (Reads.kK hown4) (mY _) Vf Vg hrow4.2.size ?_;intro v4' w4' Vh Vj aft;have hr4:=hrow4.push aC Vh Vj;obtain⟨P4,Vk,LP4⟩:=named (P3) (dK r.hi);rw[<-Vk.out]at hr4;obtain⟨UH,MR,rfl,ajt,aju⟩:=fP hr4.1;have ajv:=up C0 hr4.2 HB;have ajw:=up C1 hr4.2 HB;have ajx:=up C2 hr4.2 HB;have ajy:=up C3 hr4.2 HB);clear Vf Vg Vh Vj aft hrow4 hown4 hb4;have HP:=cO.down HX hr4.post;have HQ:dU r=P4:=by rw[Vk.out,AA.out,HP2.out];simp only[dU,List.append_assoc]
 go_ret;rw[HQ];exact HP
theorem aj.push {w w':World} {g:Nat} {t:TypeId} {cs:Array Value} {base n:Nat} {v:Value} {xs:List Value} (hb:aj w g t cs) (ht:t≠5) (hown:w.ownsRow base 5 1 v n xs) (hg:w.grownBy w' v.ownBlock):aj w' g t cs:=
 hb.grown hg fun e=>by
  obtain⟨c,fz,hc⟩:=Go.Lib.ownsRow_kind hown g e.symm;unfold aj at hb;rw[hc]at hb;injection hb with h1
  injection h1 with h2 h3
  exact ht h3.symm
structure BW (X:World) (T suf P:List UInt8) (A:Option Addr) (n c:Nat) (w:World):Prop where
 r:kM X P (.slice A n c) w
 l:P.length=n
 e:P++suf=T
 s:T.length<=1000000000000
structure BC (X:World) (T suf P:List UInt8) (A:Option Addr) (n c:Nat) (more:List UInt8) (A2:Option Addr) (n2 c2:Nat) (w:World):Prop where
 b:BW X T (more++suf) P A n c w
 o:∃B,w.ownsRow B 5 1 (.slice A2 n2 c2) n2 (bytesV more)
 l:more.length=n2
section
variable {X w w':World} {T suf qC P more:List UInt8} {A A2:Option Addr} {n c n2 c2 F:Nat} {vs:Array Value}
theorem BW.as (b:BW X T suf P A n c w) (e:suf=qC):BW X T qC P A n c w:=e▸b
theorem BW.below (b:BW X T suf P A n c w) (hb:Below w.heap.size w w'):BW X T suf P A n c w':=⟨b.r.below hb,b.l,b.e,b.s⟩
theorem BW.blk (b:BW X T suf P A n c w) {g:Nat} {t:TypeId} {cs:Array Value} (B:aj X g t cs):aj w g t cs:=B.below b.r.2 B.lt
theorem BW.post (b:BW X T [] P A n c w):cO X T (.returned (.slice A n c)) w:=by
 have h:=b.r.post;rw[b.l.symm,<-b.e,List.append_nil];have e:=b.l;subst e;exact h
theorem BW.fst (hX:Below X.heap.size X w) (e:more++suf=T) (s:T.length<=1000000000000) (H:more.length<=1000000000000->Calls Tryz.prog F vs w (cO w more)):
 Calls Tryz.prog F vs w (fun e w'=>∃A n c P,e=.returned (.slice A n c)/\BW X T suf P A n c w'):=by
 refine(H (by rw[<-e,aK]at s;omega)).mono ?_;rintro _ w1 ⟨A1,q1,rfl,-,-,ho,hb⟩;exact⟨A1,_,q1,more,rfl,⟨⟨zu ho hX.size,hX.trans (hb.mono hX.size)⟩,rfl,e,s⟩⟩
theorem BW.call (b:BW X T (more++suf) P A n c w) (H:more.length<=1000000000000->Calls Tryz.prog F vs w (cO w more)):
 Calls Tryz.prog F vs w (fun e w'=>∃A2 n2 c2,e=.returned (.slice A2 n2 c2)/\BC X T suf P A n c more A2 n2 c2 w'):=by
 refine(H (by have s:=b.s;rw[<-b.e,aK,aK]at s;omega)).mono ?_;rintro _ w1 ⟨A1,q1,rfl,-,-,ho,hb⟩;exact⟨A1,_,q1,rfl,⟨b.below hb,⟨_,ho⟩,rfl⟩⟩
theorem BC.Vm (k:BC X T suf P A n c more A2 n2 c2 w) {a:Act} {o:Operand} {x y:Operand} {K:Act->World->Prop} {Q:Exit->Act->World->Prop} {op:Oper} (ho:op.op=.call {callee:=.builtin .append,args:=#[x,y],argTypes:=#[49,49]})
 (hx:a.eval x=.slice A n c) (hy:a.eval y=.slice A2 n2 c2) (h:∀A n c P w',BW X T suf P A n c w'->(∀g t cs,t≠5->aj w g t cs->aj w' g t cs)->K (a.put op.dst (.slice A n c)) w'):Oper.wp Tryz.prog op a w K Q:=by
 obtain⟨i0,hi0,hz0,hz1,hz2⟩:=oW oV;obtain⟨B,hB⟩:=k.o;have s:=k.b.s;rw[<-k.b.e,aK,aK]at s;have l1:=k.b.l;have l2:=k.l;refine J3 w x y 49 ho X.heap.size 5 i0 _ 1 1 Tryz.underlying49 hi0 hz0 hz1 hz2 rfl byOmega (.slice A n c) n (bytesV P) hx (by have:=k.b.r.1;rw[l1]at this;exact this) w.heap.size A2 n2 c2 (bytesV more) hy (Reads.kK hB) (mY _) dX byOmega k.b.r.2.size ?_;intro v' w' hown hg hat;have hr:=k.b.r.push (more:=more) aC (by rw[l1,l2];exact hown) hg;obtain⟨A',q',rfl,hq',hm'⟩:=fP hr.1;exact h _ _ _ _ _ ⟨hr,rfl,by rw[List.append_assoc];exact k.b.e,k.b.s⟩ fun g t cs d B=>B.push d k.b.r.1 hg
theorem BC.wp (k:BC X T suf P A n c more A2 n2 c2 w) {a:Act} {o:Operand} {x y:Operand} {K:Act->World->Prop} {Q:Exit->Act->World->Prop} {op:Oper} (ho:op.op=.call {callee:=.builtin .append,args:=#[x,y],argTypes:=#[49,49]})
 (hx:a.eval x=.slice A n c) (hy:a.eval y=.slice A2 n2 c2) (h:∀A n c P w,BW X T suf P A n c w->K (a.put op.dst (.slice A n c)) w):Oper.wp Tryz.prog op a w K Q:=
 k.Vm (o:=o) ho hx hy fun A n c P w b _=>h A n c P w b
theorem BC.app (k:BC X T suf P A n c more A2 n2 c2 w) {ops:Array Oper} {rest:List Oper} {o:Oper} {a:Act} {Q:Exit->Act->World->Prop} (hgd:o.guard=none) (x y:Operand) (ho:o.op=.call {callee:=.builtin .append,args:=#[x,y],argTypes:=#[49,49]})
 (hx:a.eval x=.slice A n c) (hy:a.eval y=.slice A2 n2 c2) (h:∀A n c P w,BW X T suf P A n c w->wpList Tryz.prog ops Q rest (a.put o.dst (.slice A n c)) w):wpList Tryz.prog ops Q (o::rest) a w:=
 wpList_plain hgd fun _ hK=>k.wp (o:=x) ho hx hy fun A n c P w b=>hK _ _ (h A n c P w b)
structure BB (X:World) (T suf P:List UInt8) (A:Option Addr) (n c:Nat) (w:World) (g:Nat) (t:TypeId) (cs:Array Value):Prop where
 b:BW X T suf P A n c w
 d:t≠5
 k:aj w g t cs
structure BD (X:World) (T suf P:List UInt8) (A:Option Addr) (n c:Nat) (more:List UInt8) (A2:Option Addr) (n2 c2:Nat) (w:World) (g:Nat) (t:TypeId) (cs:Array Value):Prop where
 c:BC X T suf P A n c more A2 n2 c2 w
 d:t≠5
 k:aj w g t cs
variable {g:Nat} {t:TypeId} {cs:Array Value}
theorem BB.call (b:BB X T (more++suf) P A n c w g t cs) (H:more.length<=1000000000000->Calls Tryz.prog F vs w (cO w more)):
 Calls Tryz.prog F vs w (fun e w'=>∃A2 n2 c2,e=.returned (.slice A2 n2 c2)/\BD X T suf P A n c more A2 n2 c2 w' g t cs):=by
 refine(H (by have s:=b.b.s;rw[<-b.b.e,aK,aK]at s;omega)).mono ?_;rintro _ w1 ⟨A1,q1,rfl,-,-,ho,hb⟩;exact⟨A1,_,q1,rfl,⟨b.b.below hb,⟨_,ho⟩,rfl⟩,b.d,b.k.below hb b.k.lt⟩
theorem BD.app (k:BD X T suf P A n c more A2 n2 c2 w g t cs) {ops:Array Oper} {rest:List Oper} {o:Oper} {a:Act} {Q:Exit->Act->World->Prop} (hgd:o.guard=none) (x y:Operand) (ho:o.op=.call {callee:=.builtin .append,args:=#[x,y],argTypes:=#[49,49]})
 (hx:a.eval x=.slice A n c) (hy:a.eval y=.slice A2 n2 c2) (h:∀A n c P w,BB X T suf P A n c w g t cs->wpList Tryz.prog ops Q rest (a.put o.dst (.slice A n c)) w):wpList Tryz.prog ops Q (o::rest) a w:=
 wpList_plain hgd fun _ hK=>k.c.Vm (o:=x) ho hx hy fun A n c P w b q=>hK _ _ (h A n c P w ⟨b,k.d,q _ _ _ k.d k.k⟩)
end
theorem yB {α:Type} {f:α->List UInt8} {l:List α} {k:Nat} {a:α} (h:l[k]?=some a):(l.drop k).flatMap f=f a++(l.drop (k+1)).flatMap f:=by
 obtain⟨hk,e⟩:=List.getElem?_eq_some_iff.1 h;rw[List.drop_eq_getElem_cons hk,e,List.flatMap_cons]
theorem aj.rng {w:World} {g:Nat} {t:TypeId} {cs:Array Value} (h:aj w g t cs) (o:Nat) (xs:List Value) (e:(cs.toList.drop o).take xs.length=xs:=by rfl):w.rangeAt g o xs:=h.range o xs fun j u hj=>by
 have hlt:=(List.getElem?_eq_some_iff.1 hj).1;have h3:((cs.toList.drop o).take xs.length)[j]?=some u:=by rw[e];exact hj
 rw[List.getElem?_take_of_lt hlt,List.getElem?_drop,Array.getElem?_toList]at h3;exact h3
theorem BW.hb {X w:World} {T suf P:List UInt8} {A:Option Addr} {n c:Nat} (b:BW X T suf P A n c w):Below X.heap.size X w:=b.r.2
theorem BW.fin {X w:World} {T P:List UInt8} {A:Option Addr} {n c:Nat} (b:BW X T [] P A n c w):n=T.length/\P=T:=by
 have e:=b.e;rw[List.append_nil]at e;exact⟨by rw[<-b.l,e],e⟩
theorem BC.wu {X w:World} {T suf P more:List UInt8} {A A2:Option Addr} {n c n2 c2:Nat} (k:BC X T suf P A n c more A2 n2 c2 w) {ops:Array Oper} {o:Oper} {a:Act} {K:Act->World->Prop} {Q:Exit->Act->World->Prop} {E:Prop} (hgd:o.guard=none) (x y:Operand) (ho:o.op=.call {callee:=.builtin .append,args:=#[x,y],argTypes:=#[49,49]})
 (hx:a.eval x=.slice A n c) (hy:a.eval y=.slice A2 n2 c2) (h:∀A n c P w,BW X T suf P A n c w->K (a.put o.dst (.slice A n c)) w):if Region.wanted o (yielded ops a.tmps)=true then Oper.wp Tryz.prog o a w K Q else E:=by
 have hw:Region.wanted o (yielded ops a.tmps)=true:=by simp[Region.wanted,hgd]
 rw[if_pos hw];exact k.wp (o:=x) ho hx hy h
theorem xi (n:Int) (w:World) (h:bG n):Calls Tryz.prog 44 #[.int .i64 n] w (cO w (encI n)):=lQ n w (And.left h) (And.right h)
theorem JF (v:Vl) (w:World) (hok:v.ok) (hlen:(eY v).length<=1000000000000):Calls Tryz.prog 154 #[v.val] w (cO w (eY v)):=by
 have hM:=fun w'=>DX v w'
 cases hm:v.may
 · have he:eY v=encI 0:=(by unfold eY;rw[hm];rfl);rw[he];rw[hm]at hM;clear he hm hlen;have HX:Below w.heap.size w (w.alloc (.cells v.cells.toArray 59)):=aJ;go_enter Tryz.func154,Tryz.ntmps154;go_wp2_with ((with_reducible refine(hM _).mono ?_);rintro e w1 ⟨rfl,hb1⟩);have hB:=HX.trans (hb1.mono HX.size);go_ret;exact⟨some ⟨w1.heap.size,0,none⟩,1,rfl,Nat.le_refl _,by unfold maxLen;omega,zu (World.ownsRow_lit w1 #[.int .u8 0] 1 (Nat.le_refl _) dX rfl) hB.size,hB.alloc hB.size _⟩
 · rcases LK hm with hk|hk|hk
   · have he:eY v=encI 0:=(by unfold eY;rw[hm,hk];rfl);rw[he]at hlen ⊢;rw[hm]at hM;have hx:=hok.2.1;have hy:=hok.2.2;obtain⟨vk,vn,vt⟩:=v;change vk=0 at hk;subst hk;clear he hm hok;obtain⟨i0,hi0,hz0,hz1,hz2⟩:=oW oV;have HX:Below w.heap.size w (w.alloc (.cells #[.int .i64 0,.float .f64 vn,.string vt] 59)):=aJ;have HB:w.heap.size<((w.alloc (.cells #[.int .i64 0,.float .f64 vn,.string vt] 59))).heap.size:=aA;have C0:=cn HX 0;have C1:=cn HX 1;have C2:=cn HX 2;go_enter Tryz.func154,Tryz.ntmps154;have eK:(encI (0:Int)).length=1:=rfl;go_wp2_with fail;refine(hM _).mono ?_;rintro e w0 ⟨rfl,hb0⟩;have d0:=up C0 hb0 HB;have d1:=up C1 hb0 HB;have d2:=up C2 hb0 HB;go_wp2_with fail;refine(lQ 0 _ byOmega byOmega).mono ?_;rintro e w1 ⟨A1,q1,rfl,hq1,hm1,hown1,hb1⟩;have hrow1:kM (w.alloc (.cells #[.int .i64 0,.float .f64 vn,.string vt] 59)) (encI 0) (.slice A1 (encI 0).length q1) w1:=⟨zu hown1 hb0.size,hb0.trans (hb1.mono hb0.size)⟩;have Jz:=up C0 hrow1.2 HB;have JA:=up C1 hrow1.2 HB;have JB:=up C2 hrow1.2 HB;go_wp2;have HP:=cO.down HX hrow1.post;go_ret;exact HP
   · have he:eY v=encI 1++dK v.n:=(by unfold eY;rw[hm,hk];rfl);rw[he]at hlen ⊢;rw[hm]at hM;have hx:=hok.2.1;have hy:=hok.2.2;obtain⟨vk,vn,vt⟩:=v;change vk=1 at hk;subst hk;clear he hm hok;obtain⟨i0,hi0,hz0,hz1,hz2⟩:=oW oV;have HX:Below w.heap.size w (w.alloc (.cells #[.int .i64 1,.float .f64 vn,.string vt] 59)):=aJ;have HB:w.heap.size<((w.alloc (.cells #[.int .i64 1,.float .f64 vn,.string vt] 59))).heap.size:=aA;have C0:=cn HX 0;have C1:=cn HX 1;have C2:=cn HX 2;go_enter Tryz.func154,Tryz.ntmps154;have eK:(encI (1:Int)).length=1:=rfl;simp only[aK]at hlen;go_wp2_with fail;refine(hM _).mono ?_;rintro e w0 ⟨rfl,hb0⟩;have d0:=up C0 hb0 HB;have d1:=up C1 hb0 HB;have d2:=up C2 hb0 HB;go_wp2_with fail;refine(lQ 1 _ byOmega byOmega).mono ?_;rintro e w1 ⟨A1,q1,rfl,hq1,hm1,hown1,hb1⟩;have hrow1:kM (w.alloc (.cells #[.int .i64 1,.float .f64 vn,.string vt] 59)) (encI 1) (.slice A1 (encI 1).length q1) w1:=⟨zu hown1 hb0.size,hb0.trans (hb1.mono hb0.size)⟩;have Jz:=up C0 hrow1.2 HB;have JA:=up C1 hrow1.2 HB;have JB:=up C2 hrow1.2 HB;have e8:(dK vn).length=8:=xP 8 _;go_wp2_with fail;refine(Jy vn _ hx).mono ?_;rintro e w2 ⟨A2,q2,rfl,hq2,hm2,hown2,hb2⟩;have hrow2:=hrow1.below hb2;have xq:(encI 1).length+(dK vn).length<=maxLen:=(by unfold maxLen;omega);have z2b:((encI 1).length+(dK vn).length)*1<=140737488355328:=byOmega;go_wp2_with (at_builtin;refine iI _ rfl _ _ _ rfl ((w.alloc (.cells #[.int .i64 1,.float .f64 vn,.string vt] 59))).heap.size 5 i0 _ 1 1 Tryz.underlying49 hi0 hz0 hz1 hz2 rfl byOmega (.slice A1 (encI 1).length q1) _ (bytesV (encI 1)) aI hrow2.1 w2.heap.size A2 (dK vn).length q2 (bytesV (dK vn)) aI (Reads.kK hown2) (mY _) xq z2b hrow2.2.size ?_;intro v2' w2' qU qV xu;have hr2:=hrow2.push aC qU qV;obtain⟨P2,HP2,vw⟩:=named (encI 1) (dK vn);rw[<-HP2.out]at hr2;obtain⟨pz,q2',rfl,Et,Eu⟩:=fP hr2.1;have GI:=up C0 hr2.2 HB;have JC:=up C1 hr2.2 HB;have JD:=up C2 hr2.2 HB);clear xq z2b qU qV xu hrow2 hown2 hb2;go_wp2;have HP:=cO.down HX hr2.post;have HQ:encI 1++dK vn=P2:=(by rw[HP2.out]);go_ret;rw[HQ];exact HP
   · have he:eY v=encI 2++bn v.t:=(by unfold eY;rw[hm,hk];rfl);rw[he]at hlen ⊢;rw[hm]at hM;have hx:=hok.2.1;have hy:=hok.2.2;obtain⟨vk,vn,vt⟩:=v;change vk=2 at hk;subst hk;clear he hm hok;obtain⟨i0,hi0,hz0,hz1,hz2⟩:=oW oV;have HX:Below w.heap.size w (w.alloc (.cells #[.int .i64 2,.float .f64 vn,.string vt] 59)):=aJ;have HB:w.heap.size<((w.alloc (.cells #[.int .i64 2,.float .f64 vn,.string vt] 59))).heap.size:=aA;have C0:=cn HX 0;have C1:=cn HX 1;have C2:=cn HX 2;go_enter Tryz.func154,Tryz.ntmps154;have eK:(encI (2:Int)).length=1:=rfl;simp only[aK]at hlen;go_wp2_with fail;refine(hM _).mono ?_;rintro e w0 ⟨rfl,hb0⟩;have d0:=up C0 hb0 HB;have d1:=up C1 hb0 HB;have d2:=up C2 hb0 HB;go_wp2_with fail;refine(lQ 2 _ byOmega byOmega).mono ?_;rintro e w1 ⟨A1,q1,rfl,hq1,hm1,hown1,hb1⟩;have hrow1:kM (w.alloc (.cells #[.int .i64 2,.float .f64 vn,.string vt] 59)) (encI 2) (.slice A1 (encI 2).length q1) w1:=⟨zu hown1 hb0.size,hb0.trans (hb1.mono hb0.size)⟩;have Jz:=up C0 hrow1.2 HB;have JA:=up C1 hrow1.2 HB;have JB:=up C2 hrow1.2 HB;have e8:vt.size<=(bn vt).length:=(by {have e:vt.size=vt.data.toList.length:=(Array.length_toList (xs:=vt.data)).symm;unfold bn jX;rw[aK];omega});go_wp2_with fail;refine(CQ vt _ byOmega).mono ?_;rintro e w2 ⟨A2,q2,rfl,hq2,hm2,hown2,hb2⟩;have hrow2:=hrow1.below hb2;have xq:(encI 2).length+(bn vt).length<=maxLen:=(by unfold maxLen;omega);have z2b:((encI 2).length+(bn vt).length)*1<=140737488355328:=byOmega;go_wp2_with (at_builtin;refine iI _ rfl _ _ _ rfl ((w.alloc (.cells #[.int .i64 2,.float .f64 vn,.string vt] 59))).heap.size 5 i0 _ 1 1 Tryz.underlying49 hi0 hz0 hz1 hz2 rfl byOmega (.slice A1 (encI 2).length q1) _ (bytesV (encI 2)) aI hrow2.1 w2.heap.size A2 (bn vt).length q2 (bytesV (bn vt)) aI (Reads.kK hown2) (mY _) xq z2b hrow2.2.size ?_;intro v2' w2' qU qV xu;have hr2:=hrow2.push aC qU qV;obtain⟨P2,HP2,vw⟩:=named (encI 2) (bn vt);rw[<-HP2.out]at hr2;obtain⟨pz,q2',rfl,Et,Eu⟩:=fP hr2.1;have GI:=up C0 hr2.2 HB;have JC:=up C1 hr2.2 HB;have JD:=up C2 hr2.2 HB);clear xq z2b qU qV xu hrow2 hown2 hb2;go_wp2;have HP:=cO.down HX hr2.post;have HQ:encI 2++bn vt=P2:=(by rw[HP2.out]);go_ret;rw[HQ];exact HP
theorem Oj (A:Option Addr) (n c:Nat) (l:List ByteArray) (w:World) (h:Sl aO 1 w w.heap.size A n l) (hn:n<=maxLen) (hlen:(aH bn l).length<=1000000000000):
 Calls Tryz.prog 147 #[.slice A n c] w (cO w (aH bn l)):=by
 unfold maxLen at hn;have hln:l.length=n:=h.1;have hle:l.length<=n:=byOmega;have hge:n<=l.length:=byOmega;have e0:encI (n:Int)++l.flatMap bn=aH bn l:=by unfold aH;rw[hln]
 generalize aH bn l=T at*;clear hln;go_enter Tryz.func147,Tryz.ntmps147;go_wp2_with fail;refine(BW.fst (Below.refl w.heap.size w) e0 hlen fun _=>lQ (n:Int) _ byOmega byOmega).mono ?_;rintro e w1 ⟨A0,m0,c0,P0,rfl,b0⟩;clear e0 hlen;go_wp2_with fail
 go_loopw [3,4] (fun out i wr=>∃(k:Nat) (A0:Option Addr) (m0 c0:Nat) (P0:List UInt8),k<=n/\i=.int .i64 (k:Int)/\out=.slice A0 m0 c0/\BW w T ((l.drop k).flatMap bn) P0 A0 m0 c0 wr) (fun _ i _=>n-(intOf i).toNat)
 case atStart=>exact⟨0,A0,m0,c0,P0,byOmega,rfl,rfl,b0⟩
 case round=>
  clear b0;obtain⟨k,A0,m0,c0,P0,hk,rfl,rfl,b⟩:=hrel;by_cases hlt:k<n
  · obtain⟨ad,a,rfl,hl,hbk,hok,C0⟩:=h.ky hlt;have hd1:decide ((k:Int)<(n:Int))=true:=ay;have hk0:(0:Int)<=(k:Int):=byOmega;have hk1:(k:Int)<(n:Int):=byOmega;replace b:=b.as (qC:=bn a++(l.drop (k+1)).flatMap bn) (by rw[yB hl]);clear hl;have x0:=(b.r.2.cell (p:=(ad.add k)) hbk).trans C0;go_wp2_with fail;refine(b.call fun hl=>CQ a _ (by have e:a.size=a.data.toList.length:=(Array.length_toList (xs:=a.data)).symm;unfold bn jX at hl;rw[aK]at hl;omega)).mono ?_;rintro e w2 ⟨A5,n5,c5,rfl,b2⟩;go_wp2_with (at_builtin;refine b2.app rfl _ _ rfl rfl rfl ?_;intro A0 m0 c0 P0 w3 b);clear b2;go_roundw
    case rel=>exact⟨k+1,_,_,_,_,byOmega,by go_num,rfl,b⟩
    case measure=>simp[intOf];omega
  · have hd1:decide ((k:Int)<(n:Int))=false:=ay;go_wp2_with fail;go_ret;rw[bF byOmega]at b;exact b.post
theorem Ol (A:Option Addr) (n c:Nat) (l:List Int) (w:World) (h:Sl bK 1 w w.heap.size A n l) (hn:n<=maxLen) (hlen:(aH encI l).length<=1000000000000):
 Calls Tryz.prog 150 #[.slice A n c] w (cO w (aH encI l)):=by
 unfold maxLen at hn;have hln:l.length=n:=h.1;have hle:l.length<=n:=byOmega;have hge:n<=l.length:=byOmega;have e0:encI (n:Int)++l.flatMap encI=aH encI l:=by unfold aH;rw[hln]
 generalize aH encI l=T at*;clear hln;go_enter Tryz.func150,Tryz.ntmps150;go_wp2_with fail;refine(BW.fst (Below.refl w.heap.size w) e0 hlen fun _=>lQ (n:Int) _ byOmega byOmega).mono ?_;rintro e w1 ⟨A0,m0,c0,P0,rfl,b0⟩;clear e0 hlen;go_wp2_with fail
 go_loopw [3,4] (fun out i wr=>∃(k:Nat) (A0:Option Addr) (m0 c0:Nat) (P0:List UInt8),k<=n/\i=.int .i64 (k:Int)/\out=.slice A0 m0 c0/\BW w T ((l.drop k).flatMap encI) P0 A0 m0 c0 wr) (fun _ i _=>n-(intOf i).toNat)
 case atStart=>exact⟨0,A0,m0,c0,P0,byOmega,rfl,rfl,b0⟩
 case round=>
  clear b0;obtain⟨k,A0,m0,c0,P0,hk,rfl,rfl,b⟩:=hrel;by_cases hlt:k<n
  · obtain⟨ad,a,rfl,hl,hbk,hok,C0⟩:=h.nm hlt;have hd1:decide ((k:Int)<(n:Int))=true:=ay;have hk0:(0:Int)<=(k:Int):=byOmega;have hk1:(k:Int)<(n:Int):=byOmega;replace b:=b.as (qC:=encI a++(l.drop (k+1)).flatMap encI) (by rw[yB hl]);clear hl;have x0:=(b.r.2.cell (p:=(ad.add k)) hbk).trans C0;go_wp2_with fail;refine(b.call fun hl=>xi a _ hok).mono ?_;rintro e w2 ⟨A5,n5,c5,rfl,b2⟩;go_wp2_with (at_builtin;refine b2.app rfl _ _ rfl rfl rfl ?_;intro A0 m0 c0 P0 w3 b);clear b2;go_roundw
    case rel=>exact⟨k+1,_,_,_,_,byOmega,by go_num,rfl,b⟩
    case measure=>simp[intOf];omega
  · have hd1:decide ((k:Int)<(n:Int))=false:=ay;go_wp2_with fail;go_ret;rw[bF byOmega]at b;exact b.post
theorem GL (A:Option Addr) (n c:Nat) (l:List Wt) (w:World) (h:Sl aF 4 w w.heap.size A n l) (hn:n<=maxLen) (hlen:(aH bP l).length<=1000000000000):
 Calls Tryz.prog 96 #[.slice A n c] w (cO w (aH bP l)):=by
 unfold maxLen at hn;have hln:l.length=n:=h.1;have hle:l.length<=n:=byOmega;have hge:n<=l.length:=byOmega;have e0:encI (n:Int)++l.flatMap bP=aH bP l:=by unfold aH;rw[hln]
 generalize aH bP l=T at*;clear hln;go_enter Tryz.func96,Tryz.ntmps96;go_wp2_with fail;refine(BW.fst (Below.refl w.heap.size w) e0 hlen fun _=>lQ (n:Int) _ byOmega byOmega).mono ?_;rintro e w1 ⟨A0,m0,c0,P0,rfl,b0⟩;clear e0 hlen;go_wp2_with fail
 go_loopw [3,4] (fun out i wr=>∃(k:Nat) (A0:Option Addr) (m0 c0:Nat) (P0:List UInt8),k<=n/\i=.int .i64 (k:Int)/\out=.slice A0 m0 c0/\BW w T ((l.drop k).flatMap bP) P0 A0 m0 c0 wr) (fun _ i _=>n-(intOf i).toNat)
 case atStart=>exact⟨0,A0,m0,c0,P0,byOmega,rfl,rfl,b0⟩
 case round=>
  clear b0;obtain⟨k,A0,m0,c0,P0,hk,rfl,rfl,b⟩:=hrel;by_cases hlt:k<n
  · obtain⟨ad,a,rfl,hl,hbk,hok,C0,C1,C2,C3⟩:=h.wt hlt;have hd1:decide ((k:Int)<(n:Int))=true:=ay;have hk0:(0:Int)<=(k:Int):=byOmega;have hk1:(k:Int)<(n:Int):=byOmega;replace b:=b.as (qC:=bn a.key++(eY a.v++(l.drop (k+1)).flatMap bP)) (by rw[yB hl];simp only[bP,List.append_assoc]);clear hl;have x0:=(b.r.2.cell (p:=(ad.add (k*4))) hbk).trans C0;go_wp2_with fail;refine(b.call fun hl=>CQ a.key _ (by have e:a.key.size=a.key.data.toList.length:=(Array.length_toList (xs:=a.key.data)).symm;unfold bn jX at hl;rw[aK]at hl;omega)).mono ?_;rintro e w2 ⟨A5,n5,c5,rfl,b2⟩;go_wp2_with (at_builtin;refine b2.app rfl _ _ rfl rfl rfl ?_;intro A0 m0 c0 P0 w3 b;have x1:=(b.r.2.cell (p:=⟨(ad.add (k*4)).block,(ad.add (k*4)).off+1,none⟩) hbk).trans C1;have x2:=(b.r.2.cell (p:=⟨(ad.add (k*4)).block,(ad.add (k*4)).off+2,none⟩) hbk).trans C2;have x3:=(b.r.2.cell (p:=⟨(ad.add (k*4)).block,(ad.add (k*4)).off+3,none⟩) hbk).trans C3);clear b2 x0;go_wp2_with fail;refine(b.call fun hl=>JF a.v _ hok.2 hl).mono ?_;rintro e w4 ⟨A5,n5,c5,rfl,b2⟩;go_wp2_with (at_builtin;refine b2.app rfl _ _ rfl rfl rfl ?_;intro A0 m0 c0 P0 w5 b);clear b2;go_roundw
    case rel=>exact⟨k+1,_,_,_,_,byOmega,by go_num,rfl,b⟩
    case measure=>simp[intOf];omega
  · have hd1:decide ((k:Int)<(n:Int))=false:=ay;go_wp2_with fail;go_ret;rw[bF byOmega]at b;exact b.post
theorem afu (A:Option Addr) (n c:Nat) (l:List Wt) (w:World) (h:Sl aF 4 w w.heap.size A n l) (hn:n<=maxLen) (hlen:(aH bP l).length<=1000000000000):
 Calls Tryz.prog 175 #[.slice A n c] w (cO w (aH bP l)):=by
 unfold maxLen at hn;have hln:l.length=n:=h.1;have hle:l.length<=n:=byOmega;have hge:n<=l.length:=byOmega;have e0:encI (n:Int)++l.flatMap bP=aH bP l:=by unfold aH;rw[hln]
 generalize aH bP l=T at*;clear hln;go_enter Tryz.func175,Tryz.ntmps175;go_wp2_with fail;refine(BW.fst (Below.refl w.heap.size w) e0 hlen fun _=>lQ (n:Int) _ byOmega byOmega).mono ?_;rintro e w1 ⟨A0,m0,c0,P0,rfl,b0⟩;clear e0 hlen;go_wp2_with fail
 go_loopw [3,4] (fun out i wr=>∃(k:Nat) (A0:Option Addr) (m0 c0:Nat) (P0:List UInt8),k<=n/\i=.int .i64 (k:Int)/\out=.slice A0 m0 c0/\BW w T ((l.drop k).flatMap bP) P0 A0 m0 c0 wr) (fun _ i _=>n-(intOf i).toNat)
 case atStart=>exact⟨0,A0,m0,c0,P0,byOmega,rfl,rfl,b0⟩
 case round=>
  clear b0;obtain⟨k,A0,m0,c0,P0,hk,rfl,rfl,b⟩:=hrel;by_cases hlt:k<n
  · obtain⟨ad,a,rfl,hl,hbk,hok,C0,C1,C2,C3⟩:=h.wt hlt;have hd1:decide ((k:Int)<(n:Int))=true:=ay;have hk0:(0:Int)<=(k:Int):=byOmega;have hk1:(k:Int)<(n:Int):=byOmega;replace b:=b.as (qC:=bn a.key++(eY a.v++(l.drop (k+1)).flatMap bP)) (by rw[yB hl];simp only[bP,List.append_assoc]);clear hl;have x0:=(b.r.2.cell (p:=(ad.add (k*4))) hbk).trans C0;go_wp2_with fail;refine(b.call fun hl=>CQ a.key _ (by have e:a.key.size=a.key.data.toList.length:=(Array.length_toList (xs:=a.key.data)).symm;unfold bn jX at hl;rw[aK]at hl;omega)).mono ?_;rintro e w2 ⟨A5,n5,c5,rfl,b2⟩;go_wp2_with (at_builtin;refine b2.app rfl _ _ rfl rfl rfl ?_;intro A0 m0 c0 P0 w3 b;have x1:=(b.r.2.cell (p:=⟨(ad.add (k*4)).block,(ad.add (k*4)).off+1,none⟩) hbk).trans C1;have x2:=(b.r.2.cell (p:=⟨(ad.add (k*4)).block,(ad.add (k*4)).off+2,none⟩) hbk).trans C2;have x3:=(b.r.2.cell (p:=⟨(ad.add (k*4)).block,(ad.add (k*4)).off+3,none⟩) hbk).trans C3);clear b2 x0;go_wp2_with fail;refine(b.call fun hl=>JF a.v _ hok.2 hl).mono ?_;rintro e w4 ⟨A5,n5,c5,rfl,b2⟩;go_wp2_with (at_builtin;refine b2.app rfl _ _ rfl rfl rfl ?_;intro A0 m0 c0 P0 w5 b);clear b2;go_roundw
    case rel=>exact⟨k+1,_,_,_,_,byOmega,by go_num,rfl,b⟩
    case measure=>simp[intOf];omega
  · have hd1:decide ((k:Int)<(n:Int))=false:=ay;go_wp2_with fail;go_ret;rw[bF byOmega]at b;exact b.post
end Go.Proofs.YtcalkfgibflbnaaGreat
namespace Go.Proofs.YtcalkfgibflbnaaGreat
set_option linter.unusedVariables false
open Go.RowKit Fl
theorem Sl.mem {α:Type} {R:Rel α} {size:Nat} {w:World} {B n:Nat} {A:Option Addr} {l:List α} (h:Sl R size w B A n l) {a:α} (ha:a∈l):∃cs,R w B cs a:=by
 obtain⟨i,hi⟩:=List.mem_iff_getElem?.1 ha;obtain⟨ad,cs,_,_,_,_,hr⟩:=h.2 i a hi;exact⟨cs,hr⟩
theorem Vo (s:ByteArray):s.data.toList.length=s.size:=Array.length_toList (xs:=s.data)
theorem Ew {s:ByteArray} (h:s.size<=140737488351232):((bn s).length:Int)<=10*lu s:=by
 have h1:=Vo s;have h2:=iE (n:=(s.data.toList.length:Int)) byOmega byOmega;unfold bn jX lu;rw[aK];omega
theorem Om {v:Vl} (h:v.ok):((eY v).length:Int)<=20+(v.t.size:Int):=by
 have hv:=h.2.2;have e1:∀k:Int,k=0∨k=1∨k=2->(encI k).length=1:=by rintro k (rfl|rfl|rfl)<;>rfl
 have h1:=Vo v.t;have h2:=iE (n:=(v.t.data.toList.length:Int)) byOmega byOmega;have h8:(dK v.n).length=8:=xP 8 _;unfold eY;split
 · split
   · rw[aK,e1 1 byOmega,h8];omega
   · split
     · rw[aK,e1 2 byOmega];unfold bn jX;rw[aK];omega
     · rw[e1 0 byOmega];omega
 · rw[e1 0 byOmega];omega
theorem JG {a:Wt} (h:a.ok):((bP a).length:Int)<=30*iT a:=by
 have h1:=Ew h.1;have h2:=Om h.2;unfold lu at h1;unfold bP iT;rw[aK];omega
theorem zI {s:Sp} (ok:s.ok):((aU s).length:Int)<=30:=by
 have h1:=iE ok.1.1 ok.1.2;have h2:=iE ok.2.1.1 ok.2.1.2;have h3:=iE ok.2.2.1 ok.2.2.2;unfold aU;rw[aK,aK];omega
theorem Oo {s:Tx} (ok:s.ok):((eP s).length:Int)<=30:=by
 have h1:=iE ok.1.1 ok.1.2;have h2:=iE ok.2.1.1 ok.2.1.2;have h3:=iE ok.2.2.1 ok.2.2.2;unfold eP;rw[aK,aK];omega
theorem afv {a:Vn} (h:a.ok):((kE a).length:Int)<=50*uX a:=by
 have h1:=zI h.1;have h2:=Om h.2;unfold kE uX;rw[aK];omega
theorem xw {n:Nat} (h:n<=1000000000):((encI (n:Int)).length:Int)<=10:=by
 have:=iE (n:=(n:Int)) byOmega byOmega;omega
theorem afw {w:World} {B:Nat} {cs:List Value} {h:Hs} (hr:aQ w B cs h) (hl:h.vs.length<=1000000000):((iQ h).length:Int)<=50*qw h:=by
 obtain⟨v,rfl,hk,A,n,c,rfl,_,_,hS⟩:=hr;have h1:=Ew hk;have h2:=sZ kE uX 50 h.vs fun a ha=>by obtain⟨_,_,hok⟩:=hS.mem ha;exact afv hok
 have h3:=xw hl;unfold lu at h1;unfold iQ aH qw;rw[aK,aK];omega
theorem afx {w:World} {B:Nat} {cs:List Value} {p:Pn} (hr:aP w B cs p) (hl:p.r.length<=1000000000) (hl2:p.w.length<=1000000000):((fH p).length:Int)<=80*qx p:=by
 obtain⟨v,q,rfl,ht,hs,⟨A,n,c,rfl,_,_,hS⟩,A2,n2,c2,rfl,_,_,hS2⟩:=hr;have h1:=Oo ht;have h2:=zI hs;have h3:=sZ bn lu 10 p.r fun a ha=>by obtain⟨_,_,hok⟩:=hS.mem ha;exact Ew hok
 have h4:=sZ bP iT 30 p.w fun a ha=>by obtain⟨_,_,hok⟩:=hS2.mem ha;exact JG hok
 have h5:=xw hl;have h6:=xw hl2;have h7:=nD lu Ed p.r;have h8:=nD iT Aj p.w;unfold fH aH qx;rw[aK,aK,aK,aK,aK];omega
theorem Vp {w:World} {s:dP} {A1 A2:Option Addr} {n1 n2:Nat} (hr:s.r.ok) (hf:s.f.ok) (hc:s.c.ok) (h1:Sl aQ 2 w w.heap.size A1 n1 s.h) (h2:Sl aP 8 w w.heap.size A2 n2 s.p) (h:pI 20000 s<=20000):
 ((oC s).length:Int)<=200+80*((s.h.map qw).sum+(s.p.map qx).sum)/\tY s.h/\uK s.p:=by
 have hg:=Nu byOmega s h;have hsm:=UN byOmega byOmega h;have k1:=nD qw Je s.h;have k2:=nD qx Jf s.p;have l1:=Am qw (fun a=>by unfold qw;have:=nD uX Jd a.vs;omega) s.h;have l2:=Am qx (fun a=>by unfold qx;have:=nD lu Ed a.r;have:=nD iT Aj a.w;omega) s.p;have f1:=sZ iQ qw 50 s.h fun a ha=>by
  obtain⟨_,hok⟩:=h1.mem ha;refine afw hok ?_;have m1:=Un qw Je ha;have m2:=Am uX (fun a=>by unfold uX;omega) a.vs;have m0:qw a=1+(a.key.size:Int)+(a.vs.map uX).sum:=rfl;omega
 have f2:=sZ fH qx 80 s.p fun a ha=>by
  obtain⟨_,hok⟩:=h2.mem ha;have m1:=Un qx Jf ha;have m2:=Am lu (fun a=>by unfold lu;omega) a.r;have m3:=Am iT (fun a=>by unfold iT;omega) a.w;have m4:=nD lu Ed a.r;have m5:=nD iT Aj a.w;have m0:qx a=1+(a.r.map lu).sum+(a.w.map iT).sum:=rfl;exact afx hok byOmega byOmega
 have e1:=iE hr.1.1 hr.1.2;have e2:=iE hr.2.1.1 hr.2.1.2;have e3:(dK s.r.lo).length=8:=xP 8 _;have e4:(dK s.r.hi).length=8:=xP 8 _;have e5:=zI hf;have e6:=zI hc;have e7:=xw (n:=s.h.length) byOmega;have e8:=xw (n:=s.p.length) byOmega;refine⟨?_,hsm⟩;unfold oC dU aH;simp only[aK];omega
theorem afy {w:World} {r:Rc} {h:aV} (ok:r.ok) (i:dO w r h) (hw:qM 20000 r<=20000):iR r h/\(bC r).length<=6000000:=by
 obtain⟨hg,hS⟩:=adJ byOmega r hw;obtain⟨hSt,Rx,afz⟩:=Vp ok.rg ok.fl ok.cl i.hs i.pn hS;have k1:=nD qw Je r.st.h;have k2:=nD qx Jf r.st.p;have k3:=nD lu Ed r.rd;have k4:=nD iT Aj r.wr;have k5:=nD iT Aj r.pr;have l3:=Am lu (fun a=>by unfold lu;omega) r.rd;have l4:=Am iT (fun a=>by unfold iT;omega) r.wr;have l5:=Am iT (fun a=>by unfold iT;omega) r.pr;have f3:=sZ bn lu 10 r.rd fun a ha=>by obtain⟨_,_,hok⟩:=i.rd.mem ha;exact Ew hok
 have f4:=sZ bP iT 30 r.wr fun a ha=>by obtain⟨_,_,hok⟩:=i.wr.mem ha;exact JG hok
 have f5:=sZ bP iT 30 r.pr fun a ha=>by obtain⟨_,_,hok⟩:=i.pr.mem ha;exact JG hok
 have f6:=sZ encI (fun _=>1) 10 r.ps fun a ha=>by
  obtain⟨_,_,hok⟩:=i.ps.mem ha;have:=iE hok.1 hok.2;omega
 have s6:∀l:List Int,(l.map fun _=>(1:Int)).sum=(l.length:Int):=by
  intro l
  induction l with
  |nil=>rfl
  |cons a l ih=>simp only[List.map_cons,List.sum_cons,List.length_cons,ih];omega
 rw[s6]at f6;have g1:=xw (n:=r.rd.length) byOmega;have g2:=xw (n:=r.wr.length) byOmega;have g3:=xw (n:=r.ps.length) byOmega;have g4:=xw (n:=r.pr.length) byOmega;have e1:=iE ok.k.1 ok.k.2;have e2:=iE ok.n.1 ok.n.2;have e3:(dK r.pt).length=8:=xP 8 _;have e4:=zI ok.s;have e5:=zI ok.pv;have e6:=Oo ok.t;have e7:(qF r.cm).length=1:=rfl;refine⟨⟨by rw[<-i.rd.1];omega,by rw[<-i.wr.1];omega,by rw[<-i.ps.1];omega,by rw[<-i.pr.1];omega,Rx,afz⟩,?_⟩;have hB:(gu r).length<=1900000:=by
  unfold gu fH aH;by_cases c1:r.k=1
  · rw[if_pos c1];omega
  rw[if_neg c1];by_cases c2:r.k=2
  · rw[if_pos c2];omega
  rw[if_neg c2];by_cases c3:r.k=3
  · rw[if_pos c3];simp only[aK];omega
  rw[if_neg c3];by_cases c4:r.k=4
  · rw[if_pos c4];simp only[aK];omega
  rw[if_neg c4];by_cases c5:r.k=5
  · rw[if_pos c5];omega
  rw[if_neg c5];by_cases c6:r.k=6
  · rw[if_pos c6];simp only[aK];omega
  rw[if_neg c6];by_cases c7:r.k=7
  · rw[if_pos c7];omega
  rw[if_neg c7];by_cases c8:r.k=8
  · rw[if_pos c8];omega
  rw[if_neg c8];by_cases c9:r.k=9
  · rw[if_pos c9];simp only[aK];omega
  rw[if_neg c9];by_cases c10:r.k=10
  · rw[if_pos c10];omega
  rw[if_neg c10];by_cases c11:r.k=11
  · rw[if_pos c11];simp only[aK];omega
  rw[if_neg c11];by_cases c12:r.k=12
  · rw[if_pos c12];simp only[aK];omega
  rw[if_neg c12];simp
 unfold bC;rw[aK];omega
end Go.Proofs.YtcalkfgibflbnaaGreat
namespace Go.Proofs.YtcalkfgibflbnaaGreat
set_option linter.unusedVariables false
open Go.RowKit Fl
attribute [local go_sem] dJ
theorem Sl.GN {w:World} {B n:Nat} {A:Option Addr} {l:List Rc} (h:Sl eX 29 w B A n l) {k:Nat} (hk:k<n):∃(ad:Addr) (r:Rc) (g:aV) (b o:Nat),A=some ad/\l[k]?=some r/\ad.add (k*29)=⟨b,o,none⟩/\b<B/\w.rangeAt b o (r.vals g).toList/\r.ok/\g.caps/\fZ w B r g:=by
 obtain⟨ad,r,g,e,hl,hb,hc,ok,cp,i⟩:=h.rm hk;have c0:w.cell? (ad.add (k*29))=some (.int .i64 r.k):=hc 0 _ rfl;generalize hq:ad.add (k*29)=q at*;obtain⟨b,o,sp⟩:=q;cases sp with
 |some s=>
  unfold World.cell? at c0;cases h5:w.heap[b]? with
  |none=>simp[h5]at c0
  |some x=>cases x<;>simp[h5]at c0
 |none=>
  exact⟨ad,r,g,b,o,e,hl,hq,hb,fun j u hj=>by have:=hc j u hj;rwa [Addr.add_mid]at this,ok,cp,i⟩
structure jo (r:Rc):Prop where
 a:r.rd.length<=5000000
 b:r.wr.length<=5000000
 c:r.ps.length<=5000000
 d:r.pr.length<=5000000
 h:tY r.st.h
 p:uK r.st.p
 e:(bC r).length<=6000000
theorem fZ.into {w:World} {r:Rc} {h:aV} (i:fZ w w.heap.size r h):dO w r h:=⟨i.rd,i.wr,i.ps,i.pr,i.hs,i.pn,i.na,i.nb,i.nc,i.nd,i.ne,i.nf⟩
theorem jo.sm {w:World} {B:Nat} {r:Rc} {h:aV} (p:jo r) (i:fZ w B r h):iR r h:=by
 have h1:=i.rd.1;have h2:=i.wr.1;have h3:=i.ps.1;have h4:=i.pr.1;exact⟨by have:=p.a;omega,by have:=p.b;omega,by have:=p.c;omega,by have:=p.d;omega,p.h,p.p⟩
def uF (l:List Rc):Bool:=(l.all fun r=>gU r==0)&&decide ((l.length:Int)<=8)
def Vq (l:List Rc) (w:World) (i:Value) (wr:World):Prop:=∃k:Nat,k<=l.length/\i=.int .i64 (k:Int)/\((l.drop k).all fun r=>gU r==0)=(l.all fun r=>gU r==0)/\Below w.heap.size w wr
set_option maxRecDepth 100000 in
set_option maxHeartbeats 4000000 in
theorem afA (A:Option Addr) (n c:Nat) (l:List Rc) (w:World) (h:Sl eX 29 w w.heap.size A n l) (hn:n<=5000000) (hw:∀r∈l,jo r):
 Calls Tryz.prog 61 #[.slice A n c] w fun e w'=>e=.returned (.bool (uF l))/\Below w.heap.size w w':=by
 have hl:=h.1;have hge:n<=l.length:=byOmega;have HW:=au hw;clear hw;go_enter Tryz.func61,Tryz.ntmps61;go_wp2
 go_loopw [9] (fun i wr=>Vq l w i wr) (fun i _=>n-(intOf i).toNat)
 case atStart=>exact⟨0,byOmega,rfl,rfl,aC⟩
 case round=>
  obtain⟨k,hk,rfl,hs,hb⟩:=hrel;have hzz:=hb.size;by_cases hlt:k<n
  · obtain⟨ad,r,g,b,o,rfl,ha,hq,hbb,hrg,ok,cp,i⟩:=((h.below eX.kept hb).more eX.kept hb.size).GN hlt;have hd1:decide ((k:Int)<(n:Int))=true:=ay;have hk0:(0:Int)<=(k:Int):=byOmega;have hk1:(k:Int)<(n:Int):=byOmega;have pl:=HW.out r (List.mem_of_getElem? ha);have hE:=fun w' (hb:Below wr.heap.size wr w')=>Nq r g w' ok (i.into.below hb) cp (pl.sm i) (by have:=pl.e;omega)
    rw[rZ ha]at hs;have hX:Below wr.heap.size wr (wr.alloc (.cells (r.vals g) 69)):=aJ;have bR:=aj.new wr 69 (r.vals g);clear ha i hl pl;go_upto_region 4 with (first
        |(guard_target=~ wpList _ _ _ _ _ _;refine wpList_load_mid rfl 69 _ rfl b o ah (r.vals g).toList _ hrg rfl rfl ah ?_)
        |(guard_target=~ wpList _ _ _ _ _ _;refine xO rfl 69 _ _ rfl _ rfl rfl _ _ ah ah ah ?_))
    have HB:=au (show gU r≠0->uF l=false by
        intro hz;unfold uF;rw[<-hs,show (gU r==0)=false from by simp[hz]];rfl)
    have HS:=au (show gU r=0->((l.drop (k+1)).all fun r=>gU r==0)=(l.all fun r=>gU r==0) by
        intro hz;rw[<-hs,hz];rfl)
    clear hs;generalize hz:gU r=z at*;clear hz;by_cases hz:z=0
    · subst hz;go_wp2_with (first
       |(guard_target=~ wpList _ _ _ _ _ _;refine wpList_load_row rfl 69 _ rfl wr.heap.size ah _ _ (0,0) _ bR rfl rfl ah ?_)
       |((with_reducible refine(hE _ hX).mono ?_);rintro e w5 ⟨A5,c5,rfl,q5,m5,o5,hb5⟩))
      go_roundw
      case rel=>exact⟨k+1,byOmega,by go_num,HS.out (by trivial),hb.trans ((hX.trans (hb5.mono hX.size)).mono hzz)⟩
      case measure=>simp[intOf];omega
    · have hz1:(z !=0)=true:=(by simp[hz]);go_wp2_with (first
       |(guard_target=~ wpList _ _ _ _ _ _;refine wpList_load_row rfl 69 _ rfl wr.heap.size ah _ _ (0,0) _ bR rfl rfl ah ?_)
       |((with_reducible refine(hE _ hX).mono ?_);rintro e w5 ⟨A5,c5,rfl,q5,m5,o5,hb5⟩))
      go_ret;rw[HB.out hz];exact⟨rfl,hb.trans ((hX.trans (hb5.mono hX.size)).mono hzz)⟩
  · have hd1:decide ((k:Int)<(n:Int))=false:=ay;have hs2:(l.all fun r=>gU r==0)=true:=by
        rw[<-hs,bF byOmega];rfl
    have HV:=au (show uF l=decide ((n:Int)<=8) by unfold uF;rw[hs2,hl];rfl);clear hs hs2 hl;go_wp2;go_ret;rw[HV.out];exact⟨rfl,hb⟩
set_option maxHeartbeats 4000000
set_option maxRecDepth 100000
abbrev jO:Array Value:=#[.int .i64 0,.int .i64 0,.int .i64 0,.int .i64 0,.int .i64 0,.int .i64 0,.int .i64 0,.int .i64 0,.int .i64 0,.int .i64 0,.bool false,.int .i64 0,.float .f64 0,.slice none 0 0,.slice none 0 0,.slice none 0 0,.slice none 0 0,.int .i64 0,.int .i64 0,.float .f64 0,.float .f64 0,.int .i64 0,.int .i64 0,.int .i64 0,.int .i64 0,.int .i64 0,.int .i64 0,.slice none 0 0,.slice none 0 0]
abbrev Ey (r:Bool):PanicEntry:={v:=.iface 93 (.agg #[]),recovered:=r}
theorem Vr (t:TypeId) (w:World):(Instr.typeAssert (.iface 93 (.agg #[])) t 93 true).run Tryz.prog w=.ok (.tuple #[.agg #[],.bool true]) w:=by
 simp[go_sem,Instr.typeAssert]
theorem Vs {w:World} {k:Nat} {x:Int} (hb:aj w k 24 #[.int .i64 x]):(loadVar 24 ⟨k,0,none⟩).run Tryz.prog w=.ok (.int .i64 x) w:=by
 have c:=cl (hb.cell 0);simp[go_sem,c]
theorem Vt (w:World) {B B':Nat} {A A':Option Addr} {n n' c c':Nat} {a b:List UInt8} (ha:Reads w B 1 A n (bytesV a)) (hb:Reads w B' 1 A' n' (bytesV b)):
 Calls Tryz.prog 49 #[.slice A n c,.slice A' n' c'] w fun e w'=>e=.returned (.bool (a==b))/\w=w':=by
 have h1:=DU (P:=Tryz.prog) w 49 9 5 Tryz.underlying49 Tryz.underlying5 Tryz.underlying9 (c:=c) ha;have h2:=DU (P:=Tryz.prog) w 49 9 5 Tryz.underlying49 Tryz.underlying5 Tryz.underlying9 (c:=c') hb;go_enter Tryz.func49,Tryz.ntmps49;go_wp2;go_ret;exact⟨rfl,rfl⟩
def Vu {S H:Type} (K:Bx S H) (w:World) (x:S) (er:Int):Ending->World->Prop:=fun e w'=>∃h,e=.returned (.tuple #[.agg (K.vals x h),.int .i64 er])/\K.lo (only (rng w.heap.size w'.heap.size) w') w'.heap.size x h/\Below w.heap.size w w'
theorem fZ.inn {K:Nat->Bool} {w:World} {r:Rc} {h:aV} (i:fZ (only K w) w.heap.size r h):dO w r h:=(i.mn fun p u _ hc=>(tZ hc).2).into
theorem GR (p q:Addr) (w:World):
 CallsD Tryz.prog 191 #[.pointer (some p),.pointer (some q)] .returning w fun e u' w'=>e=.returned (.tuple #[])/\u'=.returning/\w=w':=by
 refine callsD_of_wpS Tryz.func191 rfl fun c₀ cs hu=>?_
 apply wpS_seq;apply wpS_region;simp[wpOpsS,go_sem,recoverD,hu,Tryz.ntmps191,Exit.thenS];refine wpS_of_wp ?_;go_wp2;cases c₀;simp_all [bodyPostS,results,Tryz.results191]
theorem Ez {fn:Func} {tmps:Array Value} {R:Ending->World->Prop} {w:World} {p q:Tmp} {g k:Nat} {cs:Array Value} {x:Int} (h:fn.results=#[.cell p 69,.cell q 24]) (hp:tmps.getD p undef=.pointer (some ⟨g,0,none⟩)) (hq:tmps.getD q undef=.pointer (some ⟨k,0,none⟩))
 (hb:aj w g 69 cs) (hb':aj w k 24 #[.int .i64 x]) (hi:(Tryz.prog.info? 69).map (·.size)=some cs.size) (hR:R (.returned (.tuple #[.agg cs,.int .i64 x])) w):Leaves Tryz.prog fn tmps R [] .returning w:=by
 have hp':tmps[p]?.getD undef=.pointer (some ⟨g,0,none⟩):=by simpa using hp
 have hq':tmps[q]?.getD undef=.pointer (some ⟨k,0,none⟩):=by simpa using hq
 refine⟨_,?_,hR⟩;simp[results,h,hp',hq',asAddr,JZ hb Tryz.underlying69 rfl hi,Vs hb',Sem.run_bind,Result.andThen]
theorem afB (g k:Nat) (cs:Array Value) (x:Int) (w:World) (hb:aj w g 69 cs) (hcs:cs.size=29) (hk:aj w k 24 #[.int .i64 x]) (hne:g≠k):
 CallsD Tryz.prog 191 #[.pointer (some ⟨g,0,none⟩),.pointer (some ⟨k,0,none⟩)] (.panicking [Ey false]) w fun e u' w'=>e=.returned (.tuple #[])/\u'=.panicking [Ey true]/\aj w' g 69 jO/\aj w' k 24 #[.int .i64 4]/\aW w w' g k:=by
 have hta:=Vr;refine callsD_of_wpS Tryz.func191 rfl fun c₀ cs' hu=>?_
 apply wpS_seq;apply wpS_region;simp[wpOpsS,go_sem,recoverD,hu,Tryz.ntmps191,Exit.thenS];refine wpS_of_wp ?_;have hX:Below w.heap.size w (w.alloc (.cells #[] 93)):=aJ;have hb1:=hb.below hX hb.lt;have hk1:=hk.below hX hk.lt;go_wp2_with (first
  |(guard_target=~ wpList _ _ _ _ _ _;refine wpList_store_row rfl 69 _ _ rfl g jO ah ah _ _ hb1 ah (by rw[hcs];rfl) ah ?_
    obtain⟨W5,dD⟩:∃W5:World,W5=(w.alloc (.cells #[] 93)).setRow g jO:=⟨_,rfl⟩;rw[<-dD];have B5:aj W5 g 69 jO:=(by rw[dD];exact hb1.setRow _);have E5:aj W5 k 24 #[.int .i64 x]:=(by rw[dD];exact hk1.jT _ byOmega);have z5:=cl (E5.cell 0);have f5:W5.frozen? ⟨k,0,none⟩=false:=E5.frozen 0;have HW:=au dD;clear dD))
 refine⟨rfl,.panicking [Ey true],rfl,.tuple #[],by simp[results,Tryz.results191],rfl,rfl,B5.far (p:=⟨k,0,none⟩) hne _,E5.fB 0 (.int .i64 4),?_⟩;rw[HW.out];refine⟨rfl,rfl,rfl,by show w.heap.size<=(((w.alloc (.cells #[] 93)).setRow g jO).setCell ⟨k,0,none⟩ (.int .i64 4)).heap.size;simp[World.setRow,World.setCell],fun j hj h1 h2=>?_⟩;rw[Below.heap_setCell _ _ _ _ h2,show ((w.alloc (.cells #[] 93)).setRow g jO).heap[j]?=(w.alloc (.cells #[] 93)).heap[j]? from by simp[World.setRow,Array.getElem?_modify,Ne.symm h1]];exact hX.block j hj
theorem afC (A:Option Addr) (n c:Nat) (l:List UInt8) (w:World) (h:Reads w w.heap.size 1 A n (bytesV l)) (hsm:n<=1000000000000):
 Calls Tryz.prog 141 #[.slice A n c] w (Vu kY w (rQ l) (sW l)):=by
 have hmf:∀(fn:Fn) (first cap:Array Value) (w:World),(Instr.makeFunc fn first cap).run Tryz.prog w=.ok (.func fn first cap) w:=fun _ _ _ _=>rfl
 have hll:l.length=n:=by have:=h.1;simpa using this
 have HE:=au (show sW l=if 262144<l.length then 4 else if (lZ l ⟨0,0,0⟩).2.e≠0 then 4 else if (lY l (lZ l ⟨0,0,0⟩).2).1≠0 then 4 else if gU (lZ l ⟨0,0,0⟩).1≠0 then 4 else if fM (lZ l ⟨0,0,0⟩).1≠l then 4 else 0 from rfl);have HR:=au (show rQ l=if sW l=0 then (lZ l ⟨0,0,0⟩).1 else ql from rfl);have HR4:=au (show sW l=4->rQ l=ql from fun e=>by rw[HR.out,if_neg byOmega]);generalize sW l=dE at*;generalize rQ l=dR at*
 go_enter_defers Tryz.func141,Tryz.ntmps141
 have B0:aj ((w.alloc (.cells jO 69)).alloc (.cells #[.int .i64 0] 24)) w.heap.size 69 jO:=(aj.new _ _ _).alloc _;have E0:aj ((w.alloc (.cells jO 69)).alloc (.cells #[.int .i64 0] 24)) (w.heap.size+1) 24 #[.int .i64 0]:=aj.new' _ _ aA;have hX:Below w.heap.size w ((w.alloc (.cells jO 69)).alloc (.cells #[.int .i64 0] 24)):=aJ;have vY:w.heap.size+1<((w.alloc (.cells jO 69)).alloc (.cells #[.int .i64 0] 24)).heap.size:=aA;have hl0:w.heap.size≠w.heap.size+1:=byOmega;by_cases hn:262144<n
 · have hd0:decide ((n:Int)>262144)=true:=ay;have hd1:262144<(n:Int):=byOmega;have jP:dE=4:=(by rw[HE.out,if_pos byOmega]);obtain rfl:=HR4.out jP;subst jP;clear h HE HR HR4;go_wp2_with (first
    |(guard_target=~ wpList _ _ _ _ _ _;refine wpList_store_row rfl 69 _ _ rfl w.heap.size jO ah ah _ _ B0 ah ah ah ?_
      obtain⟨W5,dD⟩:∃W5:World,W5=((w.alloc (.cells jO 69)).alloc (.cells #[.int .i64 0] 24)).setRow w.heap.size jO:=⟨_,rfl⟩;rw[<-dD];have Nb:aj W5 w.heap.size 69 jO:=(by rw[dD];exact B0.setRow _);have Ne:aj W5 (w.heap.size+1) 24 #[.int .i64 0]:=(by rw[dD];exact E0.jT _ byOmega);have Nx:Below w.heap.size w W5:=(by rw[dD];exact below_setRow hX (Nat.le_refl _) _);have zN:=cl (Ne.cell 0);have fN:W5.frozen? ⟨w.heap.size+1,0,none⟩=false:=Ne.frozen 0;clear dD))
   refine leaves_cons (f:=191) (args:=#[.pointer (some ⟨w.heap.size,0,none⟩),.pointer (some ⟨w.heap.size+1,0,none⟩)]) aA (by simp[go_sem]) ?_;refine(GR _ _ _).mono ?_;rintro e u w7 ⟨rfl,rfl,rfl⟩;exact Ez rfl rfl rfl (Nb.far (p:=⟨w.heap.size+1,0,none⟩) aA (.int .i64 4)) (Ne.fB 0 (.int .i64 4)) ah ⟨BK,rfl,D8 _ _,Nx.setCell (p:=⟨w.heap.size+1,0,none⟩) aA (.int .i64 4)⟩
 have hd0:decide ((n:Int)>262144)=false:=ay;have GU:=(h.below hX).more hX.size;have hRR:=au h;clear h;go_wp2_with fail;refine(Rq A n c l _ GU hsm).mono ?_;rintro e w1 ⟨A1,n1,c1,rfl,hz,hge,hrd,had,hb1⟩;have B1:=B0.below hb1 B0.lt;have E1:=E0.below hb1 E0.lt;have hX1:=hX.trans (hb1.mono hX.size);clear B0 E0 hb1 hX GU;obtain⟨g,hg⟩:∃g,g=w1.heap.size-1:=⟨_,rfl⟩;rw[<-hg]at hge hrd ⊢;have hD:Below w1.heap.size w1 (w1.alloc (.cells #[.pointer none,.pointer (some ⟨g,0,none⟩)] 87)):=aJ;have hC:CR (w1.alloc (.cells #[.pointer none,.pointer (some ⟨g,0,none⟩)] 87)) g A1 n1 c1 l ⟨0,0,0⟩ w1.heap.size:=
  ⟨hrd.below hD,aj.new _ _ _,byOmega,fun a ha hn=>by
   obtain⟨ad,e,hlt,_⟩:=hrd.reads.2 hn;rw[ha]at e;obtain rfl:=Option.some.inj e;omega⟩
 have B2:=B1.below hD B1.lt;have E2:=E1.below hD E1.lt;have hX2:=hX1.trans (hD.mono hX1.size);have XM:=RM.start (K:=kY) (x:=ql) (h:=BK) jC hC rfl B2 (fun w B=>D8 w B) byOmega byOmega (fun a ha _=>by have:=had a ha;omega);have wZ:w.heap.size<=g:=byOmega;have GV:w.heap.size+1≠g:=byOmega;have hlow:=au E2.lt;clear hg B1 E1 hX1 hD had hge hrd vY B2 hC;have hW:=afD _ g A1 n1 c1 l ⟨0,0,0⟩ w1.heap.size w.heap.size XM;have hcnt:=Ul l ⟨0,0,0⟩;have henc:=adE l ⟨0,0,0⟩ (Nat.zero_le _);generalize lZ l ⟨0,0,0⟩=y at*;obtain⟨r,s1⟩:=y;clear XM;go_wp2_with fail;refine hW.mono ?_;rintro e w2 (⟨rfl,hd,X2⟩|⟨rfl,e2,t2,cs2,l2,k2⟩)
 rotate_left
 · have E3:aj w2 (w.heap.size+1) 24 #[.int .i64 0]:=(t2.block _ E2.lt GV byOmega).trans E2;have fU:Below w.heap.size w w2:=hX2.trans (t2.below wZ (Nat.le_refl _) hX2.size);have jP:dE=4:=(by rw[HE.out,if_neg byOmega,if_pos e2]);obtain rfl:=HR4.out jP;subst jP;show Leaves _ _ _ _ _ _ _;refine leaves_cons (f:=191) (args:=#[.pointer (some ⟨w.heap.size,0,none⟩),.pointer (some ⟨w.heap.size+1,0,none⟩)]) aA (by simp[go_sem]) ?_;refine(afB w.heap.size (w.heap.size+1) cs2 0 w2 k2 l2 E3 byOmega).mono ?_;rintro e u w7 ⟨rfl,rfl,B7,E7,t7⟩;exact Ez rfl rfl rfl B7 E7 ah ⟨BK,rfl,D8 _ _,fU.trans (t7.below (Nat.le_refl _) byOmega fU.size)⟩
 have e2:s1.e=0:=X2.e;have t2:=X2.two;have E3:aj w2 (w.heap.size+1) 24 #[.int .i64 0]:=(t2.block _ E2.lt GV byOmega).trans E2;have fU:Below w.heap.size w w2:=hX2.trans (t2.below wZ (Nat.le_refl _) hX2.size);have k2:aj w2 w.heap.size 69 (kY.vals r hd):=X2.blk;have hlo:kY.lo (only (rng w.heap.size w2.heap.size) w2) w2.heap.size r hd:=(jC).on X2.lo (fun _ _ _=>rfl) (Nat.le_refl _) (by have:=hlow.out;omega);have Oq:=au X2.lo;have GX:iR r hd:=hcnt.sm byOmega hlo.2.2.rd.1 hlo.2.2.wr.1 hlo.2.2.ps.1 hlo.2.2.pr.1;have rlen:(bC r).length<=n:=by
  have h2:=congrArg List.length (henc e2).2;rw[List.take_zero,List.nil_append,List.length_take]at h2;omega
 have rin:=hlo.2.2.inn;have wB:=hlo.1;have rcp:=hlo.2.1;clear hcnt henc;have hE:=Ro g A1 n1 c1 l s1 w2 X2.cr.rd;have zJ:=au (show dE=if (lY l s1).1≠0 then 4 else if gU r≠0 then 4 else if fM r≠l then 4 else 0 by rw[HE.out,if_neg byOmega,if_neg (by simp;exact e2)]);have HRR:=au (show dR=if dE=0 then r else ql from HR.out);clear hW E2 hX2 hz HE hlo X2 t2 HR;go_wp2_with fail;refine hE.mono ?_;rintro e w3 ⟨rfl,q,rfl⟩;have hQ:Below w2.heap.size w2 (w2.drewN q):=bD _;have B4:=k2.below hQ k2.lt;have E4:=E3.below hQ E3.lt;have jV:=fU.trans (hQ.mono fU.size);have uI:=(hRR.out.below jV).more jV.size;have z4:=cl (E4.cell 0);have hN:=Nq r hd (w2.drewN q) wB (rin.below hQ) rcp GX byOmega;clear rin wB rcp GX rlen;clear hE k2 E3 fU hRR;by_cases he1:(lY l s1).1=0
 rotate_left
 · have hb1:((lY l s1).1==0)=false:=(by simp[he1]);have jP:dE=4:=(by rw[zJ.out,if_pos he1]);obtain rfl:=HR4.out jP;subst jP;go_wp2_with (first
    |(guard_target=~ wpList _ _ _ _ _ _;refine wpList_store_row rfl 69 _ _ rfl w.heap.size jO ah ah _ _ B4 ah ah ah ?_
      obtain⟨W5,dD⟩:∃W5:World,W5=(w2.drewN q).setRow w.heap.size jO:=⟨_,rfl⟩;rw[<-dD];have Nb:aj W5 w.heap.size 69 jO:=(by rw[dD];exact B4.setRow _);have Ne:aj W5 (w.heap.size+1) 24 #[.int .i64 0]:=(by rw[dD];exact E4.jT _ byOmega);have Nx:Below w.heap.size w W5:=(by rw[dD];exact below_setRow jV (Nat.le_refl _) _);have zN:=cl (Ne.cell 0);have fN:W5.frozen? ⟨w.heap.size+1,0,none⟩=false:=Ne.frozen 0;clear dD))
   refine leaves_cons (f:=191) (args:=#[.pointer (some ⟨w.heap.size,0,none⟩),.pointer (some ⟨w.heap.size+1,0,none⟩)]) aA (by simp[go_sem]) ?_;refine(GR _ _ _).mono ?_;rintro e u w7 ⟨rfl,rfl,rfl⟩;exact Ez rfl rfl rfl (Nb.far (p:=⟨w.heap.size+1,0,none⟩) aA (.int .i64 4)) (Ne.fB 0 (.int .i64 4)) ah ⟨BK,rfl,D8 _ _,Nx.setCell (p:=⟨w.heap.size+1,0,none⟩) aA (.int .i64 4)⟩
 have hb1:((lY l s1).1==0)=true:=by simp[he1]
 go_wp2_with (first
  |(guard_target=~ wpList _ _ _ _ _ _;refine wpList_load_row rfl 69 _ rfl w.heap.size ah _ _ (0,0) _ B4 rfl rfl ah ?_)
  |fail)
 refine hN.mono ?_;rintro e w4 ⟨A5,c5,rfl,hq5,hm5,hown5,hb5⟩;have B5:=B4.below hb5 B4.lt;have E5:=E4.below hb5 E4.lt;have oz:=jV.trans (hb5.mono jV.size);have Ot:=(uI.below hb5).more hb5.size;have GY:=au hb5;have EC:Reads w4 w4.heap.size 1 A5 (fM r).length (bytesV (fM r)):=Reads.kK hown5;have z5:=cl (E5.cell 0);have hq:=Vt w4 (c:=c5) (c':=c) EC Ot;clear hown5 hb5 uI hN B4 E4 z4 jV;generalize gU r=eE at*;generalize fM r=eO at*;by_cases he2:eE=0
 rotate_left
 · have hb2:(eE==0)=false:=(by simp[he2]);have jP:dE=4:=(by rw[zJ.out,if_neg byOmega,if_pos he2]);obtain rfl:=HR4.out jP;subst jP;go_wp2_with (first
    |(guard_target=~ wpList _ _ _ _ _ _;refine wpList_store_row rfl 69 _ _ rfl w.heap.size jO ah ah _ _ B5 ah ah ah ?_
      obtain⟨W5,dD⟩:∃W5:World,W5=w4.setRow w.heap.size jO:=⟨_,rfl⟩;rw[<-dD];have Nb:aj W5 w.heap.size 69 jO:=(by rw[dD];exact B5.setRow _);have Ne:aj W5 (w.heap.size+1) 24 #[.int .i64 0]:=(by rw[dD];exact E5.jT _ byOmega);have Nx:Below w.heap.size w W5:=(by rw[dD];exact below_setRow oz (Nat.le_refl _) _);have zN:=cl (Ne.cell 0);have fN:W5.frozen? ⟨w.heap.size+1,0,none⟩=false:=Ne.frozen 0;clear dD))
   refine leaves_cons (f:=191) (args:=#[.pointer (some ⟨w.heap.size,0,none⟩),.pointer (some ⟨w.heap.size+1,0,none⟩)]) aA (by simp[go_sem]) ?_;refine(GR _ _ _).mono ?_;rintro e u w7 ⟨rfl,rfl,rfl⟩;exact Ez rfl rfl rfl (Nb.far (p:=⟨w.heap.size+1,0,none⟩) aA (.int .i64 4)) (Ne.fB 0 (.int .i64 4)) ah ⟨BK,rfl,D8 _ _,Nx.setCell (p:=⟨w.heap.size+1,0,none⟩) aA (.int .i64 4)⟩
 have hb2:(eE==0)=true:=by simp[he2]
 go_wp2_with fail;refine hq.mono ?_;rintro e w5 ⟨rfl,rfl⟩;by_cases he3:eO=l
 rotate_left
 · have hb3:(eO==l)=false:=(by simp[he3]);have jP:dE=4:=(by rw[zJ.out,if_neg byOmega,if_neg byOmega,if_pos he3]);obtain rfl:=HR4.out jP;subst jP;go_wp2_with (first
    |(guard_target=~ wpList _ _ _ _ _ _;refine wpList_store_row rfl 69 _ _ rfl w.heap.size jO ah ah _ _ B5 ah ah ah ?_
      obtain⟨W5,dD⟩:∃W5:World,W5=w4.setRow w.heap.size jO:=⟨_,rfl⟩;rw[<-dD];have Nb:aj W5 w.heap.size 69 jO:=(by rw[dD];exact B5.setRow _);have Ne:aj W5 (w.heap.size+1) 24 #[.int .i64 0]:=(by rw[dD];exact E5.jT _ byOmega);have Nx:Below w.heap.size w W5:=(by rw[dD];exact below_setRow oz (Nat.le_refl _) _);have zN:=cl (Ne.cell 0);have fN:W5.frozen? ⟨w.heap.size+1,0,none⟩=false:=Ne.frozen 0;clear dD))
   refine leaves_cons (f:=191) (args:=#[.pointer (some ⟨w.heap.size,0,none⟩),.pointer (some ⟨w.heap.size+1,0,none⟩)]) aA (by simp[go_sem]) ?_;refine(GR _ _ _).mono ?_;rintro e u w7 ⟨rfl,rfl,rfl⟩;exact Ez rfl rfl rfl (Nb.far (p:=⟨w.heap.size+1,0,none⟩) aA (.int .i64 4)) (Ne.fB 0 (.int .i64 4)) ah ⟨BK,rfl,D8 _ _,Nx.setCell (p:=⟨w.heap.size+1,0,none⟩) aA (.int .i64 4)⟩
 have hb3:(eO==l)=true:=by simp[he3]
 have hE0:dE=0:=by rw[zJ.out,if_neg byOmega,if_neg byOmega,if_neg (by simp[he3])]
 have hR0:dR=r:=by rw[HRR.out,if_pos hE0]
 subst hE0 hR0;go_wp2_with (first
 |(guard_target=~ wpList _ _ _ _ _ _;refine wpList_load_row rfl 69 _ rfl w.heap.size ah _ _ (0,0) _ B5 rfl rfl ah ?_)
 |(guard_target=~ wpList _ _ _ _ _ _;refine wpList_store_row rfl 69 _ _ rfl w.heap.size (kY.vals dR hd) ah ah _ _ B5 ah ah ah ?_
   obtain⟨W6,dM⟩:∃W5:World,W5=w4.setRow w.heap.size (kY.vals dR hd):=⟨_,rfl⟩;rw[<-dM];have B6:aj W6 w.heap.size 69 (kY.vals dR hd):=(by rw[dM];exact B5.setRow _);have E6:aj W6 (w.heap.size+1) 24 #[.int .i64 0]:=(by rw[dM];exact E5.jT _ byOmega);have tq:Below w.heap.size w W6:=(by rw[dM];exact below_setRow oz (Nat.le_refl _) _);have z6:=cl (E6.cell 0);have f6:W6.frozen? ⟨w.heap.size+1,0,none⟩=false:=E6.frozen 0;have hS6:∀k,k≠w.heap.size->W6.heap[k]?=w4.heap[k]?:=fun k hk=>by rw[dM];simp[World.setRow,Array.getElem?_modify,Ne.symm hk]
   have hZ6:w4.heap.size<=W6.heap.size:=(by rw[dM];simp[World.setRow]);clear dM))
 have B7:=B6.far (p:=⟨w.heap.size+1,0,none⟩) aA (.int .i64 0);have E7:=E6.fB 0 (.int .i64 0);have xg:=tq.setCell (p:=⟨w.heap.size+1,0,none⟩) aA (.int .i64 0);refine leaves_cons (f:=191) (args:=#[.pointer (some ⟨w.heap.size,0,none⟩),.pointer (some ⟨w.heap.size+1,0,none⟩)]) aA (by simp[go_sem]) ?_;refine(GR _ _ _).mono ?_;rintro e u w7 ⟨rfl,rfl,rfl⟩;refine Ez rfl rfl rfl B7 E7 ah ⟨hd,rfl,?_,xg⟩;have hs:w2.heap.size<=(W6.setCell ⟨w.heap.size+1,0,none⟩ (.int .i64 0)).heap.size:=by have:=GY.out.size;have hz:(w2.drewN q).heap.size=w2.heap.size:=rfl;simp only[World.size_setCell];omega
 refine(jC).on Oq.out (fun k h1 h2=>?_) hs (by have:=hlow.out;omega);have h3:=hlow.out;rw[Below.heap_setCell _ _ _ _ ay,hS6 k byOmega];exact GY.out.block k h2
set_option maxHeartbeats 16000000
def Sn.wt (a:Sn):Wt:=⟨a.key,a.v⟩
theorem afE (A:Option Addr) (n c:Nat) (l:List Sn) (most:Int) (w:World) (h:Sl gI 7 w w.heap.size A n l) (hn:n<=maxLen) (hm0:0<=most) (hm1:most<=5000000):
 Calls Tryz.prog 52 #[.slice A n c,.int .i64 most] w fun e w'=>e=.returned (.int .i64 (dS most 0 (l.map Sn.wt)))/\∃q,w.drewN q=w':=by
 unfold maxLen at hn;have hl:=h.1;have hle:l.length<=n:=byOmega;have hml:(l.map Sn.wt).length=l.length:=List.length_map _;have Vw:=au hml;clear hml;have hge:n<=l.length:=byOmega;clear hl;go_enter Tryz.func52,Tryz.ntmps52;go_wp2
 go_loopw [5,6] (fun s i wr=>UL most (l.map Sn.wt) w s i wr) (fun _ i _=>n-(intOf i).toNat)
 case atStart=>exact⟨0,0,0,Nat.zero_le _,rfl,rfl,byOmega,byOmega,rfl,rfl⟩
 case round=>
  obtain⟨k,q,s,hk,rfl,rfl,hs0,hs1,hs,rfl⟩:=hrel;by_cases hlt:k<n
  · have hd1:decide ((k:Int)<(n:Int))=true:=ay;by_cases hst:s<=most
    · obtain⟨ad,a,rfl,ha,hbk,hok,c0,c1,c2,c3,c4,c5,c6⟩:=h.sn hlt;have hd2:decide (s<=most)=true:=(by simp[hst]);have hk0:(0:Int)<=(k:Int):=byOmega;have hk1:(k:Int)<(n:Int):=byOmega;have hsz:=hok.1;have hsz2:=hok.2.1.2.2;rw[N7 (a:=a.wt) (by rw[List.getElem?_map,ha];rfl) hst]at hs;have HS:=au hs;have hr1:=fO (n:=s) (more:=1+(a.key.size:Int)) (most:=most) hs0 byOmega hm0;have hr2:0<=stepW most s a.wt/\stepW most s a.wt<=2*most+1:=by
       unfold stepW Sn.wt;have h9:bZ s (1+(a.key.size:Int)) most<=most+1∨bZ s (1+(a.key.size:Int)) most<=2*most+1:=.inr hr1.2.1;have h8:=hr1.1;have h7:bZ s (1+(a.key.size:Int)) most<=2*most+1:=hr1.2.1;generalize bZ s (1+(a.key.size:Int)) most=z at*;unfold bZ;split<;>omega
      have hwr:IntKind.i64.wrap (1+(a.key.size:Int))=1+(a.key.size:Int):=(by rw[IntKind.wrap_i64];omega);have hr3:=hr1.1;have hr4:=hr1.2.1;have wL:=hr2.1;have zY:=hr2.2;clear hr1 hr2;clear ha hs hok;go_wp2
      go_quiet (first
       |(go_at_call 50;exact Gs (qA _ _ _ _ byOmega byOmega byOmega byOmega hm0 byOmega)))
      go_wp2;go_roundw
      case rel=>exact⟨k+1,q+nq,stepW most s a.wt,by rw[Vw.out];omega,by go_num,rfl,wL,zY,HS.out,rfl⟩
      case measure=>simp[intOf];omega
    · have hd2:decide (s<=most)=false:=ay;rw[Ee _ byOmega]at hs;have HS:=au hs;clear hs;go_wp2;go_ret;rw[<-HS.out];exact⟨rfl,q,rfl⟩
  · have hd1:decide ((k:Int)<(n:Int))=false:=ay;rw[bF (by rw[Vw.out];omega)]at hs;have HS:RowKit.Hid (s=dS most 0 (l.map Sn.wt)):=au hs;clear hs;go_wp2;go_ret;rw[<-HS.out];exact⟨rfl,q,rfl⟩
def xA (most:Int) (m:Mg):Int:=bZ (jE most m.ks) (dS most 0 (m.sn.map Sn.wt)) most
def xB (most:Int) (m:Mg):Int:=bZ (xA most m) (dS most 0 m.ws) most
def vC (most:Int) (m:Mg):Int:=bZ (xB most m) (min (m.ps.length:Int) (most+1)) most
def rV (most:Int) (m:Mg):Int:=bZ (vC most m) (min (m.rs.length:Int) (most+1)) most
def qW (most:Int) (r:Rc) (n:Int):Int:=bZ n (qM most r) most
def yC (most:Int) (m:Mg):Int:=bZ (gV (qW most) most (rV most m) m.rc+1) (pI most m.st) most
theorem JH (r:Rc) {most:Int} (hm:0<=most):1<=qM most r/\qM most r<=2*most+1:=by
 have hT:=Ak r.rd hm;have hW:=vW r.wr 0 hm byOmega byOmega;have h1:=fO (n:=jE most r.rd) (more:=dS most 0 r.wr) (most:=most) hT.1 hW.1 hm;have h2:=fO (n:=wX most r) (more:=min (r.ps.length:Int) (most+1)) (most:=most) h1.1 byOmega hm;have h3:=vW r.pr (rU most r) hm h2.1 h2.2.1;have hS:=FY r.st hm;have h4:=fO (n:=dS most (rU most r) r.pr+1) (more:=pI most r.st) (most:=most) byOmega hS.1 hm;refine⟨?_,h4.2.1⟩;unfold qM bZ;split<;>omega
theorem Ou (r:Rc) {most n:Int} (hm:0<=most) (h0:0<=n):0<=qW most r n/\qW most r n<=2*most+1:=by
 have:=fO (n:=n) (more:=qM most r) (most:=most) h0 (by have:=(JH r hm).1;omega) hm;exact⟨this.1,this.2.1⟩
def afF (most:Int) (l:List Rc) (n0:Int) (W:World) (s i:Value) (wr:World):Prop:=
 ∃(k:Nat) (n:Int),k<=l.length/\i=.int .i64 (k:Int)/\s=.int .i64 n/\0<=n/\n<=2*most+1/\gV (qW most) most n (l.drop k)=gV (qW most) most n0 l/\Below W.heap.size W wr
theorem afG (m:Mg) (h:Hm) (most:Int) (w:World) (i:bH w w.heap.size m h) (c:h.caps) (hm0:0<=most) (hm1:most<=5000000):
 Calls Tryz.prog 21 #[.agg (m.vals h),.int .i64 most] w fun e w'=>e=.returned (.int .i64 (yC most m))/\Below w.heap.size w w':=by
 have hX:Below w.heap.size w (w.alloc (.cells (m.vals h) 41)):=aJ;have bM:aj (w.alloc (.cells (m.vals h) 41)) w.heap.size 41 (m.vals h):=aj.new _ _ _;have hT:=Ak m.ks hm0;have hT1:=hT.1;have hT2:=hT.2;have hN:=vW (m.sn.map Sn.wt) 0 hm0 byOmega byOmega;have hN1:=hN.1;have JI:=hN.2;have hW:=vW m.ws 0 hm0 byOmega byOmega;have hW1:=hW.1;have hW2:=hW.2;have h1:=fO (n:=jE most m.ks) (more:=dS most 0 (m.sn.map Sn.wt)) (most:=most) hT1 hN1 hm0;have h11:0<=xA most m:=h1.1;have h12:xA most m<=2*most+1:=h1.2.1;have h2:=fO (n:=xA most m) (more:=dS most 0 m.ws) (most:=most) h11 hW1 hm0;have h21:0<=xB most m:=h2.1;have h22:xB most m<=2*most+1:=h2.2.1;have h3:=fO (n:=xB most m) (more:=min (m.ps.length:Int) (most+1)) (most:=most) h21 byOmega hm0;have h31:0<=vC most m:=h3.1;have h32:vC most m<=2*most+1:=h3.2.1;have h4:=fO (n:=vC most m) (more:=min (m.rs.length:Int) (most+1)) (most:=most) h31 byOmega hm0;have h41:0<=rV most m:=h4.1;have h42:rV most m<=2*most+1:=h4.2.1;have hS:=FY m.st hm0;have hS1:=hS.1;have hS2:=hS.2;have hwm:IntKind.i64.wrap (most+1)=most+1:=by rw[IntKind.wrap_i64];omega
 have Vx:=au (show xA most m=bZ (jE most m.ks) (dS most 0 (m.sn.map Sn.wt)) most from rfl);have HE2:=au (show xB most m=bZ (xA most m) (dS most 0 m.ws) most from rfl);have Vy:=au (show vC most m=bZ (xB most m) (min (h.d.n:Int) (most+1)) most by unfold vC;rw[i.ps.1]);have Vz:=au (show rV most m=bZ (vC most m) (min (h.e.n:Int) (most+1)) most by unfold rV;rw[i.rs.1]);have HE5:=au (show yC most m=bZ (gV (qW most) most (rV most m) m.rc+1) (pI most m.st) most from rfl);have hdn:=Nat.le_trans c.d.1 c.d.2;have hen:=Nat.le_trans c.e.1 c.e.2;have hfn:=Nat.le_trans c.f.1 c.f.2;unfold maxLen at hdn hen hfn;have cT:=fun w' (hb:Below w.heap.size w w')=>Ob h.a.A h.a.n h.a.c m.ks most w' (i.up hb).ks (Nat.le_trans c.a.1 c.a.2) hm0 hm1
 have cN:=fun w' (hb:Below w.heap.size w w')=>afE h.b.A h.b.n h.b.c m.sn most w' (i.up hb).sn (Nat.le_trans c.b.1 c.b.2) hm0 hm1
 have cW:=fun w' (hb:Below w.heap.size w w')=>N8 h.c.A h.c.n h.c.c m.ws most w' (i.up hb).ws (Nat.le_trans c.c.1 c.c.2) hm0 hm1
 have cS:=fun w' (hb:Below w.heap.size w w')=>Og m.st h.g.A h.i.A h.g.n h.i.n h.g.c h.i.c most w' (i.up hb).hs (i.up hb).pn (Nat.le_trans c.g.1 c.g.2) (Nat.le_trans c.i.1 c.i.2) hm0 hm1
 have hrc:=i.rc;clear hT hN hW h1 h2 h3 h4 hS c;go_enter Tryz.func21,Tryz.ntmps21;go_upto_region 1 with fail;generalize (w.alloc (.cells (m.vals h) 41))=w1 at*;have lM:=bM.lt;have x18:=cl (bM.cell 18);have x19:=cl (bM.cell 19)
 go_quiet (first
  |(go_at_call 51;exact nJ (cT _ (by first|exact hX|exact hX.drew|exact hX.trans ((bD _).mono hX.size))))
  |(go_at_call 52;exact Oe (cN _ (by first|exact hX|exact hX.drew|exact hX.trans ((bD _).mono hX.size))))
  |(go_at_call 50;exact nJ (qA _ _ _ _ byOmega byOmega byOmega byOmega hm0 byOmega)))
 have hX2:Below w.heap.size w (w1.drewN nq):=hX.trans ((bD nq).mono hX.size);have dB:aj (w1.drewN nq) w.heap.size 41 (m.vals h):=bM;rw[<-Vx.out];clear x18 x19 lM bM hX;generalize (w1.drewN nq)=w2 at*;have yw:=cl (dB.cell 20);have lM:=dB.lt;go_upto_region 3 with (first
  |((with_reducible refine(cW _ hX2).mono ?_);rintro e v1 ⟨rfl,q,rfl⟩)
  |((with_reducible refine(qA _ _ most _ byOmega byOmega byOmega byOmega hm0 byOmega).mono ?_);rintro e v2 ⟨rfl,rfl⟩))
 have fU:Below w.heap.size w (w2.drewN q):=hX2.trans ((bD q).mono hX2.size);have aY:aj (w2.drewN q) w.heap.size 41 (m.vals h):=dB;rw[<-HE2.out];clear yw lM dB hX2;generalize (w2.drewN q)=w3 at*;have lM:=aY.lt;have x21:=cl (aY.cell 21)
 go_cut [5] from 24 (fun v w'=>v=.int .i64 (vC most m)/\w'=w3)
 case first=>
  by_cases hmn:most+1<(h.d.n:Int);all_goals
   go_wp2_with ((with_reducible refine(qA _ _ most _ byOmega byOmega byOmega byOmega hm0 byOmega).mono ?_);rintro e v2 ⟨rfl,rfl⟩);go_meet
   case rel=>exact⟨congrArg (Value.int .i64) (by rw[Vy.out];first|done|rw[Int.min_eq_right byOmega]|rw[Int.min_eq_left byOmega]),rfl⟩
 obtain⟨rfl,rfl⟩:=hcut;clear x21;have oM:=cl (aY.cell 22);go_upto_region 4 with fail
 go_cut [5] from 33 (fun v w'=>v=.int .i64 (rV most m)/\w'=wc)
 case first=>
  by_cases hmn:most+1<(h.e.n:Int);all_goals
   go_wp2_with ((with_reducible refine(qA _ _ most _ byOmega byOmega byOmega byOmega hm0 byOmega).mono ?_);rintro e v2 ⟨rfl,rfl⟩);go_meet
   case rel=>exact⟨congrArg (Value.int .i64) (by rw[Vz.out];first|done|rw[Int.min_eq_right byOmega]|rw[Int.min_eq_left byOmega]),rfl⟩
 rename_i wd;obtain⟨rfl,rfl⟩:=hcut;have x23:=cl (aY.cell 23);have hrl:=hrc.1;have hle:m.rc.length<=h.f.n:=byOmega;have hge:h.f.n<=m.rc.length:=byOmega;clear oM hrl Vx HE2 Vy Vz cT cN cW;go_wp2
 go_loopw [5,6] (fun s i wr=>afF most m.rc (rV most m) wc s i wr) (fun _ i _=>h.f.n-(intOf i).toNat)
 case atStart=>exact⟨0,rV most m,Nat.zero_le _,rfl,rfl,h41,h42,rfl,aC⟩
 case round=>
  obtain⟨k,s,hk,rfl,rfl,hs0,hs1,hs,hb⟩:=hrel;have hzz:=hb.size;have bW:=aY.below hb aY.lt;have oq:=fU.trans (hb.mono fU.size);have lW:=bW.lt;have y23:=cl (bW.cell 23);by_cases hgo:k<h.f.n/\s<=most
  · obtain⟨hlt,hst⟩:=hgo;obtain⟨ad,r,g,b,o,hA,ha,hq,hbb,hrg,ok,cp,ir⟩:=((hrc.below eX.kept oq).more eX.kept oq.size).GN hlt;have hd1:decide ((k:Int)<(h.f.n:Int))=true:=ay;have hd2:decide (s<=most)=true:=(by simp[hst]);have hk0:(0:Int)<=(k:Int):=byOmega;have hk1:(k:Int)<(h.f.n:Int):=byOmega;rw[hA]at y23;rw[Gt ha hst]at hs;have HS:=au hs;have cR:=fun w' (hb:Below wr.heap.size wr w')=>afl r g most w' (ir.into.below hb) hm0 hm1
    have r1:=(JH r hm0).1;have r2:=(JH r hm0).2;have s1:=(Ou r hm0 hs0).1;have s2:=(Ou r hm0 hs0).2;have HF:=au (show qW most r s=bZ s (qM most r) most from rfl);clear ha hs ir hA;go_wp2_with (first
        |(guard_target=~ wpList _ _ _ _ _ _;refine wpList_load_mid rfl 69 _ rfl b o ah (r.vals g).toList _ hrg rfl rfl ah ?_)
        |((with_reducible refine(cR _ aC).mono ?_);rintro e v1 ⟨rfl,hb1⟩)
        |((with_reducible refine(qA _ _ most _ byOmega byOmega byOmega byOmega hm0 byOmega).mono ?_);rintro e v2 ⟨rfl,rfl⟩))
    go_roundw
    case rel=>exact⟨k+1,qW most r s,byOmega,by go_num,by rw[HF.out],s1,s2,HS.out,hb.trans (hb1.mono hzz)⟩
    case measure=>simp[intOf];omega
  have HW:RowKit.Hid (s=gV (qW most) most (rV most m) m.rc):=au (by
   by_cases hlt:k<h.f.n
   · rw[zx _ byOmega]at hs;exact hs
   · rw[bF byOmega]at hs;exact hs)
  have hwn:IntKind.i64.wrap (s+1)=s+1:=by rw[IntKind.wrap_i64];omega
  clear hs;have y24:=cl (bW.cell 24);have y25:=cl (bW.cell 25);have FK:=cl (bW.cell 26);have y27:=cl (bW.cell 27);have y28:=cl (bW.cell 28);have y29:=cl (bW.cell 29);have FM:=cl (bW.cell 30);have y31:=cl (bW.cell 31);have y32:=cl (bW.cell 32);have FN:=cl (bW.cell 33);have y34:=cl (bW.cell 34);have FP:=cl (bW.cell 35);by_cases hlt:k<h.f.n
  case' pos=>
   have hst:¬s<=most:=fun h=>hgo ⟨hlt,h⟩
   have hd1:decide ((k:Int)<(h.f.n:Int))=true:=ay;have hd2:decide (s<=most)=false:=ay
  case' neg=>
   have hd1:decide ((k:Int)<(h.f.n:Int))=false:=ay
  all_goals
   clear hgo;go_wp2_with (first
        |((with_reducible refine(cS _ oq).mono ?_);rintro e v1 ⟨rfl,hb1⟩)
        |((with_reducible refine(qA _ _ most _ byOmega byOmega byOmega byOmega hm0 byOmega).mono ?_);rintro e v2 ⟨rfl,rfl⟩))
   go_ret;exact⟨nH (by rw[HE5.out,<-HW.out]),oq.trans (hb1.mono oq.size)⟩
theorem afH {most:Int} (hm:0<=most) (r:Rc) (n:Int) (h0:0<=n) (h1:n<=most):0<=qW most r n/\(qW most r n<=most->n+1<=qW most r n/\qM most r<=most):=by
 have hr:=JH r hm;have:=fO (n:=n) (more:=qM most r) (most:=most) h0 byOmega hm;refine⟨this.1,fun h=>?_⟩;have h2:qW most r n=n+qM most r:=this.2.2 h;omega
theorem VA (m:Mg) (hw:yC 20000 m<=20000):m.ks.length<=20000/\m.sn.length<=20000/\m.ws.length<=20000/\m.ps.length<=20000/\m.rs.length<=20000/\m.rc.length<=20000/\(∀r∈m.rc,qM 20000 r<=20000)/\pI 20000 m.st<=20000/\
 jE 20000 m.ks<=20000/\dS 20000 0 (m.sn.map Sn.wt)<=20000/\dS 20000 0 m.ws<=20000:=by
 have hm:(0:Int)<=20000:=byOmega;have hT:=Ak m.ks hm;have hN:=vW (m.sn.map Sn.wt) 0 hm byOmega byOmega;have hW:=vW m.ws 0 hm byOmega byOmega;have h1:=fO (n:=jE 20000 m.ks) (more:=dS 20000 0 (m.sn.map Sn.wt)) (most:=20000) hT.1 hN.1 hm;have h2:=fO (n:=xA 20000 m) (more:=dS 20000 0 m.ws) (most:=20000) h1.1 hW.1 hm;have h3:=fO (n:=xB 20000 m) (more:=min (m.ps.length:Int) (20000+1)) (most:=20000) h2.1 byOmega hm;have h4:=fO (n:=vC 20000 m) (more:=min (m.rs.length:Int) (20000+1)) (most:=20000) h3.1 byOmega hm;have hS:=FY m.st hm;have h5:=Gu (f:=qW 20000) (most:=20000) (n:=rV 20000 m) (l:=m.rc) (fun a _ n h0 _=>Ou a hm h0) h4.1 h4.2.1;have h6:=fO (n:=gV (qW 20000) 20000 (rV 20000 m) m.rc+1) (more:=pI 20000 m.st) (most:=20000) byOmega hS.1 hm;have e6:=h6.2.2 hw;have e6':yC 20000 m=gV (qW 20000) 20000 (rV 20000 m) m.rc+1+pI 20000 m.st:=e6;obtain⟨g1,g2⟩:=Gv (f:=qW 20000) (fun r=>qM 20000 r<=20000) (fun a n h0 h1=>afH hm a n h0 h1) (n:=rV 20000 m) (l:=m.rc) h4.1 byOmega;have e4:rV 20000 m=vC 20000 m+min (m.rs.length:Int) (20000+1):=h4.2.2 (by show rV 20000 m<=_;omega);have e3:vC 20000 m=xB 20000 m+min (m.ps.length:Int) (20000+1):=h3.2.2 (by show vC 20000 m<=_;have:=h3.1;omega);have k3:0<=vC 20000 m:=h3.1;have k2:0<=xB 20000 m:=h2.1;have k1:0<=xA 20000 m:=h1.1;have e2:xB 20000 m=xA 20000 m+dS 20000 0 m.ws:=h2.2.2 (by show xB 20000 m<=_;omega);have e1:xA 20000 m=jE 20000 m.ks+dS 20000 0 (m.sn.map Sn.wt):=h1.2.2 (by show xA 20000 m<=_;omega);have l1:=UM (l:=m.ks) hm byOmega;have l2:=N9 (l:=m.sn.map Sn.wt) hm byOmega;have l3:=N9 (l:=m.ws) hm byOmega;rw[List.length_map]at l2;exact⟨byOmega,byOmega,byOmega,byOmega,byOmega,byOmega,g2,byOmega,byOmega,byOmega,byOmega⟩
theorem VB {w:World} {m:Mg} {h:Hm} (i:bH w w.heap.size m h) (hw:yC 20000 m<=20000):iV m h/\∀r∈m.rc,jo r:=by
 obtain⟨a,b,c,d,e,f,g,s,-⟩:=VA m hw;obtain⟨sh,sp⟩:=UN byOmega byOmega s;refine⟨⟨by rw[<-i.ks.1];omega,by rw[<-i.sn.1];omega,by rw[<-i.ws.1];omega,by rw[<-i.ps.1];omega,by rw[<-i.rs.1];omega,by rw[<-i.rc.1];omega,sh,sp⟩,fun r hr=>?_⟩;obtain⟨cs,hd,-,ok,cp,lo⟩:=i.rc.mem hr;obtain⟨sm,hl⟩:=afy ok lo.into (g r hr);exact⟨by rw[lo.rd.1];exact sm.a,by rw[lo.wr.1];exact sm.b,by rw[lo.ps.1];exact sm.c,by rw[lo.pr.1];exact sm.d,sm.h,sm.p,hl⟩
set_option maxRecDepth 100000 in
set_option maxHeartbeats 1000000 in
theorem afI (m:Mg) (h:Hm) (w:World) (i:bH w w.heap.size m h) (c:h.caps):
 Calls Tryz.prog 9 #[.agg (m.vals h)] w fun e w'=>e=.returned (.bool (decide (yC 20000 m<=20000)))/\Below w.heap.size w w':=by
 have hX:Below w.heap.size w (w.alloc (.cells (m.vals h) 41)):=aJ;have B0:aj (w.alloc (.cells (m.vals h) 41)) w.heap.size 41 (m.vals h):=aj.new _ _ _;have hW:=afG m h 20000 _ (i.up hX) c byOmega byOmega;go_enter Tryz.func9,Tryz.ntmps9;go_wp2_with (guard_target=~ wpList _ _ _ _ _ _;refine wpList_load_row rfl 41 _ rfl w.heap.size ah _ _ (0,0) _ B0 rfl rfl ah ?_);refine hW.mono ?_;rintro e w1 ⟨rfl,hb1⟩;go_wp2;go_ret;exact⟨rfl,hX.trans (hb1.mono hX.size)⟩
