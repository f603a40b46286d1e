/- The walks of the document's Node, ranges, has, seen. -/
import Derived.Test.YtcalkfgibflbnaaGreatBaba
import Derived.Test.YtcalkfgibflbnaaGreatBabd
namespace Go.Proofs.YtcalkfgibflbnaaGreat
set_option maxHeartbeats 16000000
set_option maxRecDepth 100000
set_option linter.unusedVariables false
open Go.RowKit Fl
attribute [local go_sem] dJ
theorem Xa (n:Int) (w:World):Calls Tryz.prog 14 #[.int .i64 n] w fun e w'=>e=.returned (.bool (nZ n))/\w=w':=by
 have HI:=au (show nZ n=((decide (1<=n)&&decide (n<=12))||n==21||n==22||n==31||n==32) by
  unfold nZ bY;rw[Bool.eq_iff_iff];simp only[Bool.or_eq_true,Bool.and_eq_true,decide_eq_true_eq,beq_iff_eq];omega)
 cases h1:decide (1<=n)<;>cases h2:decide (n<=12)<;>cases h5:(n==21)<;>cases h6:(n==22)<;>cases h3:(n==31)<;>cases h4:(n==32)
 all_goals
  rw[h1,h2,h3,h4,h5,h6]at HI;go_enter Tryz.func14,Tryz.ntmps14;go_wp2;go_ret;rw[HI.out];exact⟨rfl,rfl⟩
theorem CX (A:Option Addr) (n c:Nat) (l:List Rg) (w:World) (h:Sl gX 4 w w.heap.size A n l) (hn:n<=maxLen):
 Calls Tryz.prog 68 #[.slice A n c] w fun e w'=>e=.returned (.bool (jI l))/\Below w.heap.size w w':=by
 unfold maxLen at hn;have hl:=h.1;have hge:n<=l.length:=byOmega;by_cases hbig:(n:Int)<=12
 · have hb0:decide ((12:Int)<(n:Int))=false:=ay;have hrb:jI l=l.all lT:=(by unfold jI;rw[hl];simp[hbig]);go_enter Tryz.func68,Tryz.ntmps68;go_wp2
   go_loopw [3] (fun i wr=>QG l w i wr) (fun i _=>n-(intOf i).toNat)
   case atStart=>exact⟨0,byOmega,rfl,rfl,aC⟩
   case round=>
    obtain⟨k,hk,rfl,hs,hb⟩:=hrel;have hzz:=hb.size;by_cases hlt:k<n
    · obtain⟨ad,a,rfl,ha,hbk,hok,c0,c1,c2,c3⟩:=((h.below gX.kept hb).more gX.kept hb.size).rg hlt;have hd1:decide ((k:Int)<(n:Int))=true:=ay;have hk0:(0:Int)<=(k:Int):=byOmega;have hk1:(k:Int)<(n:Int):=byOmega;have hm:=fun w=>Kv a w hok
      rw[rZ ha]at hs;clear ha hl;cases hx:lT a
      · rw[hx,Bool.false_and]at hs;rw[hx]at hm;have HS:=au (show jI l=false by rw[hrb,<-hs]);clear hs;go_wp2_with ((with_reducible refine(hm _).mono ?_);rintro e w1 ⟨rfl,rfl⟩);go_ret;rw[HS.out];exact⟨rfl,hb.trans (Below.mono aJ hzz)⟩
      · rw[hx,Bool.true_and]at hs;rw[hx]at hm;have HS:=au hs;clear hs;go_wp2_with ((with_reducible refine(hm _).mono ?_);rintro e w1 ⟨rfl,rfl⟩);go_roundw
        case rel=>exact⟨k+1,byOmega,by go_num,HS.out,hb.trans (Below.mono aJ hzz)⟩
        case measure=>simp[intOf];omega
    · have hd1:decide ((k:Int)<(n:Int))=false:=ay;rw[bF byOmega]at hs;have HS:=au (show jI l=true by rw[hrb,<-hs];rfl);clear hs hl;go_wp2;go_ret;rw[HS.out];exact⟨rfl,hb⟩
 · have hb0:decide ((12:Int)<(n:Int))=true:=ay;have HF:=au (show jI l=false by unfold jI;rw[hl];simp;omega);clear hl;go_enter Tryz.func68,Tryz.ntmps68;go_wp2;go_ret;rw[HF.out];exact⟨rfl,aC⟩
theorem CY (A:Option Addr) (n c:Nat) (l:List Int) (x:Int) (w:World) (h:Sl bK 1 w w.heap.size A n l) (hn:n<=maxLen):
 Calls Tryz.prog 71 #[.slice A n c,.int .i64 x] w fun e w'=>e=.returned (.bool (rG x l))/\Below w.heap.size w w':=by
 unfold maxLen at hn;have hl:=h.1;have hge:n<=l.length:=byOmega;go_enter Tryz.func71,Tryz.ntmps71;go_wp2
 go_loopw [5] (fun i wr=>QF l x w i wr) (fun i _=>n-(intOf i).toNat)
 case atStart=>exact⟨0,byOmega,rfl,rfl,rfl⟩
 case round=>
  obtain⟨k,hk,rfl,hs,rfl⟩:=hrel;by_cases hlt:k<n
  · obtain⟨ad,a,rfl,ha,hbk,hok,c0⟩:=h.nm hlt;have hd1:decide ((k:Int)<(n:Int))=true:=ay;have hk0:(0:Int)<=(k:Int):=byOmega;have hk1:(k:Int)<(n:Int):=byOmega;rw[yM ha]at hs;clear ha hl;cases hx:(a==x)
    · rw[hx,Bool.false_or]at hs;have HS:=au hs;clear hs;go_wp2;go_roundw
      case rel=>exact⟨k+1,byOmega,by go_num,HS.out,rfl⟩
      case measure=>simp[intOf];omega
    · rw[hx,Bool.true_or]at hs;have HS:=au hs;clear hs;go_wp2;go_ret;rw[<-HS.out];exact⟨rfl,aC⟩
  · have hd1:decide ((k:Int)<(n:Int))=false:=ay;rw[bF byOmega]at hs;have HS:=au hs;clear hs hl;go_wp2;go_ret;rw[<-HS.out];exact⟨rfl,aC⟩
def ah' (l:List Sn) (w:World) (i:Value) (wr:World):Prop:=∃k:Nat,k<=l.length/\i=.int .i64 (k:Int)/\iP (ahead (l.map (·.key)) k) ((l.map (·.key)).drop k)=iP none (l.map (·.key))/\(l.drop k).all zk=l.all zk/\Below w.heap.size w wr
theorem CZ (A:Option Addr) (n c:Nat) (l:List Sn) (w:World) (h:Sl gI 7 w w.heap.size A n l) (hn:n<=maxLen):
 Calls Tryz.prog 67 #[.slice A n c] w fun e w'=>e=.returned (.bool (iJ l))/\Below w.heap.size w w':=by
 unfold maxLen at hn;have hl:=h.1;have hge:n<=l.length:=byOmega;by_cases hbig:(n:Int)<=16
 · have hb0:decide ((16:Int)<(n:Int))=false:=ay;have hrb:iJ l=(l.all zk&&iP none (l.map (·.key))):=(by unfold iJ cu;rw[List.length_map,hl];simp[hbig]);go_enter Tryz.func67,Tryz.ntmps67;go_wp2
   go_loopw [3] (fun i wr=>ah' l w i wr) (fun i _=>n-(intOf i).toNat)
   case atStart=>exact⟨0,byOmega,rfl,rfl,rfl,aC⟩
   case round=>
    obtain⟨k,hk,rfl,hs,hd,hb⟩:=hrel;have hzz:=hb.size;by_cases hlt:k<n
    · obtain⟨ad,a,rfl,ha,hbk,hok,c0,c1,c2,c3,c4,c5,c6⟩:=((h.below gI.kept hb).more gI.kept hb.size).sn hlt;have hka:=fun w=>EW a.key w
      have hm:=fun w=>jF a.s w
      have hv:=fun w=>DX a.v w
      have zr:=fun w=>fQ a.s w
      have hd1:decide ((k:Int)<(n:Int))=true:=ay;have hk0:(0:Int)<=(k:Int):=byOmega;have hk1:(k:Int)<(n:Int):=byOmega;have ha':(l.map (·.key))[k]?=some a.key:=(by rw[List.getElem?_map,ha];rfl);have hj:k≠0->∃b:ByteArray,ahead (l.map (·.key)) k=some b/\wr.cell? (ad.add ((k-1)*7))=some (.string b)/\(ad.add ((k-1)*7)).block<wr.heap.size:=by
       intro hz;obtain⟨ad',b,e',hb',gq,hok',d0,-⟩:=((h.below gI.kept hb).more gI.kept hb.size).sn (k:=k-1) byOmega;injection e' with e'
       subst e';refine⟨b.key,?_,d0,gq⟩;cases k with
       |zero=>exact absurd rfl hz
       |succ j=>show (l.map (·.key))[j]?=_;rw[List.getElem?_map,show l[j]?=some b from hb'];rfl
      rw[Ib ha']at hs;rw[rZ ha]at hd;obtain⟨q,hs,hq0,hq⟩:∃q:Bool,(gY a.key&&q&&iP (ahead (l.map (·.key)) (k+1)) ((l.map (·.key)).drop (k+1)))=iP none (l.map (·.key))/\(k=0->q=true)/\(∀b,ahead (l.map (·.key)) k=some b->q=bl b a.key):=
       ⟨_,hs,by rintro rfl;rfl,fun b hb=>by rw[hb]⟩
      have hj':k≠0->∃b:ByteArray,(Op.bytesLess a.key.toList b.toList||a.key.toList==b.toList)= !q/\wr.cell? (ad.add ((k-1)*7))=some (.string b)/\(ad.add ((k-1)*7)).block<wr.heap.size:=by
       intro hz;obtain⟨b,h1,h2,h3⟩:=hj hz;exact⟨b,by rw[hq b h1,BP];unfold leB;simp,h2,h3⟩
      have HF:=au (show zk a=(a.s.may&&a.v.may&& !(a.s.zero&& !(a.v.k==0))) from rfl);have HB:=au hrb;have HS:=au hs;have HD:=au hd;have hj2:((k:Int)-1).toNat=k-1:=byOmega;have hX:Below wr.heap.size wr (wr.alloc (.cells #[.string a.key,.int .i64 a.v.k,.float .f64 a.v.n,.string a.v.t,.int .i64 a.s.w,.int .i64 a.s.l,.int .i64 a.s.n] 104)):=aJ;have bS:=aj.new wr 104 #[.string a.key,.int .i64 a.v.k,.float .f64 a.v.n,.string a.v.t,.int .i64 a.s.w,.int .i64 a.s.l,.int .i64 a.s.n];have hne:(a.v.k !=0)= !(a.v.k==0):=rfl;clear hs hd ha ha' hj hq hl hrb;go_upto_region 7 with fail;generalize (wr.alloc (.cells #[.string a.key,.int .i64 a.v.k,.float .f64 a.v.n,.string a.v.t,.int .i64 a.s.w,.int .i64 a.s.l,.int .i64 a.s.n] 104))=X at*;have hbx:=bS.lt;have hY:=hb.trans (hX.mono hzz);have hj3:k≠0->∃b:ByteArray,(Op.bytesLess a.key.toList b.toList||a.key.toList==b.toList)= !q/\X.cell? (ad.add ((k-1)*7))=some (.string b)/\(ad.add ((k-1)*7)).block<X.heap.size:=by
       intro hz;obtain⟨b,h1,h2,h3⟩:=hj' hz;exact⟨b,h1,(hX.cell h3).trans h2,Nat.lt_of_lt_of_le h3 hX.size⟩
      have x0:=cl (bS.cell 0);have x1:=cl (bS.cell 1);have x2:=cl (bS.cell 2);have x3:=cl (bS.cell 3);have x4:=cl (bS.cell 4);have x5:=cl (bS.cell 5);have x6:=cl (bS.cell 6);clear c0 c1 c2 c3 c4 c5 c6 hj' hX bS;generalize wr.heap.size=bx at*;generalize gY a.key=u0 at*;generalize a.s.may=u1 at*;generalize a.v.may=u2 at*;obtain⟨b,d2,d3,d4,hb0⟩:∃(b:ByteArray) (d2:Bool),d2=decide (0<k)/\(d2=true->IntKind.i64.wrap ((k:Int)-1)=((k-1:Nat):Int)/\((k-1:Nat):Int)<(n:Int)/\(Op.bytesLess a.key.toList b.toList||a.key.toList==b.toList)= !q/\X.cell? (ad.add ((k-1)*7))=some (.string b)/\(ad.add ((k-1)*7)).block<X.heap.size)/\(d2=false->q=true):=by
       by_cases hz:k=0
       · exact⟨a.key,false,by simp[hz],(nomatch ·),fun _=>hq0 hz⟩
       · obtain⟨b,h1⟩:=hj3 hz;exact⟨b,true,by simp;omega,fun _=>⟨by rw[IntKind.wrap_i64];omega,byOmega,h1⟩,(nomatch ·)⟩
      have hd2:=d3.symm;clear d3 hj3 hq0;generalize a.s.zero=u3 at*;generalize (a.v.k==0)=u4 at*;clear hs;cases u0
      rotate_left
      cases q;obtain rfl:d2=true:=by cases d2;exact absurd (hb0 rfl) (by decide);rfl
      rotate_left
      cases d2;cases u1
      rotate_left
      cases u2
      rotate_left 2
      cases u1
      rotate_left
      cases u2;all_goals
       try obtain⟨hw1,hw2,hle,dp,dq⟩:=d4 rfl
       try simp only[Bool.not_true,Bool.not_false]at hle
       clear d4 hb0;refine wp_region_held_drew (S:=fun W'=>Below X.heap.size X W') ah (aC).drew (fun hHeld=>?_);have s0:Below X.heap.size X X.drew:=(aC).drew;refine tc 0 19 ?_;go_frame;refine ts 1 20 rfl (fun W hw=>by have y0:=(hw.cell (p:=⟨bx,0,none⟩) hbx).trans x0;go_simp;try with_reducible rfl) ?_;go_frame;refine tr 2 rfl (fun K hK=>?_);go_simp
       (with_reducible refine(hka _).mono ?_)
       rintro e w4 ⟨rfl,hb2⟩;subst hb2;refine hK.out _ _ s0 (fun hHeld=>?_);clear hK K
       try go_frame
       refine tc 3 22 ?_;go_frame;refine tc 4 23 ?_;go_frame
       (first|refine tw 5 24 23 false ?_|refine tc 5 24 ?_)
       go_frame
       (first|refine tw 6 25 23 false ?_|refine tc 6 25 ?_)
       go_frame
       (first|refine tw 7 26 23 false ?_|refine tc 7 26 ?_)
       go_frame
       (first|refine tw 8 27 26 true ?_|refine tc 8 27 ?_)
       go_frame
       (first|refine tw 9 28 26 true ?_|refine ts 9 28 rfl (fun W hw=>by have y0:=(hw.cell (p:=⟨bx,0,none⟩) hbx).trans x0;go_simp;try with_reducible rfl) ?_)
       go_frame
       (first|refine tw 10 29 26 true ?_|refine tc 10 29 ?_)
       go_frame
       (first|refine tw 11 30 26 true ?_|refine tc 11 30 ?_)
       go_frame
       (first|refine tw 12 31 26 true ?_|refine tc 12 31 ?_)
       go_frame
       (first|refine tw 13 32 26 true ?_|refine tc 13 32 ?_)
       go_frame
       (first|refine tw 14 33 26 true ?_|refine tc 14 33 ?_)
       go_frame
       (first|refine tw 15 34 26 true ?_|refine ts 15 34 rfl (fun W hw=>by have yp:=(hw.cell dq).trans dp;go_simp;try with_reducible rfl) ?_)
       go_frame
       (first|refine tw 16 35 26 true ?_|refine tc 16 35 ?_)
       go_frame
       (first|refine tw 17 36 23 false ?_|refine tc 17 36 ?_)
       go_frame;refine tc 18 37 ?_;go_frame;refine tc 19 38 ?_;go_frame
       (first|refine tw 20 39 38 false ?_|refine tc 20 39 ?_)
       go_frame
       (first|refine tw 21 40 38 false ?_|refine ts 21 40 rfl (fun W hw=>by have y4:=(hw.cell (p:=⟨bx,4,none⟩) hbx).trans x4;have y5:=(hw.cell (p:=⟨bx,5,none⟩) hbx).trans x5;have y6:=(hw.cell (p:=⟨bx,6,none⟩) hbx).trans x6;go_simp;try with_reducible rfl) ?_)
       go_frame
       first
        |(refine tw 22 41 38 false ?_
          go_frame)
        |(refine tr 22 rfl (fun K hK=>?_)
          go_simp
          (with_reducible refine(hm _).mono ?_)
          rintro e w5 ⟨rfl,Nk⟩;replace s0:=s0.trans (Nk.mono s0.size);refine hK.out _ _ s0 (fun hHeld=>?_);clear hK K
          try go_frame)
       (first|refine tw 23 42 38 false ?_|refine tc 23 42 ?_)
       go_frame;refine tc 24 43 ?_;go_frame;refine tc 25 44 ?_;go_frame
       (first|refine tw 26 45 44 false ?_|refine tc 26 45 ?_)
       go_frame
       (first|refine tw 27 46 44 false ?_|refine ts 27 46 rfl (fun W hw=>by have y1:=(hw.cell (p:=⟨bx,1,none⟩) hbx).trans x1;have y2:=(hw.cell (p:=⟨bx,2,none⟩) hbx).trans x2;have y3:=(hw.cell (p:=⟨bx,3,none⟩) hbx).trans x3;go_simp;try with_reducible rfl) ?_)
       go_frame
       first
        |(refine tw 28 47 44 false ?_
          go_frame)
        |(refine tr 28 rfl (fun K hK=>?_)
          go_simp
          (with_reducible refine(hv _).mono ?_)
          rintro e w6 ⟨rfl,aia⟩;replace s0:=s0.trans (aia.mono s0.size);refine hK.out _ _ s0 (fun hHeld=>?_);clear hK K
          try go_frame)
       (first|refine tw 29 48 44 false ?_|refine tc 29 48 ?_)
       go_frame;refine tc 30 49 ?_;go_frame;refine td ?_;have hZ:=hY.trans (s0.mono hY.size)
       first
        |(have e:iJ l=false:=by rw[HB.out,<-HS.out,<-HD.out,HF.out];simp
          go_wp2;go_ret;rw[e];exact⟨rfl,hZ⟩)
        |(have y1:=(s0.cell (p:=⟨bx,1,none⟩) hbx).trans x1
          have y4:=(s0.cell (p:=⟨bx,4,none⟩) hbx).trans x4;have y5:=(s0.cell (p:=⟨bx,5,none⟩) hbx).trans x5;have y6:=(s0.cell (p:=⟨bx,6,none⟩) hbx).trans x6;cases u3<;>cases u4
          all_goals
           go_wp2
           first
                   |(go_ret
                     have e:iJ l=false:=(by rw[HB.out,<-HS.out,<-HD.out,HF.out];simp);rw[e];exact⟨rfl,hZ⟩)
                   |(go_roundw
                     case rel=>
                      refine⟨k+1,byOmega,by go_num,?_,?_,hZ⟩
                      · rw[<-HS.out];simp
                      · rw[<-HD.out,HF.out];simp
                     case measure=>simp[intOf];omega))
    · have hd1:decide ((k:Int)<(n:Int))=false:=ay;have HS:=au (show iJ l=true by rw[hrb,<-hs,<-hd,bF (by omega:l.length<=k),bF (by rw[List.length_map];omega:(l.map (·.key)).length<=k)];rfl);clear hs hd hl;go_wp2;go_ret;rw[HS.out];exact⟨rfl,hb⟩
 · have hb0:decide ((16:Int)<(n:Int))=true:=ay;have HF:=au (show iJ l=false by unfold iJ cu;rw[List.length_map,hl];simp;omega);clear hl;go_enter Tryz.func67,Tryz.ntmps67;go_wp2;go_ret;rw[HF.out];exact⟨rfl,aC⟩
