/- The walks of pairs: keys that rise with values. The program's and the document's. -/
import Derived.Test.YtcalkfgibflbnaaGreatBabe
namespace Go.Proofs.YtcalkfgibflbnaaGreat
set_option maxHeartbeats 16000000
set_option maxRecDepth 100000
set_option linter.unusedVariables false
open Go.RowKit Fl
attribute [local go_sem] dJ
def vU:Option ByteArray->List Wt->Bool
 |_,[]=>true
 |p,a::l=>gY a.key&&(match p with|none=>true|some q=>bl q a.key)&&a.v.may&& !(a.v.k==0)&&vU (some a.key) l
def pF (l:List Wt):Bool:=vU none l
theorem TY {l:List Wt} {k:Nat} {a:Wt} (h:l[k]?=some a):
 vU (nC l k) (l.drop k)=(gY a.key&&(match nC l k with|none=>true|some q=>bl q a.key)&&a.v.may&& !(a.v.k==0)&&vU (nC l (k+1)) (l.drop (k+1))):=by
 have h1:=List.getElem?_eq_some_iff.1 h;rw[List.drop_eq_getElem_cons h1.1,h1.2,show nC l (k+1)=some a.key from by show (l[k]?).map (·.key)=_;rw[h];rfl];rfl
def Ua (l:List Wt) (w:World) (i:Value) (wr:World):Prop:=∃k:Nat,k<=l.length/\i=.int .i64 (k:Int)/\vU (nC l k) (l.drop k)=vU none l/\Below w.heap.size w wr
theorem adh (A:Option Addr) (n c:Nat) (l:List Wt) (w:World) (h:Sl aF 4 w w.heap.size A n l) (hn:n<=maxLen):
 Calls Tryz.prog 228 #[.slice A n c] w fun e w'=>e=.returned (.bool (pF l))/\Below w.heap.size w w':=by
 unfold maxLen at hn;have hl:=h.1;have hge:n<=l.length:=byOmega;go_enter Tryz.func228,Tryz.ntmps228;go_wp2
 go_loopw [7] (fun i wr=>Ua l w i wr) (fun i _=>n-(intOf i).toNat)
 case atStart=>exact⟨0,byOmega,rfl,rfl,aC⟩
 case round=>
  obtain⟨k,hk,rfl,hs,hb⟩:=hrel;have hzz:=hb.size;by_cases hlt:k<n
  · have hS:=(h.below aF.kept hb).more aF.kept hb.size;obtain⟨ad,a,rfl,ha,hbk,hok,c0,c1,c2,c3⟩:=hS.wt hlt;have hka:=fun w=>EU a.key w
    have hva:=fun w=>Du a.v w
    have hd1:decide ((k:Int)<(n:Int))=true:=ay;have hk0:(0:Int)<=(k:Int):=byOmega;have hk1:(k:Int)<(n:Int):=byOmega;rw[TY ha]at hs;obtain⟨q,hs,hq0,hq⟩:∃q:Bool,(gY a.key&&q&&a.v.may&& !(a.v.k==0)&&vU (nC l (k+1)) (l.drop (k+1)))=vU none l/\(k=0->q=true)/\(∀b,nC l k=some b->q=bl b a.key):=
        ⟨_,hs,by rintro rfl;rfl,fun b hb=>by rw[hb]⟩
    have hX:Below wr.heap.size wr (wr.alloc (.cells #[.string a.key,.int .i64 a.v.k,.float .f64 a.v.n,.string a.v.t] 105)):=aJ;have bS:=aj.new wr 105 #[.string a.key,.int .i64 a.v.k,.float .f64 a.v.n,.string a.v.t];obtain⟨b,d2,d3,d4,hb0⟩:∃(b:ByteArray) (d2:Bool),d2=decide (0<k)/\(d2=true->IntKind.i64.wrap ((k:Int)-1)=((k-1:Nat):Int)/\((k-1:Nat):Int)<(n:Int)/\(Op.bytesLess a.key.toList b.toList||a.key.toList==b.toList)= !q/\Op.bytesLess b.toList a.key.toList=q/\(wr.alloc (.cells #[.string a.key,.int .i64 a.v.k,.float .f64 a.v.n,.string a.v.t] 105)).cell? (ad.add ((k-1)*4))=some (.string b)/\(ad.add ((k-1)*4)).block<(wr.alloc (.cells #[.string a.key,.int .i64 a.v.k,.float .f64 a.v.n,.string a.v.t] 105)).heap.size)/\(d2=false->q=true):=by
        by_cases hz:k=0
        · exact⟨a.key,false,by simp[hz],(nomatch ·),fun _=>hq0 hz⟩
        · obtain⟨ad',b,e',hb',gq,hok',d0,-⟩:=hS.wt (k:=k-1) byOmega;injection e' with e'
          subst e';have hab:nC l k=some b.key:=by
           cases k with
           |zero=>exact absurd rfl hz
           |succ j=>show (l[j]?).map (·.key)=_;rw[show l[j]?=some b from hb'];rfl
          exact⟨b.key,true,by simp;omega,fun _=>⟨by rw[IntKind.wrap_i64];omega,byOmega,by rw[hq _ hab,BP];unfold leB;simp,(hq _ hab).symm,(hX.cell gq).trans d0,Nat.lt_of_lt_of_le gq hX.size⟩,(nomatch ·)⟩
    have hj2:((k:Int)-1).toNat=k-1:=byOmega;have HS:=au hs;clear hs ha hq hq0 hl hS;go_upto_region 4 with (refine xO rfl 105 _ _ rfl _ rfl rfl _ _ ah ah ah ?_);have cX:=(hX.cell hbk).trans c0;have Nj:=Nat.lt_of_lt_of_le hbk hX.size;generalize (wr.alloc (.cells #[.string a.key,.int .i64 a.v.k,.float .f64 a.v.n,.string a.v.t] 105))=X at*;have hbx:=bS.lt;have hY:=hb.trans (hX.mono hzz);have x0:=cl (bS.cell 0);have x1:=cl (bS.cell 1);have x2:=cl (bS.cell 2);have x3:=cl (bS.cell 3);clear c0 c1 c2 c3 hX bS hbk;generalize wr.heap.size=bx at*;generalize gY a.key=u0 at*;generalize a.v.may=u1 at*;obtain⟨u4,hk8⟩:∃u4,(a.v.k==0)=u4:=⟨_,rfl⟩;rw[hk8]at HS;have hd2:=d3.symm;clear d3;cases u0
    rotate_left
    cases q;obtain rfl:d2=true:=by cases d2;exact absurd (hb0 rfl) (by decide);rfl
    rotate_left
    cases d2;cases u1
    rotate_left
    cases u4
    rotate_left 2
    cases u1
    rotate_left
    cases u4;all_goals
        try obtain⟨hw1,hw2,hle,hle2,dp,dq⟩:=d4 rfl
        try simp only[Bool.not_true,Bool.not_false]at hle
        clear d4 hb0;refine wp_region_held_drew (S:=fun W'=>Below X.heap.size X W') ah (aC).drew (fun hHeld=>?_);have s0:Below X.heap.size X X.drew:=(aC).drew;refine tc 0 12 ?_;go_frame;refine ts 1 13 rfl (fun W hw=>by have y0:=(hw.cell (p:=⟨bx,0,none⟩) hbx).trans x0;go_simp;try with_reducible rfl) ?_;go_frame;refine tr 2 rfl (fun K hK=>?_);go_simp
        (with_reducible refine(hka _).mono ?_)
        rintro e w4 ⟨rfl,hb2⟩;subst hb2;refine hK.out _ _ s0 (fun hHeld=>?_);clear hK K
        try go_frame
        refine tc 3 15 ?_;go_frame;refine tc 4 16 ?_;go_frame
        (first|refine tw 5 17 16 false ?_|refine tc 5 17 ?_)
        go_frame
        (first|refine tw 6 18 16 false ?_|refine tc 6 18 ?_)
        go_frame
        (first|refine tw 7 19 16 false ?_|refine tc 7 19 ?_)
        go_frame
        (first|refine tw 8 20 19 true ?_|refine tc 8 20 ?_)
        go_frame
        (first|refine tw 9 21 19 true ?_|refine tc 9 21 ?_)
        go_frame
        (first|refine tw 10 22 19 true ?_|refine tc 10 22 ?_)
        go_frame
        (first|refine tw 11 23 19 true ?_|refine tc 11 23 ?_)
        go_frame
        (first|refine tw 12 24 19 true ?_|refine tc 12 24 ?_)
        go_frame
        (first|refine tw 13 25 19 true ?_|refine ts 13 25 rfl (fun W hw=>by have yp:=(hw.cell dq).trans dp;go_simp;try with_reducible rfl) ?_)
        go_frame
        (first|refine tw 14 26 19 true ?_|refine tc 14 26 ?_)
        go_frame
        (first|refine tw 15 27 19 true ?_|refine ts 15 27 rfl (fun W hw=>by have y0:=(hw.cell (p:=⟨bx,0,none⟩) hbx).trans x0;go_simp;try with_reducible rfl) ?_)
        go_frame
        (first|refine tw 16 28 19 true ?_|refine tc 16 28 ?_)
        go_frame
        (first|refine tw 17 29 16 false ?_|refine tc 17 29 ?_)
        go_frame;refine tc 18 30 ?_;go_frame;refine tc 19 31 ?_;go_frame
        (first|refine tw 20 32 31 false ?_|refine tc 20 32 ?_)
        go_frame
        (first|refine tw 21 33 31 false ?_|refine ts 21 33 rfl (fun W hw=>by have y1:=(hw.cell (p:=⟨bx,1,none⟩) hbx).trans x1;have y2:=(hw.cell (p:=⟨bx,2,none⟩) hbx).trans x2;have y3:=(hw.cell (p:=⟨bx,3,none⟩) hbx).trans x3;go_simp;try with_reducible rfl) ?_)
        go_frame
        first
         |(refine tw 22 34 31 false ?_
           go_frame)
         |(refine tr 22 rfl (fun K hK=>?_)
           go_simp
           (with_reducible refine(hva _).mono ?_)
           rintro e w5 ⟨rfl,Nk⟩;replace s0:=s0.trans (Nk.mono s0.size);refine hK.out _ _ s0 (fun hHeld=>?_);clear hK K
           try go_frame)
        (first|refine tw 23 35 31 false ?_|refine tc 23 35 ?_)
        go_frame;refine tc 24 36 ?_;go_frame;refine tc 25 37 ?_;go_frame
        (first|refine tw 26 38 37 false ?_|refine tc 26 38 ?_)
        go_frame
        (first|refine tw 27 39 37 false ?_|refine tc 27 39 ?_)
        go_frame
        (first|refine tw 28 40 37 false ?_|refine ts 28 40 rfl (fun W hw=>by have y1:=(hw.cell (p:=⟨bx,1,none⟩) hbx).trans x1;go_simp;try with_reducible rfl) ?_)
        go_frame
        (first|refine tw 29 41 37 false ?_|refine tc 29 41 ?_)
        go_frame;refine tc 30 42 ?_;go_frame;refine td ?_;have hZ:=hY.trans (s0.mono hY.size)
        first
         |(have e:pF l=false:=by unfold pF;rw[<-HS.out];simp
           go_wp2;go_ret;rw[e];exact⟨rfl,hZ⟩)
         |(go_wp2
           go_roundw
           case rel=>exact⟨k+1,byOmega,by go_num,by rw[<-HS.out];simp,hZ⟩
           case measure=>simp[intOf];omega)
  · have hd1:decide ((k:Int)<(n:Int))=false:=ay;rw[bF byOmega]at hs;have HS:=au (show pF l=true from hs.symm);clear hs hl;go_wp2;go_ret;rw[HS.out];exact⟨rfl,hb⟩
theorem adi (A:Option Addr) (n c:Nat) (l:List Wt) (w:World) (h:Sl aF 4 w w.heap.size A n l) (hn:n<=maxLen):
 Calls Tryz.prog 210 #[.slice A n c] w fun e w'=>e=.returned (.bool (pF l))/\Below w.heap.size w w':=by
 unfold maxLen at hn;have hl:=h.1;have hge:n<=l.length:=byOmega;go_enter Tryz.func210,Tryz.ntmps210;go_wp2
 go_loopw [3] (fun i wr=>Ua l w i wr) (fun i _=>n-(intOf i).toNat)
 case atStart=>exact⟨0,byOmega,rfl,rfl,aC⟩
 case round=>
  obtain⟨k,hk,rfl,hs,hb⟩:=hrel;have hzz:=hb.size;by_cases hlt:k<n
  · have hS:=(h.below aF.kept hb).more aF.kept hb.size;obtain⟨ad,a,rfl,ha,hbk,hok,c0,c1,c2,c3⟩:=hS.wt hlt;have hka:=fun w=>EW a.key w
    have hva:=fun w=>DX a.v w
    have hd1:decide ((k:Int)<(n:Int))=true:=ay;have hk0:(0:Int)<=(k:Int):=byOmega;have hk1:(k:Int)<(n:Int):=byOmega;rw[TY ha]at hs;obtain⟨q,hs,hq0,hq⟩:∃q:Bool,(gY a.key&&q&&a.v.may&& !(a.v.k==0)&&vU (nC l (k+1)) (l.drop (k+1)))=vU none l/\(k=0->q=true)/\(∀b,nC l k=some b->q=bl b a.key):=
        ⟨_,hs,by rintro rfl;rfl,fun b hb=>by rw[hb]⟩
    have hX:Below wr.heap.size wr (wr.alloc (.cells #[.int .i64 a.v.k,.float .f64 a.v.n,.string a.v.t] 59)):=aJ;have bS:=aj.new wr 59 #[.int .i64 a.v.k,.float .f64 a.v.n,.string a.v.t];obtain⟨b,d2,d3,d4,hb0⟩:∃(b:ByteArray) (d2:Bool),d2=decide (0<k)/\(d2=true->IntKind.i64.wrap ((k:Int)-1)=((k-1:Nat):Int)/\((k-1:Nat):Int)<(n:Int)/\(Op.bytesLess a.key.toList b.toList||a.key.toList==b.toList)= !q/\Op.bytesLess b.toList a.key.toList=q/\(wr.alloc (.cells #[.int .i64 a.v.k,.float .f64 a.v.n,.string a.v.t] 59)).cell? (ad.add ((k-1)*4))=some (.string b)/\(ad.add ((k-1)*4)).block<(wr.alloc (.cells #[.int .i64 a.v.k,.float .f64 a.v.n,.string a.v.t] 59)).heap.size)/\(d2=false->q=true):=by
        by_cases hz:k=0
        · exact⟨a.key,false,by simp[hz],(nomatch ·),fun _=>hq0 hz⟩
        · obtain⟨ad',b,e',hb',gq,hok',d0,-⟩:=hS.wt (k:=k-1) byOmega;injection e' with e'
          subst e';have hab:nC l k=some b.key:=by
           cases k with
           |zero=>exact absurd rfl hz
           |succ j=>show (l[j]?).map (·.key)=_;rw[show l[j]?=some b from hb'];rfl
          exact⟨b.key,true,by simp;omega,fun _=>⟨by rw[IntKind.wrap_i64];omega,byOmega,by rw[hq _ hab,BP];unfold leB;simp,(hq _ hab).symm,(hX.cell gq).trans d0,Nat.lt_of_lt_of_le gq hX.size⟩,(nomatch ·)⟩
    have hj2:((k:Int)-1).toNat=k-1:=byOmega;have HS:=au hs;clear hs ha hq hq0 hl hS;go_upto_region 5 with (refine xO rfl 59 _ _ rfl _ rfl rfl _ _ ah ah ah ?_);have cX:=(hX.cell hbk).trans c0;have Nj:=Nat.lt_of_lt_of_le hbk hX.size;generalize (wr.alloc (.cells #[.int .i64 a.v.k,.float .f64 a.v.n,.string a.v.t] 59))=X at*;have hbx:=bS.lt;have hY:=hb.trans (hX.mono hzz);have x0:=cl (bS.cell 0);have x1:=cl (bS.cell 1);have x2:=cl (bS.cell 2);clear c0 c1 c2 c3 hX bS hbk;generalize wr.heap.size=bx at*;generalize gY a.key=u0 at*;generalize a.v.may=u1 at*;obtain⟨u4,hk8⟩:∃u4,(a.v.k==0)=u4:=⟨_,rfl⟩;rw[hk8]at HS;have hd2:=d3.symm;clear d3;cases u0
    rotate_left
    cases q;obtain rfl:d2=true:=by cases d2;exact absurd (hb0 rfl) (by decide);rfl
    rotate_left
    cases d2;cases u1
    rotate_left
    cases u4
    rotate_left 2
    cases u1
    rotate_left
    cases u4;all_goals
        try obtain⟨hw1,hw2,hle,hle2,dp,dq⟩:=d4 rfl
        try simp only[Bool.not_true,Bool.not_false]at hle
        clear d4 hb0;refine wp_region_held_drew (S:=fun W'=>Below X.heap.size X W') ah (aC).drew (fun hHeld=>?_);have s0:Below X.heap.size X X.drew:=(aC).drew;refine tc 0 16 ?_;go_frame;refine tc 1 17 ?_;go_frame;refine tc 2 18 ?_;go_frame;refine tc 3 19 ?_;go_frame;refine ts 4 20 rfl (fun W hw=>by have yc:=(hw.cell Nj).trans cX;go_simp;try with_reducible rfl) ?_;go_frame;refine tr 5 rfl (fun K hK=>?_);go_simp
        (with_reducible refine(hka _).mono ?_)
        rintro e w4 ⟨rfl,hb5⟩;subst hb5;refine hK.out _ _ s0 (fun hHeld=>?_);clear hK K
        try go_frame
        refine tc 6 22 ?_;go_frame;refine tc 7 23 ?_;go_frame
        (first|refine tw 8 24 23 false ?_|refine tc 8 24 ?_)
        go_frame
        (first|refine tw 9 25 23 false ?_|refine tc 9 25 ?_)
        go_frame
        (first|refine tw 10 26 23 false ?_|refine tc 10 26 ?_)
        go_frame
        (first|refine tw 11 27 26 true ?_|refine tc 11 27 ?_)
        go_frame
        (first|refine tw 12 28 26 true ?_|refine tc 12 28 ?_)
        go_frame
        (first|refine tw 13 29 26 true ?_|refine tc 13 29 ?_)
        go_frame
        (first|refine tw 14 30 26 true ?_|refine tc 14 30 ?_)
        go_frame
        (first|refine tw 15 31 26 true ?_|refine ts 15 31 rfl (fun W hw=>by have yc:=(hw.cell Nj).trans cX;go_simp;try with_reducible rfl) ?_)
        go_frame
        (first|refine tw 16 32 26 true ?_|refine tc 16 32 ?_)
        go_frame
        (first|refine tw 17 33 26 true ?_|refine tc 17 33 ?_)
        go_frame
        (first|refine tw 18 34 26 true ?_|refine tc 18 34 ?_)
        go_frame
        (first|refine tw 19 35 26 true ?_|refine tc 19 35 ?_)
        go_frame
        (first|refine tw 20 36 26 true ?_|refine tc 20 36 ?_)
        go_frame
        (first|refine tw 21 37 26 true ?_|refine ts 21 37 rfl (fun W hw=>by have yp:=(hw.cell dq).trans dp;go_simp;try with_reducible rfl) ?_)
        go_frame
        (first|refine tw 22 38 26 true ?_|refine tc 22 38 ?_)
        go_frame
        (first|refine tw 23 39 23 false ?_|refine tc 23 39 ?_)
        go_frame;refine tc 24 40 ?_;go_frame;refine tc 25 41 ?_;go_frame
        (first|refine tw 26 42 41 false ?_|refine ts 26 42 rfl (fun W hw=>by have y0:=(hw.cell (p:=⟨bx,0,none⟩) hbx).trans x0;have y1:=(hw.cell (p:=⟨bx,1,none⟩) hbx).trans x1;have y2:=(hw.cell (p:=⟨bx,2,none⟩) hbx).trans x2;go_simp;try with_reducible rfl) ?_)
        go_frame
        first
         |(refine tw 27 43 41 false ?_
           go_frame)
         |(refine tr 27 rfl (fun K hK=>?_)
           go_simp
           (with_reducible refine(hva _).mono ?_)
           rintro e w5 ⟨rfl,adk⟩;replace s0:=s0.trans (adk.mono s0.size);refine hK.out _ _ s0 (fun hHeld=>?_);clear hK K
           try go_frame)
        (first|refine tw 28 44 41 false ?_|refine tc 28 44 ?_)
        go_frame;refine tc 29 45 ?_;go_frame;refine tc 30 46 ?_;go_frame
        (first|refine tw 31 47 46 false ?_|refine tc 31 47 ?_)
        go_frame
        (first|refine tw 32 48 46 false ?_|refine ts 32 48 rfl (fun W hw=>by have y0:=(hw.cell (p:=⟨bx,0,none⟩) hbx).trans x0;go_simp;try with_reducible rfl) ?_)
        go_frame
        (first|refine tw 33 49 46 false ?_|refine tc 33 49 ?_)
        go_frame;refine tc 34 50 ?_;go_frame;refine td ?_;have hZ:=hY.trans (s0.mono hY.size)
        first
         |(have e:pF l=false:=by unfold pF;rw[<-HS.out];simp
           go_wp2;go_ret;rw[e];exact⟨rfl,hZ⟩)
         |(go_wp2
           go_roundw
           case rel=>exact⟨k+1,byOmega,by go_num,by rw[<-HS.out];simp,hZ⟩
           case measure=>simp[intOf];omega)
  · have hd1:decide ((k:Int)<(n:Int))=false:=ay;rw[bF byOmega]at hs;have HS:=au (show pF l=true from hs.symm);clear hs hl;go_wp2;go_ret;rw[HS.out];exact⟨rfl,hb⟩
