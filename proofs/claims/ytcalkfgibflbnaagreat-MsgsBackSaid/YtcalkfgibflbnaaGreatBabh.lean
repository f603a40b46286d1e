/- The walks of the document's writes and reads of what is pending. -/
import Derived.Test.YtcalkfgibflbnaaGreatBabe
namespace Go.Proofs.YtcalkfgibflbnaaGreat
set_option maxHeartbeats 4000000
set_option maxRecDepth 100000
open Go.RowKit Fl
attribute [local go_sem] dJ
def Ci (k:ByteArray) (l:List ByteArray):Bool:=l.any fun b=>b.toList==k.toList
theorem Uy (k:ByteArray) (l:List ByteArray):Ci k l=oQ k l:=by
 unfold Ci oQ
 congr 1
 funext b
 exact Bool.beq_comm
theorem aea (p:Pn) (A1:Option Addr) (n1 c1:Nat) (x:ByteArray) (A:Option Addr) (n c:Nat) (w:World) (h:Sl aF 4 w w.heap.size A n p.w) (hn:n<=maxLen):
 Calls Tryz.prog 211 #[p.val (.slice A1 n1 c1) (.slice A n c),.string x] w fun e w'=>e=.returned (.bool (jc x p.w))/\Below w.heap.size w w':=by
 unfold maxLen at hn;have hl:=h.1;have hge:n<=p.w.length:=byOmega;have hle:p.w.length<=n:=byOmega;have hX:Below w.heap.size w (w.alloc (.cells (p.arr (.slice A1 n1 c1) (.slice A n c)) 162)):=aJ;have i2:=aj.new w 162 (p.arr (.slice A1 n1 c1) (.slice A n c));clear hl;go_enter Tryz.func211,Tryz.ntmps211;go_wp2
 go_loopw [5] (fun i wr=>AY (fun a:Wt=>a.key.toList==x.toList) p.w (w.alloc (.cells (p.arr (.slice A1 n1 c1) (.slice A n c)) 162)) i wr) (fun i _=>n-(intOf i).toNat)
 case atStart=>exact⟨0,byOmega,rfl,rfl,aC⟩
 case round=>
  obtain⟨k,hk,rfl,hs,hb⟩:=hrel;have kD:Below w.heap.size w wr:=hX.trans (hb.mono hX.size);have y7:=(i2.below hb i2.lt).cell 7;simp only[List.getElem?_toArray,List.getElem?_cons_succ,getZero]at y7;have l2:=(i2.below hb i2.lt).lt;by_cases hlt:k<n
  · obtain⟨ad,a,rfl,ha,hbk,hok,c0,c1',c2',c3'⟩:=(h.below aF.kept kD).wt hlt;have hd1:decide ((k:Int)<(n:Int))=true:=ay;have hk0:(0:Int)<=(k:Int):=byOmega;have hk1:(k:Int)<(n:Int):=byOmega;rw[yM ha]at hs;by_cases hq:(a.key.toList==x.toList)=true
    · have HF:=au (show jc x p.w=true by unfold jc;rw[<-hs,hq];rfl);clear hs ha;go_wp2;go_ret;rw[HF.out];exact⟨rfl,kD⟩
    · have NC:(a.key.toList==x.toList)=false:=(by simpa using hq);rw[NC]at hs;have HT:=au hs;clear hs ha hq;go_wp2;go_roundw
      case rel=>exact⟨k+1,byOmega,by go_num,HT.out,hb⟩
      case measure=>simp[intOf];omega
  · have hd1:decide ((k:Int)<(n:Int))=false:=ay;have HF:=au (show jc x p.w=false by unfold jc;rw[<-hs,bF byOmega];rfl);clear hs;go_wp2;go_ret;rw[HF.out];exact⟨rfl,kD⟩
theorem aeb (p:Pn) (A2:Option Addr) (n2 c2:Nat) (x:ByteArray) (A:Option Addr) (n c:Nat) (w:World) (h:Sl aO 1 w w.heap.size A n p.r) (hn:n<=maxLen):
 Calls Tryz.prog 212 #[p.val (.slice A n c) (.slice A2 n2 c2),.string x] w fun e w'=>e=.returned (.bool (Ci x p.r))/\Below w.heap.size w w':=by
 unfold maxLen at hn;have hl:=h.1;have hge:n<=p.r.length:=byOmega;have hle:p.r.length<=n:=byOmega;have hX:Below w.heap.size w (w.alloc (.cells (p.arr (.slice A n c) (.slice A2 n2 c2)) 162)):=aJ;have i2:=aj.new w 162 (p.arr (.slice A n c) (.slice A2 n2 c2));clear hl;go_enter Tryz.func212,Tryz.ntmps212;go_wp2
 go_loopw [5] (fun i wr=>AY (fun b:ByteArray=>b.toList==x.toList) p.r (w.alloc (.cells (p.arr (.slice A n c) (.slice A2 n2 c2)) 162)) i wr) (fun i _=>n-(intOf i).toNat)
 case atStart=>exact⟨0,byOmega,rfl,rfl,aC⟩
 case round=>
  obtain⟨k,hk,rfl,hs,hb⟩:=hrel;have kD:Below w.heap.size w wr:=hX.trans (hb.mono hX.size);have y6:=(i2.below hb i2.lt).cell 6;simp only[List.getElem?_toArray,List.getElem?_cons_succ,getZero]at y6;have l2:=(i2.below hb i2.lt).lt;by_cases hlt:k<n
  · obtain⟨ad,a,rfl,ha,hbk,hok,c0⟩:=(h.below aO.kept kD).ky hlt;have hd1:decide ((k:Int)<(n:Int))=true:=ay;have hk0:(0:Int)<=(k:Int):=byOmega;have hk1:(k:Int)<(n:Int):=byOmega;rw[yM ha]at hs;by_cases hq:(a.toList==x.toList)=true
    · have HF:=au (show Ci x p.r=true by unfold Ci;rw[<-hs,hq];rfl);clear hs ha;go_wp2;go_ret;rw[HF.out];exact⟨rfl,kD⟩
    · have NC:(a.toList==x.toList)=false:=(by simpa using hq);rw[NC]at hs;have HT:=au hs;clear hs ha hq;go_wp2;go_roundw
      case rel=>exact⟨k+1,byOmega,by go_num,HT.out,hb⟩
      case measure=>simp[intOf];omega
  · have hd1:decide ((k:Int)<(n:Int))=false:=ay;have HF:=au (show Ci x p.r=false by unfold Ci;rw[<-hs,bF byOmega];rfl);clear hs;go_wp2;go_ret;rw[HF.out];exact⟨rfl,kD⟩
set_option linter.unusedVariables false
theorem Jr {α:Type} {f:α->Bool} {l:List α} {k:Nat} {a:α} (h:l[k]?=some a):(l.drop k).any f=(f a||(l.drop (k+1)).any f):=by
 have h1:=List.getElem?_eq_some_iff.1 h;rw[List.drop_eq_getElem_cons h1.1,h1.2];rfl
def Uz {α:Type} (f:α->Bool) (l:List α) (p q:Pn) (A1 A2 A3 A4:Value) (w:World) (i:Value) (wr:World):Prop:=
 ∃k:Nat,k<=l.length/\i=.int .i64 (k:Int)/\(l.drop k).any f=l.any f/\Below w.heap.size w wr/\aj wr w.heap.size 162 (p.arr A1 A2)/\aj wr (w.heap.size+1) 162 (q.arr A3 A4)
set_option maxRecDepth 100000 in
set_option maxHeartbeats 8000000 in
theorem aec (p q:Pn) (A1 A2 A3 A4:Option Addr) (n1 n2 n3 n4 c1 c2 c3 c4:Nat) (w:World) (h1:Sl aO 1 w w.heap.size A1 n1 p.r) (h2:Sl aF 4 w w.heap.size A2 n2 p.w) (h3:Sl aO 1 w w.heap.size A3 n3 q.r) (h4:Sl aF 4 w w.heap.size A4 n4 q.w)
 (hn1:n1<=maxLen) (hn2:n2<=maxLen) (hn3:n3<=maxLen) (hn4:n4<=maxLen):
 Calls Tryz.prog 178 #[p.val (.slice A1 n1 c1) (.slice A2 n2 c2),q.val (.slice A3 n3 c3) (.slice A4 n4 c4)] w fun e w'=>e=.returned (.bool (rD q p))/\Below w.heap.size w w':=by
 have hcl:rD q p=(p.w.any (fun a=>jc a.key q.w||oQ a.key q.r)||p.r.any (fun k=>jc k q.w)):=rfl;generalize rD q p=B at*;have HW:=au (fun (x:ByteArray) w' (hb:Below w.heap.size w w')=>aea q A3 n3 c3 x A4 n4 c4 w' ((h4.below aF.kept hb).more aF.kept hb.size) hn4);have HR:=au (fun (x:ByteArray) w' (hb:Below w.heap.size w w')=>aeb q A4 n4 c4 x A3 n3 c3 w' ((h3.below aO.kept hb).more aO.kept hb.size) hn3);unfold maxLen at hn1 hn2;have hl1:=h1.1;have hl2:=h2.1;have vN:n1<=p.r.length:=byOmega;have hle1:p.r.length<=n1:=byOmega;have yN:n2<=p.w.length:=byOmega;have hle2:p.w.length<=n2:=byOmega;clear hl1 hl2;go_enter Tryz.func178,Tryz.ntmps178;go_wp2
 go_loopw [5] (fun i wr=>Uz (fun a:Wt=>jc a.key q.w||oQ a.key q.r) p.w p q (.slice A1 n1 c1) (.slice A2 n2 c2) (.slice A3 n3 c3) (.slice A4 n4 c4) w i wr) (fun i _=>n2-(intOf i).toNat)
 case atStart=>exact⟨0,byOmega,rfl,rfl,by go_grown,(aj.new _ _ _).alloc _,aj.new' _ _ aA⟩
 case round=>
  obtain⟨k,hk,rfl,hs,hb,b2,b3⟩:=hrel;have hzz:=hb.size;obtain⟨l2,x0,x1,x2,x3,x4,x5,x6,z⟩:=b2.eight;obtain⟨l3,y0,y1,y2,y3,y4,y5,y6,y7⟩:=b3.eight;by_cases hlt:k<n2
  · obtain⟨ad,a,rfl,ha,hbk,hok,e0,-,-,-⟩:=((h2.below aF.kept hb).more aF.kept hb.size).wt hlt;have hd1:decide ((k:Int)<(n2:Int))=true:=ay;have hk0:(0:Int)<=(k:Int):=byOmega;have hk1:(k:Int)<(n2:Int):=byOmega;have hcw:=fun w' (hx:Below wr.heap.size wr w')=>HW.out a.key w' (hb.trans (hx.mono hzz))
    have hcr:=fun w' (hx:Below wr.heap.size wr w')=>HR.out a.key w' (hb.trans (hx.mono hzz))
    rw[Jr ha]at hs;clear ha x0 x1 x2 x3 x4 x5 x6;cases hw:jc a.key q.w
    · rw[hw]at hcw hs;cases hr:oQ a.key q.r
      · rw[Uy,hr]at hcr;rw[hr]at hs;have HS:=au (show (p.w.drop (k+1)).any (fun a:Wt=>jc a.key q.w||oQ a.key q.r)=p.w.any (fun a:Wt=>jc a.key q.w||oQ a.key q.r) from hs);clear hs hw hr;go_wp2;refine wp_region_held_drew (S:=fun w'=>w'.cell? ⟨w.heap.size+1,0,none⟩=some (.int .i64 q.t.c)/\w'.cell? ⟨w.heap.size+1,1,none⟩=some (.int .i64 q.t.l)/\w'.cell? ⟨w.heap.size+1,2,none⟩=some (.int .i64 q.t.s)/\w'.cell? ⟨w.heap.size+1,3,none⟩=some (.int .i64 q.s.w)/\w'.cell? ⟨w.heap.size+1,4,none⟩=some (.int .i64 q.s.l)/\w'.cell? ⟨w.heap.size+1,5,none⟩=some (.int .i64 q.s.n)/\w'.cell? ⟨w.heap.size+1,6,none⟩=some (.slice A3 n3 c3)/\w'.cell? ⟨w.heap.size+1,7,none⟩=some (.slice A4 n4 c4)/\w'.cell? ⟨w.heap.size,7,none⟩=some (.slice (some ad) n2 c2)/\w'.cell? (ad.add (k*4))=some (.string a.key)) ah ⟨y0,y1,y2,y3,y4,y5,y6,y7,z,e0⟩ (fun hHeld=>?_);refine t0 0 14 ?_;go_frame;refine t0 1 15 ?_;go_frame;refine t0 2 16 ?_;go_frame;refine t0 3 17 ?_;go_frame;refine t0 4 18 ?_;go_frame;refine t0 5 19 ?_;go_frame;refine t0 6 20 ?_;go_frame;refine tr 7 rfl fun K hK=>?_
        go_simp
        (with_reducible refine(hcw _ (aC).drew).mono ?_)
        rintro e w5 ⟨rfl,hb5⟩;have aB:Below wr.heap.size wr w5:=(Below.refl wr.heap.size wr).drew.trans hb5;refine hK.out _ _ ⟨(aB.cell (by exact l3)).trans y0,(aB.cell (by exact l3)).trans y1,(aB.cell (by exact l3)).trans y2,(aB.cell (by exact l3)).trans y3,(aB.cell (by exact l3)).trans y4,(aB.cell (by exact l3)).trans y5,(aB.cell (by exact l3)).trans y6,(aB.cell (by exact l3)).trans y7,(aB.cell (by exact l2)).trans z,(aB.cell (by exact hbk)).trans e0⟩ (fun hHeld=>?_);clear hK K
        try go_frame
        refine t0 8 22 ?_;go_frame;refine t0 9 23 ?_;go_frame;refine t0 10 24 ?_;go_frame;refine t0 11 25 ?_;go_frame;refine t0 12 26 ?_;go_frame;refine t0 13 27 ?_;go_frame;refine t0 14 28 ?_;go_frame;refine t0 15 29 ?_;go_frame;refine tr 16 rfl fun K hK=>?_
        go_simp
        (with_reducible refine(hcr _ aB).mono ?_)
        rintro e w6 ⟨rfl,hb6⟩;have hb8:Below wr.heap.size wr w6:=aB.trans (hb6.mono aB.size);refine hK.out _ _ ⟨(hb8.cell (by exact l3)).trans y0,(hb8.cell (by exact l3)).trans y1,(hb8.cell (by exact l3)).trans y2,(hb8.cell (by exact l3)).trans y3,(hb8.cell (by exact l3)).trans y4,(hb8.cell (by exact l3)).trans y5,(hb8.cell (by exact l3)).trans y6,(hb8.cell (by exact l3)).trans y7,(hb8.cell (by exact l2)).trans z,(hb8.cell (by exact hbk)).trans e0⟩ (fun hHeld=>?_);clear hK K
        try go_frame
        refine t0 17 31 ?_;go_frame;refine td ?_;go_wp2;go_roundw
        case rel=>exact⟨k+1,byOmega,by go_num,HS.out,hb.trans (hb8.mono hzz),b2.below hb8 l2,b3.below hb8 l3⟩
        case measure=>simp[intOf];omega
      · rw[Uy,hr]at hcr;rw[hr]at hs;have HF:=au (show B=true by rw[hcl,<-hs];rfl);clear hs hw hr;go_wp2;refine wp_region_held_drew (S:=fun w'=>w'.cell? ⟨w.heap.size+1,0,none⟩=some (.int .i64 q.t.c)/\w'.cell? ⟨w.heap.size+1,1,none⟩=some (.int .i64 q.t.l)/\w'.cell? ⟨w.heap.size+1,2,none⟩=some (.int .i64 q.t.s)/\w'.cell? ⟨w.heap.size+1,3,none⟩=some (.int .i64 q.s.w)/\w'.cell? ⟨w.heap.size+1,4,none⟩=some (.int .i64 q.s.l)/\w'.cell? ⟨w.heap.size+1,5,none⟩=some (.int .i64 q.s.n)/\w'.cell? ⟨w.heap.size+1,6,none⟩=some (.slice A3 n3 c3)/\w'.cell? ⟨w.heap.size+1,7,none⟩=some (.slice A4 n4 c4)/\w'.cell? ⟨w.heap.size,7,none⟩=some (.slice (some ad) n2 c2)/\w'.cell? (ad.add (k*4))=some (.string a.key)) ah ⟨y0,y1,y2,y3,y4,y5,y6,y7,z,e0⟩ (fun hHeld=>?_);refine t0 0 14 ?_;go_frame;refine t0 1 15 ?_;go_frame;refine t0 2 16 ?_;go_frame;refine t0 3 17 ?_;go_frame;refine t0 4 18 ?_;go_frame;refine t0 5 19 ?_;go_frame;refine t0 6 20 ?_;go_frame;refine tr 7 rfl fun K hK=>?_
        go_simp
        (with_reducible refine(hcw _ (aC).drew).mono ?_)
        rintro e w5 ⟨rfl,hb5⟩;have aB:Below wr.heap.size wr w5:=(Below.refl wr.heap.size wr).drew.trans hb5;refine hK.out _ _ ⟨(aB.cell (by exact l3)).trans y0,(aB.cell (by exact l3)).trans y1,(aB.cell (by exact l3)).trans y2,(aB.cell (by exact l3)).trans y3,(aB.cell (by exact l3)).trans y4,(aB.cell (by exact l3)).trans y5,(aB.cell (by exact l3)).trans y6,(aB.cell (by exact l3)).trans y7,(aB.cell (by exact l2)).trans z,(aB.cell (by exact hbk)).trans e0⟩ (fun hHeld=>?_);clear hK K
        try go_frame
        refine t0 8 22 ?_;go_frame;refine t0 9 23 ?_;go_frame;refine t0 10 24 ?_;go_frame;refine t0 11 25 ?_;go_frame;refine t0 12 26 ?_;go_frame;refine t0 13 27 ?_;go_frame;refine t0 14 28 ?_;go_frame;refine t0 15 29 ?_;go_frame;refine tr 16 rfl fun K hK=>?_
        go_simp
        (with_reducible refine(hcr _ aB).mono ?_)
        rintro e w6 ⟨rfl,hb6⟩;have hb8:Below wr.heap.size wr w6:=aB.trans (hb6.mono aB.size);refine hK.out _ _ ⟨(hb8.cell (by exact l3)).trans y0,(hb8.cell (by exact l3)).trans y1,(hb8.cell (by exact l3)).trans y2,(hb8.cell (by exact l3)).trans y3,(hb8.cell (by exact l3)).trans y4,(hb8.cell (by exact l3)).trans y5,(hb8.cell (by exact l3)).trans y6,(hb8.cell (by exact l3)).trans y7,(hb8.cell (by exact l2)).trans z,(hb8.cell (by exact hbk)).trans e0⟩ (fun hHeld=>?_);clear hK K
        try go_frame
        refine t0 17 31 ?_;go_frame;refine td ?_;go_wp2;go_ret;rw[HF.out];exact⟨rfl,hb.trans (hb8.mono hzz)⟩
    · rw[hw]at hcw hs;have HF:=au (show B=true by rw[hcl,<-hs];rfl);clear hs hw;go_wp2;refine wp_region_held_drew (S:=fun w'=>w'.cell? ⟨w.heap.size+1,0,none⟩=some (.int .i64 q.t.c)/\w'.cell? ⟨w.heap.size+1,1,none⟩=some (.int .i64 q.t.l)/\w'.cell? ⟨w.heap.size+1,2,none⟩=some (.int .i64 q.t.s)/\w'.cell? ⟨w.heap.size+1,3,none⟩=some (.int .i64 q.s.w)/\w'.cell? ⟨w.heap.size+1,4,none⟩=some (.int .i64 q.s.l)/\w'.cell? ⟨w.heap.size+1,5,none⟩=some (.int .i64 q.s.n)/\w'.cell? ⟨w.heap.size+1,6,none⟩=some (.slice A3 n3 c3)/\w'.cell? ⟨w.heap.size+1,7,none⟩=some (.slice A4 n4 c4)/\w'.cell? ⟨w.heap.size,7,none⟩=some (.slice (some ad) n2 c2)/\w'.cell? (ad.add (k*4))=some (.string a.key)) ah ⟨y0,y1,y2,y3,y4,y5,y6,y7,z,e0⟩ (fun hHeld=>?_);refine t0 0 14 ?_;go_frame;refine t0 1 15 ?_;go_frame;refine t0 2 16 ?_;go_frame;refine t0 3 17 ?_;go_frame;refine t0 4 18 ?_;go_frame;refine t0 5 19 ?_;go_frame;refine t0 6 20 ?_;go_frame;refine tr 7 rfl fun K hK=>?_
      go_simp
      (with_reducible refine(hcw _ (aC).drew).mono ?_)
      rintro e w5 ⟨rfl,hb5⟩;have aB:Below wr.heap.size wr w5:=(Below.refl wr.heap.size wr).drew.trans hb5;refine hK.out _ _ ⟨(aB.cell (by exact l3)).trans y0,(aB.cell (by exact l3)).trans y1,(aB.cell (by exact l3)).trans y2,(aB.cell (by exact l3)).trans y3,(aB.cell (by exact l3)).trans y4,(aB.cell (by exact l3)).trans y5,(aB.cell (by exact l3)).trans y6,(aB.cell (by exact l3)).trans y7,(aB.cell (by exact l2)).trans z,(aB.cell (by exact hbk)).trans e0⟩ (fun hHeld=>?_);clear hK K
      try go_frame
      refine t0 8 22 ?_;go_frame;refine tn 9 23 ?_;go_frame;refine tn 10 24 ?_;go_frame;refine tn 11 25 ?_;go_frame;refine tn 12 26 ?_;go_frame;refine tn 13 27 ?_;go_frame;refine tn 14 28 ?_;go_frame;refine tn 15 29 ?_;go_frame;refine tn 16 30 ?_;go_frame;refine t0 17 31 ?_;go_frame;refine td ?_;go_wp2;go_ret;rw[HF.out];exact⟨rfl,hb.trans (aB.mono hzz)⟩
  · have hd1:decide ((k:Int)<(n2:Int))=false:=ay;have ND:B=p.r.any (fun k=>jc k q.w):=(by rw[hcl,<-hs,bF byOmega];rfl);clear hs hcl;go_wp2;obtain⟨w1,rfl⟩:∃w1,w1=wr:=⟨_,rfl⟩;clear x0 x1 x2 x3 x4 x5 x6 z y0 y1 y2 y3 y4 y5 y6 y7 l2 l3
    go_loopw [6] (fun i wr=>Uz (fun a:ByteArray=>jc a q.w) p.r p q (.slice A1 n1 c1) (.slice A2 n2 c2) (.slice A3 n3 c3) (.slice A4 n4 c4) w i wr) (fun i _=>n1-(intOf i).toNat)
    case atStart=>exact⟨0,byOmega,rfl,rfl,hb,b2,b3⟩
    case round=>
        clear hb b2 b3 hzz;obtain⟨k,hk,rfl,hs,hb,b2,b3⟩:=hrel;have hzz:=hb.size;obtain⟨l2,x0,x1,x2,x3,x4,x5,z,x7⟩:=b2.eight;obtain⟨l3,y0,y1,y2,y3,y4,y5,y6,y7⟩:=b3.eight;by_cases hlt:k<n1
        · obtain⟨ad,a,rfl,ha,hbk,hok,e0⟩:=((h1.below aO.kept hb).more aO.kept hb.size).ky hlt;have hd1:decide ((k:Int)<(n1:Int))=true:=ay;have hk0:(0:Int)<=(k:Int):=byOmega;have hk1:(k:Int)<(n1:Int):=byOmega;have hcw:=fun w' (hx:Below wr.heap.size wr w')=>HW.out a w' (hb.trans (hx.mono hzz))
          rw[Jr ha]at hs;clear ha x0 x1 x2 x3 x4 x5 x7;cases hw:jc a q.w
          · rw[hw]at hcw hs;have HS:=au (show (p.r.drop (k+1)).any (fun a:ByteArray=>jc a q.w)=p.r.any (fun a:ByteArray=>jc a q.w) from hs);clear hs hw;go_wp2;refine wp_region_held_drew (S:=fun w'=>w'.cell? ⟨w.heap.size+1,0,none⟩=some (.int .i64 q.t.c)/\w'.cell? ⟨w.heap.size+1,1,none⟩=some (.int .i64 q.t.l)/\w'.cell? ⟨w.heap.size+1,2,none⟩=some (.int .i64 q.t.s)/\w'.cell? ⟨w.heap.size+1,3,none⟩=some (.int .i64 q.s.w)/\w'.cell? ⟨w.heap.size+1,4,none⟩=some (.int .i64 q.s.l)/\w'.cell? ⟨w.heap.size+1,5,none⟩=some (.int .i64 q.s.n)/\w'.cell? ⟨w.heap.size+1,6,none⟩=some (.slice A3 n3 c3)/\w'.cell? ⟨w.heap.size+1,7,none⟩=some (.slice A4 n4 c4)/\w'.cell? ⟨w.heap.size,6,none⟩=some (.slice (some ad) n1 c1)/\w'.cell? (ad.add k)=some (.string a)) ah ⟨y0,y1,y2,y3,y4,y5,y6,y7,z,e0⟩ (fun hHeld=>?_);refine t0 0 39 ?_;go_frame;refine t0 1 40 ?_;go_frame;refine t0 2 41 ?_;go_frame;refine t0 3 42 ?_;go_frame;refine t0 4 43 ?_;go_frame;refine t0 5 44 ?_;go_frame;refine tr 6 rfl fun K hK=>?_
            go_simp
            (with_reducible refine(hcw _ (aC).drew).mono ?_)
            rintro e w5 ⟨rfl,hb5⟩;have aB:Below wr.heap.size wr w5:=(Below.refl wr.heap.size wr).drew.trans hb5;refine hK.out _ _ ⟨(aB.cell (by exact l3)).trans y0,(aB.cell (by exact l3)).trans y1,(aB.cell (by exact l3)).trans y2,(aB.cell (by exact l3)).trans y3,(aB.cell (by exact l3)).trans y4,(aB.cell (by exact l3)).trans y5,(aB.cell (by exact l3)).trans y6,(aB.cell (by exact l3)).trans y7,(aB.cell (by exact l2)).trans z,(aB.cell (by exact hbk)).trans e0⟩ (fun hHeld=>?_);clear hK K
            try go_frame
            refine td ?_;go_wp2;go_roundw
            case rel=>exact⟨k+1,byOmega,by go_num,HS.out,hb.trans (aB.mono hzz),b2.below aB l2,b3.below aB l3⟩
            case measure=>simp[intOf];omega
          · rw[hw]at hcw hs;have HF:=au (show B=true by rw[ND,<-hs];rfl);clear hs hw;go_wp2;refine wp_region_held_drew (S:=fun w'=>w'.cell? ⟨w.heap.size+1,0,none⟩=some (.int .i64 q.t.c)/\w'.cell? ⟨w.heap.size+1,1,none⟩=some (.int .i64 q.t.l)/\w'.cell? ⟨w.heap.size+1,2,none⟩=some (.int .i64 q.t.s)/\w'.cell? ⟨w.heap.size+1,3,none⟩=some (.int .i64 q.s.w)/\w'.cell? ⟨w.heap.size+1,4,none⟩=some (.int .i64 q.s.l)/\w'.cell? ⟨w.heap.size+1,5,none⟩=some (.int .i64 q.s.n)/\w'.cell? ⟨w.heap.size+1,6,none⟩=some (.slice A3 n3 c3)/\w'.cell? ⟨w.heap.size+1,7,none⟩=some (.slice A4 n4 c4)/\w'.cell? ⟨w.heap.size,6,none⟩=some (.slice (some ad) n1 c1)/\w'.cell? (ad.add k)=some (.string a)) ah ⟨y0,y1,y2,y3,y4,y5,y6,y7,z,e0⟩ (fun hHeld=>?_);refine t0 0 39 ?_;go_frame;refine t0 1 40 ?_;go_frame;refine t0 2 41 ?_;go_frame;refine t0 3 42 ?_;go_frame;refine t0 4 43 ?_;go_frame;refine t0 5 44 ?_;go_frame;refine tr 6 rfl fun K hK=>?_
            go_simp
            (with_reducible refine(hcw _ (aC).drew).mono ?_)
            rintro e w5 ⟨rfl,hb5⟩;have aB:Below wr.heap.size wr w5:=(Below.refl wr.heap.size wr).drew.trans hb5;refine hK.out _ _ ⟨(aB.cell (by exact l3)).trans y0,(aB.cell (by exact l3)).trans y1,(aB.cell (by exact l3)).trans y2,(aB.cell (by exact l3)).trans y3,(aB.cell (by exact l3)).trans y4,(aB.cell (by exact l3)).trans y5,(aB.cell (by exact l3)).trans y6,(aB.cell (by exact l3)).trans y7,(aB.cell (by exact l2)).trans z,(aB.cell (by exact hbk)).trans e0⟩ (fun hHeld=>?_);clear hK K
            try go_frame
            refine td ?_;go_wp2;go_ret;rw[HF.out];exact⟨rfl,hb.trans (aB.mono hzz)⟩
        · have hd1:decide ((k:Int)<(n1:Int))=false:=ay;have HF:=au (show B=false by rw[ND,<-hs,bF byOmega];rfl);clear hs ND;go_wp2;go_ret;rw[HF.out];exact⟨rfl,hb⟩
theorem UA {P:Program} {ops:Array Oper} {rest:List Oper} {o:Oper} {a:Act} {w:World} {Q:Exit->Act->World->Prop} (hgd:o.guard=none) (ty:TypeId) (x y:Operand) (ho:o.op=.store ty x y)
 (cells:Array Value) (hx:a.eval x=.pointer (some ⟨w.heap.size,0,none⟩)) (hy:a.eval y=.agg cells)
 (t:TypeId) (old:Array Value) (hi:(P.info? ty).map (·.size)=some cells.size)
 (hold:old.size=cells.size) (h1:cells.all (·.oneCell')=true)
 (h:wpList P ops Q rest (a.put o.dst undef) (w.alloc (.cells cells t))):wpList P ops Q (o::rest) a (w.alloc (.cells old t)):=by
 refine wpList_store_row hgd ty x y ho _ cells hx hy t old (aj.new w t old) hi hold h1 ?_;have e:(w.alloc (.cells old t)).setRow w.heap.size cells=w.alloc (.cells cells t):=by
  unfold World.setRow World.alloc
  congr 1
  apply Array.ext_getElem?;intro i;simp only[Array.getElem?_modify,Array.getElem?_push];by_cases h:i=w.heap.size
  · subst h;simp
  · have h':w.heap.size≠i:=fun e=>h e.symm
    simp[h,h']
 rw[e];exact h
def yt (H:List Hs) (s:Sp) (a:Wt):Bool:=decide (0<=oH a.key 0 H)&&decide (0<=(pY (sO a.key H)).s.cmp s)
def zB (H:List Hs) (p:Pn):Bool:=p.w.any (yt H p.s)
def aed (f:Wt->Bool) (l:List Wt) (p:Pn) (A1 A2:Value) (w:World) (i:Value) (wr:World):Prop:=
 ∃k:Nat,k<=l.length/\i=.int .i64 (k:Int)/\(l.drop k).any f=l.any f/\Below w.heap.size w wr/\aj wr w.heap.size 162 (p.arr A1 A2)
set_option maxRecDepth 100000 in
set_option maxHeartbeats 4000000 in
theorem aee (g:Nat) (B1 B2:Option Addr) (m1 d1 m2 d2:Nat) (L:Sp) (Hl:List Hs) (Pl:List Pn) (p:Pn) (A1 A2:Option Addr) (n1 n2 c1 c2:Nat) (w:World) (h:ny w g B1 m1 d1 B2 m2 d2 L Hl Pl) (hw:Sl aF 4 w w.heap.size A2 n2 p.w) (hn2:n2<=maxLen):
 Calls Tryz.prog 179 #[.pointer (some ⟨g,0,none⟩),p.val (.slice A1 n1 c1) (.slice A2 n2 c2)] w fun e w'=>e=.returned (.bool (zB Hl p))/\Below w.heap.size w w':=by
 unfold maxLen at hn2;have hl:=hw.1;have hge:n2<=p.w.length:=byOmega;have hle:p.w.length<=n2:=byOmega;clear hl;have hO:zB Hl p=p.w.any (yt Hl p.s):=rfl;generalize zB Hl p=B at*;go_enter Tryz.func179,Tryz.ntmps179;go_wp2
 go_loopw [5] (fun i wr=>aed (yt Hl p.s) p.w p (.slice A1 n1 c1) (.slice A2 n2 c2) w i wr) (fun i _=>n2-(intOf i).toNat)
 case atStart=>exact⟨0,byOmega,rfl,rfl,by go_grown,aj.new _ _ _⟩
 case round=>
  obtain⟨k,hk,rfl,hs,hb,b3⟩:=hrel;have hzz:=hb.size;obtain⟨l3,y0,y1,y2,y3,y4,y5,y6,y7⟩:=b3.eight;by_cases hlt:k<n2
  · obtain⟨ad,a,rfl,ha,hbk,hok,e0,-,-,-⟩:=((hw.below aF.kept hb).more aF.kept hb.size).wt hlt;have hd1:decide ((k:Int)<(n2:Int))=true:=ay;have hk0:(0:Int)<=(k:Int):=byOmega;have hk1:(k:Int)<(n2:Int):=byOmega;rw[Jr ha]at hs;have hf:yt Hl p.s a=(decide (0<=oH a.key 0 Hl)&&decide (0<=(pY (sO a.key Hl)).s.cmp p.s)):=rfl;have hN:=abt g B1 B2 m1 d1 m2 d2 L Hl Pl a.key wr (h.below hb);have HAT:=au (fun w' (hx:Below wr.heap.size wr w')=>Sv g B1 B2 m1 d1 m2 d2 L Hl Pl a.key w' (h.below (hb.trans (hx.mono hzz))));have HC:=au (fun w'=>Sj (pY (sO a.key Hl)).s p.s w');clear ha;generalize yt Hl p.s a=F at*;generalize pY (sO a.key Hl)=V at*;generalize oH a.key 0 Hl=Z at*;generalize V.s.cmp p.s=Cm at*;have HF:=au hf;have HS:=au hs;clear hf hs;go_wp2_with (go_at_call 213;fail);refine hN.mono ?_;rintro e w1 ⟨rfl,hb1⟩;have NG:=b3.below hb1 l3;have e01:=(hb1.cell (by exact hbk)).trans e0;have Qh:=NG.lt;have Qi:w.heap.size<w1.heap.size+1:=byOmega;obtain⟨-,x0,x1,x2,x3,x4,x5,x6,x7⟩:=NG.eight;have hbk1:(ad.add (k*4)).block<w1.heap.size+1:=(by have:=hb1.size;omega);clear y0 y1 y2 y3 y4 y5 y6 y7 hN;have hX:Below wr.heap.size wr (w1.alloc (.cells (jq a.key V) 104)):=hb1.alloc hb1.size _;have e02:(w1.alloc (.cells (jq a.key V) 104)).cell? (ad.add (k*4))=some (.string a.key):=(hX.cell hbk).trans e0;have i6:=aj.new w1 104 (jq a.key V);have b32:=NG.alloc (.cells (jq a.key V) 104);by_cases hZ:(0:Int)<=Z
    · have hz1:decide ((0:Int)<=Z)=true:=(by simp[hZ]);have hA:=HAT.out _ hX;go_wp2_with (first
       |(refine UA rfl 104 _ _ rfl _ rfl rfl _ _ ah ah ah ?_)
       |(go_at_call 214;fail))
      refine hA.mono ?_;rintro e w2 ⟨rfl,hb2⟩;have i62:=i6.below hb2 i6.lt;have b33:=b32.below hb2 b32.lt;have hY:Below wr.heap.size wr w2:=hX.trans (hb2.mono hX.size);obtain⟨j6,z0,z1,z2,z3,z4,z5,z6⟩:=i62.Dx;obtain⟨j3,q0,q1,q2,q3,q4,q5,q6,q7⟩:=b33.eight;by_cases hC:(0:Int)<=Cm
      · have hc1:decide ((0:Int)<=Cm)=true:=(by simp[hC]);have HB:=au (show B=true by rw[hO,<-HS.out,HF.out,hz1,hc1];rfl);go_wp2_with ((with_reducible refine(HC.out _).mono ?_);rintro e w4 ⟨rfl,hb4⟩);go_ret;rw[HB.out];exact⟨rfl,hb.trans ((hY.trans (hb4.mono hY.size)).mono hzz)⟩
      · have hc1:decide ((0:Int)<=Cm)=false:=ay;have HT:=au (show (p.w.drop (k+1)).any (yt Hl p.s)=p.w.any (yt Hl p.s) by rw[<-HS.out,HF.out,hz1,hc1];rfl);go_wp2_with ((with_reducible refine(HC.out _).mono ?_);rintro e w4 ⟨rfl,hb4⟩);have hQ:=hY.trans (hb4.mono hY.size);go_roundw
        case rel=>exact⟨k+1,byOmega,by go_num,HT.out,hb.trans (hQ.mono hzz),b3.below hQ l3⟩
        case measure=>simp[intOf];omega
    · have hz1:decide ((0:Int)<=Z)=false:=ay;have hA:=HAT.out _ hX;have HT:=au (show (p.w.drop (k+1)).any (yt Hl p.s)=p.w.any (yt Hl p.s) by rw[<-HS.out,HF.out,hz1];rfl);go_wp2_with (first
       |(refine UA rfl 104 _ _ rfl _ rfl rfl _ _ ah ah ah ?_)
       |(go_at_call 214;fail))
      refine hA.mono ?_;rintro e w2 ⟨rfl,hb2⟩;have hY:Below wr.heap.size wr w2:=hX.trans (hb2.mono hX.size);go_wp2;go_roundw
      case rel=>exact⟨k+1,byOmega,by go_num,HT.out,hb.trans (hY.mono hzz),b3.below hY l3⟩
      case measure=>simp[intOf];omega
  · have hd1:decide ((k:Int)<(n2:Int))=false:=ay;have HB:=au (show B=false by rw[hO,<-hs,bF byOmega];rfl);clear hs;go_wp2;go_ret;rw[HB.out];exact⟨rfl,hb⟩
