/- The walk of the document's StateMay. -/
import Derived.Test.YtcalkfgibflbnaaGreatBaca
namespace Go.Proofs.YtcalkfgibflbnaaGreat
set_option maxHeartbeats 8000000
set_option maxRecDepth 100000
set_option linter.unusedVariables false
open Go.RowKit Fl
attribute [local go_sem] dJ
theorem aeT (s:dP) (A1 A2:Option Addr) (n1 n2 c1 c2:Nat) (w:World) (hok:s.r.ok) (hbad:(lT s.r&&s.f.may&&s.c.may)=false):
 Calls Tryz.prog 73 #[.agg (s.arr (.slice A1 n1 c1) (.slice A2 n2 c2))] w fun e w'=>e=.returned (.bool false)/\Below w.heap.size w w':=by
 have hm:=fun w=>Kv s.r w hok
 have hf:=fun w=>jF s.f w
 have hc:=fun w=>jF s.c w
 have bb1:=(aj.new w 39 (s.arr (.slice A1 n1 c1) (.slice A2 n2 c2))).alloc (.cells #[.int .i64 s.r.id,.int .i64 s.r.ep,.float .f64 s.r.lo,.float .f64 s.r.hi] 35);have hX1:Below w.heap.size w ((w.alloc (.cells (s.arr (.slice A1 n1 c1) (.slice A2 n2 c2)) 39)).alloc (.cells #[.int .i64 s.r.id,.int .i64 s.r.ep,.float .f64 s.r.lo,.float .f64 s.r.hi] 35)):=aJ;cases e1:lT s.r
 · rw[e1]at hm;clear hbad e1;go_enter Tryz.func73,Tryz.ntmps73;go_wp2_with (first
    |((with_reducible refine(hm _).mono ?_);rintro e w1 ⟨rfl,rfl⟩)
    |((with_reducible refine(hf _).mono ?_);rintro e w2 ⟨rfl,hb2⟩
      have bb2:=bb1.below hb2 bb1.lt;have hw2:=hX1.trans (hb2.mono hX1.size);have Ju:=bb2.lt;have z7:=bb2.cell 7;have z8:=bb2.cell 8;have z9:=bb2.cell 9;simp only[List.getElem?_toArray,List.getElem?_cons_succ,getZero]at z7 z8 z9)
    |((with_reducible refine(hc _).mono ?_);rintro e w3 ⟨rfl,hb3⟩
      have bb3:=bb2.below hb3 bb2.lt;have hw3:=hw2.trans (hb3.mono hw2.size);have Gw:=bb3.lt;have q10:=bb3.cell 10;have q11:=bb3.cell 11;simp only[List.getElem?_toArray,List.getElem?_cons_succ,getZero]at q10 q11))
   go_ret;exact⟨rfl,hX1⟩
 cases e2:s.f.may
 · rw[e1]at hm;rw[e2]at hf;clear hbad e1 e2;go_enter Tryz.func73,Tryz.ntmps73;go_wp2_with (first
    |((with_reducible refine(hm _).mono ?_);rintro e w1 ⟨rfl,rfl⟩)
    |((with_reducible refine(hf _).mono ?_);rintro e w2 ⟨rfl,hb2⟩
      have bb2:=bb1.below hb2 bb1.lt;have hw2:=hX1.trans (hb2.mono hX1.size);have Ju:=bb2.lt;have z7:=bb2.cell 7;have z8:=bb2.cell 8;have z9:=bb2.cell 9;simp only[List.getElem?_toArray,List.getElem?_cons_succ,getZero]at z7 z8 z9)
    |((with_reducible refine(hc _).mono ?_);rintro e w3 ⟨rfl,hb3⟩
      have bb3:=bb2.below hb3 bb2.lt;have hw3:=hw2.trans (hb3.mono hw2.size);have Gw:=bb3.lt;have q10:=bb3.cell 10;have q11:=bb3.cell 11;simp only[List.getElem?_toArray,List.getElem?_cons_succ,getZero]at q10 q11))
   go_ret;exact⟨rfl,hw2⟩
 have e3:s.c.may=false:=by rw[e1,e2]at hbad;simpa using hbad
 rw[e1]at hm;rw[e2]at hf;rw[e3]at hc;clear hbad e1 e2 e3;go_enter Tryz.func73,Tryz.ntmps73;go_wp2_with (first
  |((with_reducible refine(hm _).mono ?_);rintro e w1 ⟨rfl,rfl⟩)
  |((with_reducible refine(hf _).mono ?_);rintro e w2 ⟨rfl,hb2⟩
    have bb2:=bb1.below hb2 bb1.lt;have hw2:=hX1.trans (hb2.mono hX1.size);have Ju:=bb2.lt;have z7:=bb2.cell 7;have z8:=bb2.cell 8;have z9:=bb2.cell 9;simp only[List.getElem?_toArray,List.getElem?_cons_succ,getZero]at z7 z8 z9)
  |((with_reducible refine(hc _).mono ?_);rintro e w3 ⟨rfl,hb3⟩
    have bb3:=bb2.below hb3 bb2.lt;have hw3:=hw2.trans (hb3.mono hw2.size);have Gw:=bb3.lt;have q10:=bb3.cell 10;have q11:=bb3.cell 11;simp only[List.getElem?_toArray,List.getElem?_cons_succ,getZero]at q10 q11))
 go_ret;exact⟨rfl,hw3⟩
theorem aeU (s:dP) (A1 A2:Option Addr) (n1 n2 c1 c2:Nat) (w:World) (hok:s.r.ok) (h1:Sl aQ 2 w w.heap.size A1 n1 s.h) (h2:Sl aP 8 w w.heap.size A2 n2 s.p) (hH:tY s.h) (hQ:uK s.p)
 (hgood:(lT s.r&&s.f.may&&s.c.may)=true):
 Calls Tryz.prog 73 #[.agg (s.arr (.slice A1 n1 c1) (.slice A2 n2 c2))] w fun e w'=>e=.returned (.bool (dV s))/\Below w.heap.size w w':=by
 have hS:dV s=(decide (iU s.h s.p=0)&&s.h.all (su s.r)&&s.p.all (nR s.r)):=by rw[aeS];unfold dV;rw[hgood];simp
 have hl1:=h1.1;have hl2:=h2.1;have vN:n1<=s.h.length:=byOmega;have hle1:s.h.length<=n1:=byOmega;have yN:n2<=s.p.length:=byOmega;have hle2:s.p.length<=n2:=byOmega;have hn1:n1<=5000000:=Nat.le_trans vN hH.1;have hn2:n2<=5000000:=Nat.le_trans yN hQ.1;clear hl1 hl2;have hm:=fun w=>Kv s.r w hok
 have hf:=fun w=>jF s.f w
 have hc:=fun w=>jF s.c w
 have bb1:=(aj.new w 39 (s.arr (.slice A1 n1 c1) (.slice A2 n2 c2))).alloc (.cells #[.int .i64 s.r.id,.int .i64 s.r.ep,.float .f64 s.r.lo,.float .f64 s.r.hi] 35);have hX1:Below w.heap.size w ((w.alloc (.cells (s.arr (.slice A1 n1 c1) (.slice A2 n2 c2)) 39)).alloc (.cells #[.int .i64 s.r.id,.int .i64 s.r.ep,.float .f64 s.r.lo,.float .f64 s.r.hi] 35)):=aJ;rw[Bool.and_eq_true,Bool.and_eq_true]at hgood;obtain⟨⟨e1,e2⟩,e3⟩:=hgood;rw[e1]at hm;rw[e2]at hf;rw[e3]at hc;clear e1 e2 e3;go_enter Tryz.func73,Tryz.ntmps73;go_wp2_with (first
  |((with_reducible refine(hm _).mono ?_);rintro e w1 ⟨rfl,rfl⟩)
  |((with_reducible refine(hf _).mono ?_);rintro e w2 ⟨rfl,hb2⟩
    have bb2:=bb1.below hb2 bb1.lt;have hw2:=hX1.trans (hb2.mono hX1.size);have Ju:=bb2.lt;have z7:=bb2.cell 7;have z8:=bb2.cell 8;have z9:=bb2.cell 9;simp only[List.getElem?_toArray,List.getElem?_cons_succ,getZero]at z7 z8 z9)
  |((with_reducible refine(hc _).mono ?_);rintro e w3 ⟨rfl,hb3⟩
    have bb3:=bb2.below hb3 bb2.lt;have hw3:=hw2.trans (hb3.mono hw2.size);have Gw:=bb3.lt;have q10:=bb3.cell 10;have q11:=bb3.cell 11;simp only[List.getElem?_toArray,List.getElem?_cons_succ,getZero]at q10 q11)
  |(go_at_call 121;fail))
 refine(aeF A1 A2 n1 n2 c1 c2 s.h s.p w3 ((h1.below aQ.kept hw3).more aQ.kept hw3.size) ((h2.below aP.kept hw3).more aP.kept hw3.size) hH hQ).mono ?_;rintro e w0 ⟨vL,rfl,hb0,-⟩;have b:=bb3.below hb0 Gw;have hw0:Below w.heap.size w w0:=hw3.trans (hb0.mono hw3.size);clear hm hf hc bb1 hX1 bb2 hw2 Ju z7 z8 z9 bb3 hw3 Gw q10 q11 hb0 hb2 hb3;have lb:=b.lt;have rF:=b.cell 11;have rE:=b.cell 10;simp only[List.getElem?_toArray,List.getElem?_cons_succ,getZero]at rE rF;by_cases hE:iU s.h s.p=0
 · have hq:(iU s.h s.p !=0)=false:=(by simp[hE]);have hS2:dV s=(s.h.all (su s.r)&&s.p.all (nR s.r)):=(by rw[hS,hE];simp);clear hS hE;generalize iU s.h s.p=ee at*;go_wp2
   go_loopw [5] (fun i wr=>zZ (su s.r) s.h w0 i wr) (fun i _=>n1-(intOf i).toNat)
   case atStart=>exact⟨0,byOmega,rfl,rfl,aC⟩
   case round=>
    clear rE rF;obtain⟨k,hk,rfl,ha0,hb⟩:=hrel;have hzz:=hb.size;have kD:Below w.heap.size w wr:=hw0.trans (hb.mono hw0.size);have bw:=b.below hb lb;have jh:=bw.lt;have x0:=bw.cell 0;have x1:=bw.cell 1;have x2:=bw.cell 2;have x3:=bw.cell 3;have x10:=bw.cell 10;simp only[List.getElem?_toArray,List.getElem?_cons_succ,getZero]at x0 x1 x2 x3 x10;by_cases hlt:k<n1
    · obtain⟨ad,a,A',n',c',rfl,ha,hbk,hkz,d0,d1,hn',hc',hsv⟩:=((h1.below aQ.kept kD).more aQ.kept kD.size).hs hlt;have hd1:decide ((k:Int)<(n1:Int))=true:=ay;have hk0:(0:Int)<=(k:Int):=byOmega;have hk1:(k:Int)<(n1:Int):=byOmega;rw[rZ ha]at ha0;have hI:=NH s.r a.key wr.drew (zM hkz);by_cases hin:su s.r a=true
      · have HT:=au (show (s.h.drop (k+1)).all (su s.r)=s.h.all (su s.r) by rw[<-ha0,hin];rfl);rw[show jd s.r a.key=true from hin]at hI;clear ha0 ha hin;go_wp2
        go_region_held3 (fun w'=>w'.cell? ⟨w.heap.size,0,none⟩=some (.int .i64 s.r.id)/\w'.cell? ⟨w.heap.size,1,none⟩=some (.int .i64 s.r.ep)/\w'.cell? ⟨w.heap.size,2,none⟩=some (.float .f64 s.r.lo)/\w'.cell? ⟨w.heap.size,3,none⟩=some (.float .f64 s.r.hi)/\w'.cell? ⟨w.heap.size,10,none⟩=some (.slice (some ad) n1 c1)/\w'.cell? (ad.add (k*2))=some (.string a.key))
          (first|exact⟨x0,x1,x2,x3,x10,d0⟩|exact⟨(aB.cell (by exact jh)).trans x0,(aB.cell (by exact jh)).trans x1,(aB.cell (by exact jh)).trans x2,(aB.cell (by exact jh)).trans x3,(aB.cell (by exact jh)).trans x10,(aB.cell (by exact hbk)).trans d0⟩)
          (first|((with_reducible refine hI.mono ?_);rintro e w5 ⟨rfl,hb5⟩;have aB:Below wr.heap.size wr w5:=(Below.refl wr.heap.size wr).drew.trans hb5))
        go_wp2;go_roundw
        case rel=>exact⟨k+1,byOmega,by go_num,HT.out,hb.trans (aB.mono hzz)⟩
        case measure=>simp[intOf];omega
      · have hif:su s.r a=false:=(by simpa using hin);have HF:=au (show dV s=false by rw[hS2,<-ha0,hif];rfl);rw[show jd s.r a.key=false from hif]at hI;clear ha0 ha hin hif;go_wp2
        go_region_held3 (fun w'=>w'.cell? ⟨w.heap.size,0,none⟩=some (.int .i64 s.r.id)/\w'.cell? ⟨w.heap.size,1,none⟩=some (.int .i64 s.r.ep)/\w'.cell? ⟨w.heap.size,2,none⟩=some (.float .f64 s.r.lo)/\w'.cell? ⟨w.heap.size,3,none⟩=some (.float .f64 s.r.hi)/\w'.cell? ⟨w.heap.size,10,none⟩=some (.slice (some ad) n1 c1)/\w'.cell? (ad.add (k*2))=some (.string a.key))
          (first|exact⟨x0,x1,x2,x3,x10,d0⟩|exact⟨(aB.cell (by exact jh)).trans x0,(aB.cell (by exact jh)).trans x1,(aB.cell (by exact jh)).trans x2,(aB.cell (by exact jh)).trans x3,(aB.cell (by exact jh)).trans x10,(aB.cell (by exact hbk)).trans d0⟩)
          (first|((with_reducible refine hI.mono ?_);rintro e w5 ⟨rfl,hb5⟩;have aB:Below wr.heap.size wr w5:=(Below.refl wr.heap.size wr).drew.trans hb5))
        go_wp2;go_ret;rw[HF.out];exact⟨rfl,kD.trans (aB.mono kD.size)⟩
    · have hd1:decide ((k:Int)<(n1:Int))=false:=ay;have hS3:dV s=s.p.all (nR s.r):=(by rw[hS2,<-ha0,bF byOmega];rfl);clear ha0 hS2;go_wp2;obtain⟨w1,rfl⟩:∃w1,w1=wr:=⟨_,rfl⟩;clear jh bw x0 x1 x2 x3 x10
      go_loopw [6] (fun i wr=>zZ (nR s.r) s.p w0 i wr) (fun i _=>n2-(intOf i).toNat)
      case atStart=>exact⟨0,byOmega,rfl,rfl,hb⟩
      case round=>
       clear hb hzz kD;obtain⟨k2,hk2,rfl,ha0,hb⟩:=hrel;have hzz:=hb.size;have kD:Below w.heap.size w wr:=hw0.trans (hb.mono hw0.size);have bw:=b.below hb lb;have lbw:=bw.lt;have x11:=bw.cell 11;simp only[List.getElem?_toArray,List.getElem?_cons_succ,getZero]at x11;by_cases hlt2:k2<n2
       · obtain⟨ad,x,A3,n3,c3,A4,n4,c4,rfl,ha,hbk,hxt,hxs,d0,d1,d2,d3,d4,d5,d6,d7,hn3,hc3,hs3,hn4,hc4,hs4⟩:=((h2.below aP.kept kD).more aP.kept kD.size).pn hlt2;have hd1:decide ((k2:Int)<(n2:Int))=true:=ay;have hk0:(0:Int)<=(k2:Int):=byOmega;have hk1:(k2:Int)<(n2:Int):=byOmega;have hsm:=hQ.2 x (List.mem_of_getElem? ha);have hl3:=hs3.1;have hl4:=hs4.1;rw[rZ ha]at ha0;have hX:Below w0.heap.size w0 (wr.alloc (.cells (x.arr (.slice A3 n3 c3) (.slice A4 n4 c4)) 162)):=hb.alloc hzz _;have oq:Below wr.heap.size wr (wr.alloc (.cells (x.arr (.slice A3 n3 c3) (.slice A4 n4 c4)) 162)):=aJ;have i9:=aj.new wr 162 (x.arr (.slice A3 n3 c3) (.slice A4 n4 c4));have hr:=(hs3.below aO.kept oq).more aO.kept oq.size;have hw:=(hs4.below aF.kept oq).more aF.kept oq.size;clear ha;go_wp2;generalize rX:wr.heap.size=g9 at*;obtain⟨w3,Fh⟩:∃w3,w3=wr.alloc (.cells (x.arr (.slice A3 n3 c3) (.slice A4 n4 c4)) 162):=⟨_,rfl⟩;rw[<-Fh]at hX i9 hr hw ⊢;clear Fh oq d0 d1 d2 d3 d4 d5 d6 d7 hs3 hs4 rX bw lbw x11;have KZ:=i9.lt;have hwx:Below w.heap.size w w3:=hw0.trans (hX.mono hw0.size)
         go_loopw [8] (fun i wr=>zZ (jd s.r) x.r w3 i wr) (fun i _=>n3-(intOf i).toNat)
         case atStart=>exact⟨0,byOmega,rfl,rfl,aC⟩
         case round=>
           obtain⟨k3,hk3,rfl,hi0,hb3⟩:=hrel;have hz3:=hb3.size;have fU:Below w0.heap.size w0 wr:=hX.trans (hb3.mono hX.size);have bw:=b.below fU lb;have jh:=bw.lt;have x0:=bw.cell 0;have x1:=bw.cell 1;have x2:=bw.cell 2;have x3:=bw.cell 3;have j9:=i9.below hb3 KZ;have Ep:=j9.lt;have u6:=j9.cell 6;simp only[List.getElem?_toArray,List.getElem?_cons_succ,getZero]at x0 x1 x2 x3 u6;have hwr:Below w.heap.size w wr:=hwx.trans (hb3.mono hwx.size);by_cases hlt3:k3<n3
           · obtain⟨Fj,a,rfl,ha,lI,DK,e0⟩:=((hr.below aO.kept hb3).more aO.kept hb3.size).ky hlt3;have hd3:decide ((k3:Int)<(n3:Int))=true:=ay;have Ze:(0:Int)<=(k3:Int):=byOmega;have Zf:(k3:Int)<(n3:Int):=byOmega;rw[rZ ha]at hi0;have hI:=NH s.r a wr.drew (zM DK);by_cases hin:jd s.r a=true
             · have HT:=au (show (x.r.drop (k3+1)).all (jd s.r)=x.r.all (jd s.r) by rw[<-hi0,hin];rfl);rw[hin]at hI;clear hi0 ha hin;go_wp2
               go_region_held3 (fun w'=>w'.cell? ⟨w.heap.size,0,none⟩=some (.int .i64 s.r.id)/\w'.cell? ⟨w.heap.size,1,none⟩=some (.int .i64 s.r.ep)/\w'.cell? ⟨w.heap.size,2,none⟩=some (.float .f64 s.r.lo)/\w'.cell? ⟨w.heap.size,3,none⟩=some (.float .f64 s.r.hi)/\w'.cell? ⟨g9,6,none⟩=some (.slice (some Fj) n3 c3)/\w'.cell? (Fj.add k3)=some (.string a))
                (first|exact⟨x0,x1,x2,x3,u6,e0⟩|exact⟨(aB.cell (by exact jh)).trans x0,(aB.cell (by exact jh)).trans x1,(aB.cell (by exact jh)).trans x2,(aB.cell (by exact jh)).trans x3,(aB.cell (by exact Ep)).trans u6,(aB.cell (by exact lI)).trans e0⟩)
                (first|((with_reducible refine hI.mono ?_);rintro e w5 ⟨rfl,hb5⟩;have aB:Below wr.heap.size wr w5:=(Below.refl wr.heap.size wr).drew.trans hb5))
               go_wp2;go_roundw
               case rel=>exact⟨k3+1,byOmega,by go_num,HT.out,hb3.trans (aB.mono hz3)⟩
               case measure=>simp[intOf];omega
             · have hif:jd s.r a=false:=(by simpa using hin);have HF:=au (show dV s=false by
                rw[hS3,<-ha0];unfold nR;rw[<-hi0,hif];rfl)
               rw[hif]at hI;clear hi0 ha hin hif;go_wp2
               go_region_held3 (fun w'=>w'.cell? ⟨w.heap.size,0,none⟩=some (.int .i64 s.r.id)/\w'.cell? ⟨w.heap.size,1,none⟩=some (.int .i64 s.r.ep)/\w'.cell? ⟨w.heap.size,2,none⟩=some (.float .f64 s.r.lo)/\w'.cell? ⟨w.heap.size,3,none⟩=some (.float .f64 s.r.hi)/\w'.cell? ⟨g9,6,none⟩=some (.slice (some Fj) n3 c3)/\w'.cell? (Fj.add k3)=some (.string a))
                (first|exact⟨x0,x1,x2,x3,u6,e0⟩|exact⟨(aB.cell (by exact jh)).trans x0,(aB.cell (by exact jh)).trans x1,(aB.cell (by exact jh)).trans x2,(aB.cell (by exact jh)).trans x3,(aB.cell (by exact Ep)).trans u6,(aB.cell (by exact lI)).trans e0⟩)
                (first|((with_reducible refine hI.mono ?_);rintro e w5 ⟨rfl,hb5⟩;have aB:Below wr.heap.size wr w5:=(Below.refl wr.heap.size wr).drew.trans hb5))
               go_wp2;go_ret;rw[HF.out];exact⟨rfl,hwr.trans (aB.mono hwr.size)⟩
           · have hd3:decide ((k3:Int)<(n3:Int))=false:=ay;have hrr:x.r.all (jd s.r)=true:=(by rw[<-hi0,bF byOmega];rfl);have Bj:nR s.r x=x.w.all fun a=>jd s.r a.key:=by unfold nR;rw[hrr];rfl
             have hwb:=(hw.below aF.kept hb3).more aF.kept hb3.size;clear hi0 hrr;go_wp2;obtain⟨w4,rfl⟩:∃w4,w4=wr:=⟨_,rfl⟩;clear u6 x0 x1 x2 x3 jh bw
             go_loopw [9] (fun i wr=>zZ (fun a:Wt=>jd s.r a.key) x.w w4 i wr) (fun i _=>n4-(intOf i).toNat)
             case atStart=>exact⟨0,byOmega,rfl,rfl,aC⟩
             case round=>
              obtain⟨k4,hk4,rfl,hi0,hb4⟩:=hrel;have La:=hb4.size;have jV:Below w0.heap.size w0 wr:=fU.trans (hb4.mono fU.size);have bw:=b.below jV lb;have jh:=bw.lt;have x0:=bw.cell 0;have x1:=bw.cell 1;have x2:=bw.cell 2;have x3:=bw.cell 3;have k9:=j9.below hb4 Ep;have Ep:=k9.lt;have u7:=k9.cell 7;simp only[List.getElem?_toArray,List.getElem?_cons_succ,getZero]at x0 x1 x2 x3 u7;have UZ:Below w.heap.size w wr:=hwr.trans (hb4.mono hwr.size);by_cases hlt4:k4<n4
              · obtain⟨Fp,a,rfl,ha,Lc,DL,e0,e1,e2,e3⟩:=((hwb.below aF.kept hb4).more aF.kept hb4.size).wt hlt4;have hd4:decide ((k4:Int)<(n4:Int))=true:=ay;have Zg:(0:Int)<=(k4:Int):=byOmega;have Zh:(k4:Int)<(n4:Int):=byOmega;rw[rZ ha]at hi0;have hI:=NH s.r a.key wr.drew (zM DL.1);by_cases hin:jd s.r a.key=true
                · have HT:=au (show (x.w.drop (k4+1)).all (fun a:Wt=>jd s.r a.key)=x.w.all (fun a:Wt=>jd s.r a.key) by rw[<-hi0,hin];rfl);rw[hin]at hI;clear hi0 ha hin;go_wp2
                  go_region_held3 (fun w'=>w'.cell? ⟨w.heap.size,0,none⟩=some (.int .i64 s.r.id)/\w'.cell? ⟨w.heap.size,1,none⟩=some (.int .i64 s.r.ep)/\w'.cell? ⟨w.heap.size,2,none⟩=some (.float .f64 s.r.lo)/\w'.cell? ⟨w.heap.size,3,none⟩=some (.float .f64 s.r.hi)/\w'.cell? ⟨g9,7,none⟩=some (.slice (some Fp) n4 c4)/\w'.cell? (Fp.add (k4*4))=some (.string a.key))
                   (first|exact⟨x0,x1,x2,x3,u7,e0⟩|exact⟨(aB.cell (by exact jh)).trans x0,(aB.cell (by exact jh)).trans x1,(aB.cell (by exact jh)).trans x2,(aB.cell (by exact jh)).trans x3,(aB.cell (by exact Ep)).trans u7,(aB.cell (by exact Lc)).trans e0⟩)
                   (first|((with_reducible refine hI.mono ?_);rintro e w5 ⟨rfl,hb5⟩;have aB:Below wr.heap.size wr w5:=(Below.refl wr.heap.size wr).drew.trans hb5))
                  go_wp2;go_roundw
                  case rel=>exact⟨k4+1,byOmega,by go_num,HT.out,hb4.trans (aB.mono La)⟩
                  case measure=>simp[intOf];omega
                · have hif:jd s.r a.key=false:=(by simpa using hin);have HF:=au (show dV s=false by
                   rw[hS3,<-ha0,Bj,<-hi0,hif];rfl)
                  rw[hif]at hI;clear hi0 ha hin hif;go_wp2
                  go_region_held3 (fun w'=>w'.cell? ⟨w.heap.size,0,none⟩=some (.int .i64 s.r.id)/\w'.cell? ⟨w.heap.size,1,none⟩=some (.int .i64 s.r.ep)/\w'.cell? ⟨w.heap.size,2,none⟩=some (.float .f64 s.r.lo)/\w'.cell? ⟨w.heap.size,3,none⟩=some (.float .f64 s.r.hi)/\w'.cell? ⟨g9,7,none⟩=some (.slice (some Fp) n4 c4)/\w'.cell? (Fp.add (k4*4))=some (.string a.key))
                   (first|exact⟨x0,x1,x2,x3,u7,e0⟩|exact⟨(aB.cell (by exact jh)).trans x0,(aB.cell (by exact jh)).trans x1,(aB.cell (by exact jh)).trans x2,(aB.cell (by exact jh)).trans x3,(aB.cell (by exact Ep)).trans u7,(aB.cell (by exact Lc)).trans e0⟩)
                   (first|((with_reducible refine hI.mono ?_);rintro e w5 ⟨rfl,hb5⟩;have aB:Below wr.heap.size wr w5:=(Below.refl wr.heap.size wr).drew.trans hb5))
                  go_wp2;go_ret;rw[HF.out];exact⟨rfl,UZ.trans (aB.mono UZ.size)⟩
              · have hd4:decide ((k4:Int)<(n4:Int))=false:=ay;have hpt:nR s.r x=true:=(by rw[Bj,<-hi0,bF byOmega];rfl);have HT:=au (show (s.p.drop (k2+1)).all (nR s.r)=s.p.all (nR s.r) by rw[<-ha0,hpt];rfl);clear hi0 ha0 Bj hpt;go_wp2;go_roundw
                case rel=>exact⟨k2+1,byOmega,by go_num,HT.out,jV⟩
                case measure=>simp[intOf];omega
       · have hd1:decide ((k2:Int)<(n2:Int))=false:=ay;have HF:=au (show dV s=true by rw[hS3,<-ha0,bF byOmega];rfl);clear ha0;go_wp2;go_ret;rw[HF.out];exact⟨rfl,kD⟩
 · have hq:(iU s.h s.p !=0)=true:=(by simp[hE]);have HF:=au (show dV s=false by rw[hS];simp[hE]);clear hS;go_wp2;go_ret;rw[HF.out];exact⟨rfl,hw0⟩
theorem Ar (s:dP) (A1 A2:Option Addr) (n1 n2 c1 c2:Nat) (w:World) (hok:s.r.ok) (h1:Sl aQ 2 w w.heap.size A1 n1 s.h) (h2:Sl aP 8 w w.heap.size A2 n2 s.p) (hH:tY s.h) (hQ:uK s.p):
 Calls Tryz.prog 73 #[.agg (s.arr (.slice A1 n1 c1) (.slice A2 n2 c2))] w fun e w'=>e=.returned (.bool (dV s))/\Below w.heap.size w w':=by
 by_cases h:(lT s.r&&s.f.may&&s.c.may)=true
 · exact aeU s A1 A2 n1 n2 c1 c2 w hok h1 h2 hH hQ h
 · have hb:(lT s.r&&s.f.may&&s.c.may)=false:=(by simpa using h);have e:dV s=false:=(by unfold dV;rw[hb];rfl);rw[e];exact aeT s A1 A2 n1 n2 c1 c2 w hok hb
