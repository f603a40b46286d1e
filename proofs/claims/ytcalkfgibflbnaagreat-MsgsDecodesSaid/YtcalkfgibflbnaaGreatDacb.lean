/- The walk of the document's StateMay. -/
import Derived.Test.YtcalkfgibflbnaaGreatDaca
namespace Go.Proofs.YtcalkfgibflbnaaGreat
set_option maxHeartbeats 8000000
set_option maxRecDepth 100000
set_option linter.unusedVariables false
open Go.RowKit Fl
attribute [local go_sem] run_store_float
theorem rstateMay_bad (s:Stt) (A1 A2:Option Addr) (n1 n2 c1 c2:Nat) (w:World) (hok:s.r.ok) (hbad:(mayR s.r&&s.f.may&&s.c.may)=false):
 Calls Tryz.prog 73 #[.agg (s.arr (.slice A1 n1 c1) (.slice A2 n2 c2))] w fun e w'=>e=.returned (.bool false)∧Below w.heap.size w w':=by
 have hm:=fun w=>rmay_any s.r w hok
 have hf:=fun w=>rhmay_any s.f w
 have hc:=fun w=>rhmay_any s.c w
 have bb1:=(Blk.new w 39 (s.arr (.slice A1 n1 c1) (.slice A2 n2 c2))).alloc (.cells #[.int .i64 s.r.id,.int .i64 s.r.ep,.float .f64 s.r.lo,.float .f64 s.r.hi] 35)
 have hX1:Below w.heap.size w ((w.alloc (.cells (s.arr (.slice A1 n1 c1) (.slice A2 n2 c2)) 39)).alloc (.cells #[.int .i64 s.r.id,.int .i64 s.r.ep,.float .f64 s.r.lo,.float .f64 s.r.hi] 35)):=by go_grown
 cases e1:mayR s.r
 · rw[e1]at hm
   clear hbad e1
   go_enter Tryz.func73,Tryz.ntmps73
   go_wp2_with (first
    |((with_reducible refine(hm _).mono ?_);rintro e w1 ⟨rfl,rfl⟩)
    |((with_reducible refine(hf _).mono ?_);rintro e w2 ⟨rfl,hb2⟩
      have bb2:=bb1.below hb2 bb1.lt
      have hw2:=hX1.trans (hb2.mono hX1.size)
      have lb2:=bb2.lt
      have z7:=bb2.cell 7
      have z8:=bb2.cell 8
      have z9:=bb2.cell 9
      simp only[List.getElem?_toArray,List.getElem?_cons_succ,List.getElem?_cons_zero]at z7 z8 z9)
    |((with_reducible refine(hc _).mono ?_);rintro e w3 ⟨rfl,hb3⟩
      have bb3:=bb2.below hb3 bb2.lt
      have hw3:=hw2.trans (hb3.mono hw2.size)
      have lb3:=bb3.lt
      have q10:=bb3.cell 10
      have q11:=bb3.cell 11
      simp only[List.getElem?_toArray,List.getElem?_cons_succ,List.getElem?_cons_zero]at q10 q11))
   go_ret
   exact⟨rfl,hX1⟩
 cases e2:s.f.may
 · rw[e1]at hm
   rw[e2]at hf
   clear hbad e1 e2
   go_enter Tryz.func73,Tryz.ntmps73
   go_wp2_with (first
    |((with_reducible refine(hm _).mono ?_);rintro e w1 ⟨rfl,rfl⟩)
    |((with_reducible refine(hf _).mono ?_);rintro e w2 ⟨rfl,hb2⟩
      have bb2:=bb1.below hb2 bb1.lt
      have hw2:=hX1.trans (hb2.mono hX1.size)
      have lb2:=bb2.lt
      have z7:=bb2.cell 7
      have z8:=bb2.cell 8
      have z9:=bb2.cell 9
      simp only[List.getElem?_toArray,List.getElem?_cons_succ,List.getElem?_cons_zero]at z7 z8 z9)
    |((with_reducible refine(hc _).mono ?_);rintro e w3 ⟨rfl,hb3⟩
      have bb3:=bb2.below hb3 bb2.lt
      have hw3:=hw2.trans (hb3.mono hw2.size)
      have lb3:=bb3.lt
      have q10:=bb3.cell 10
      have q11:=bb3.cell 11
      simp only[List.getElem?_toArray,List.getElem?_cons_succ,List.getElem?_cons_zero]at q10 q11))
   go_ret
   exact⟨rfl,hw2⟩
 have e3:s.c.may=false:=by rw[e1,e2]at hbad;simpa using hbad
 rw[e1]at hm
 rw[e2]at hf
 rw[e3]at hc
 clear hbad e1 e2 e3
 go_enter Tryz.func73,Tryz.ntmps73
 go_wp2_with (first
  |((with_reducible refine(hm _).mono ?_);rintro e w1 ⟨rfl,rfl⟩)
  |((with_reducible refine(hf _).mono ?_);rintro e w2 ⟨rfl,hb2⟩
    have bb2:=bb1.below hb2 bb1.lt
    have hw2:=hX1.trans (hb2.mono hX1.size)
    have lb2:=bb2.lt
    have z7:=bb2.cell 7
    have z8:=bb2.cell 8
    have z9:=bb2.cell 9
    simp only[List.getElem?_toArray,List.getElem?_cons_succ,List.getElem?_cons_zero]at z7 z8 z9)
  |((with_reducible refine(hc _).mono ?_);rintro e w3 ⟨rfl,hb3⟩
    have bb3:=bb2.below hb3 bb2.lt
    have hw3:=hw2.trans (hb3.mono hw2.size)
    have lb3:=bb3.lt
    have q10:=bb3.cell 10
    have q11:=bb3.cell 11
    simp only[List.getElem?_toArray,List.getElem?_cons_succ,List.getElem?_cons_zero]at q10 q11))
 go_ret
 exact⟨rfl,hw3⟩
theorem rstateMay_good (s:Stt) (A1 A2:Option Addr) (n1 n2 c1 c2:Nat) (w:World) (hok:s.r.ok) (h1:Sl HsRel 2 w w.heap.size A1 n1 s.h) (h2:Sl PnRel 8 w w.heap.size A2 n2 s.p) (hH:SmallH s.h) (hQ:SmallP s.p)
 (hgood:(mayR s.r&&s.f.may&&s.c.may)=true):
 Calls Tryz.prog 73 #[.agg (s.arr (.slice A1 n1 c1) (.slice A2 n2 c2))] w fun e w'=>e=.returned (.bool (mayS s))∧Below w.heap.size w w':=by
 have hS:mayS s=(decide (rloadE s.h s.p=0)&&s.h.all (inH s.r)&&s.p.all (inP s.r)):=by rw[rloadE_eq];unfold mayS;rw[hgood];simp
 have hl1:=h1.1
 have hl2:=h2.1
 have hge1:n1≤s.h.length:=by omega
 have hle1:s.h.length≤n1:=by omega
 have hge2:n2≤s.p.length:=by omega
 have hle2:s.p.length≤n2:=by omega
 have hn1:n1≤1000000:=Nat.le_trans hge1 hH.1
 have hn2:n2≤1000000:=Nat.le_trans hge2 hQ.1
 clear hl1 hl2
 have hm:=fun w=>rmay_any s.r w hok
 have hf:=fun w=>rhmay_any s.f w
 have hc:=fun w=>rhmay_any s.c w
 have bb1:=(Blk.new w 39 (s.arr (.slice A1 n1 c1) (.slice A2 n2 c2))).alloc (.cells #[.int .i64 s.r.id,.int .i64 s.r.ep,.float .f64 s.r.lo,.float .f64 s.r.hi] 35)
 have hX1:Below w.heap.size w ((w.alloc (.cells (s.arr (.slice A1 n1 c1) (.slice A2 n2 c2)) 39)).alloc (.cells #[.int .i64 s.r.id,.int .i64 s.r.ep,.float .f64 s.r.lo,.float .f64 s.r.hi] 35)):=by go_grown
 rw[Bool.and_eq_true,Bool.and_eq_true]at hgood
 obtain⟨⟨e1,e2⟩,e3⟩:=hgood
 rw[e1]at hm
 rw[e2]at hf
 rw[e3]at hc
 clear e1 e2 e3
 go_enter Tryz.func73,Tryz.ntmps73
 go_wp2_with (first
  |((with_reducible refine(hm _).mono ?_);rintro e w1 ⟨rfl,rfl⟩)
  |((with_reducible refine(hf _).mono ?_);rintro e w2 ⟨rfl,hb2⟩
    have bb2:=bb1.below hb2 bb1.lt
    have hw2:=hX1.trans (hb2.mono hX1.size)
    have lb2:=bb2.lt
    have z7:=bb2.cell 7
    have z8:=bb2.cell 8
    have z9:=bb2.cell 9
    simp only[List.getElem?_toArray,List.getElem?_cons_succ,List.getElem?_cons_zero]at z7 z8 z9)
  |((with_reducible refine(hc _).mono ?_);rintro e w3 ⟨rfl,hb3⟩
    have bb3:=bb2.below hb3 bb2.lt
    have hw3:=hw2.trans (hb3.mono hw2.size)
    have lb3:=bb3.lt
    have q10:=bb3.cell 10
    have q11:=bb3.cell 11
    simp only[List.getElem?_toArray,List.getElem?_cons_succ,List.getElem?_cons_zero]at q10 q11)
  |(go_at_call 121;fail))
 refine(rload_any A1 A2 n1 n2 c1 c2 s.h s.p w3 ((h1.below HsRel.kept hw3).more HsRel.kept hw3.size) ((h2.below PnRel.kept hw3).more PnRel.kept hw3.size) hH hQ).mono ?_
 rintro e w0 ⟨vL,rfl,hb0,-⟩
 have b:=bb3.below hb0 lb3
 have hw0:Below w.heap.size w w0:=hw3.trans (hb0.mono hw3.size)
 clear hm hf hc bb1 hX1 bb2 hw2 lb2 z7 z8 z9 bb3 hw3 lb3 q10 q11 hb0 hb2 hb3
 have lb:=b.lt
 have y11:=b.cell 11
 have y10:=b.cell 10
 simp only[List.getElem?_toArray,List.getElem?_cons_succ,List.getElem?_cons_zero]at y10 y11
 by_cases hE:rloadE s.h s.p=0
 · have hq:(rloadE s.h s.p !=0)=false:=by simp[hE]
   have hS2:mayS s=(s.h.all (inH s.r)&&s.p.all (inP s.r)):=by rw[hS,hE];simp
   clear hS hE
   generalize rloadE s.h s.p=ee at*
   go_wp2
   go_loopw [5] (fun i wr=>AllRel (inH s.r) s.h w0 i wr) (fun i _=>n1-(intOf i).toNat)
   case atStart=>exact⟨0,by omega,rfl,rfl,Below.refl _ _⟩
   case round=>
    clear y10 y11
    obtain⟨k,hk,rfl,ha0,hb⟩:=hrel
    have hzz:=hb.size
    have hww:Below w.heap.size w wr:=hw0.trans (hb.mono hw0.size)
    have bw:=b.below hb lb
    have lbr:=bw.lt
    have x0:=bw.cell 0
    have x1:=bw.cell 1
    have x2:=bw.cell 2
    have x3:=bw.cell 3
    have x10:=bw.cell 10
    simp only[List.getElem?_toArray,List.getElem?_cons_succ,List.getElem?_cons_zero]at x0 x1 x2 x3 x10
    by_cases hlt:k<n1
    · obtain⟨ad,a,A',n',c',rfl,ha,hbk,hkz,d0,d1,hn',hc',hsv⟩:=((h1.below HsRel.kept hww).more HsRel.kept hww.size).hs hlt
      have hd1:decide ((k:Int)<(n1:Int))=true:=by simp;omega
      have hk0:(0:Int)≤(k:Int):=by omega
      have hk1:(k:Int)<(n1:Int):=by omega
      rw[all_drop ha]at ha0
      have hI:=rinK_any s.r a.key wr.drew (reach_max hkz)
      by_cases hin:inH s.r a=true
      · have HT:=Lib.hid (show (s.h.drop (k+1)).all (inH s.r)=s.h.all (inH s.r) by rw[←ha0,hin];rfl)
        rw[show inK s.r a.key=true from hin]at hI
        clear ha0 ha hin
        go_wp2
        go_region_held3 (fun w'=>w'.cell? ⟨w.heap.size,0,none⟩=some (.int .i64 s.r.id)∧w'.cell? ⟨w.heap.size,1,none⟩=some (.int .i64 s.r.ep)∧w'.cell? ⟨w.heap.size,2,none⟩=some (.float .f64 s.r.lo)∧w'.cell? ⟨w.heap.size,3,none⟩=some (.float .f64 s.r.hi)∧w'.cell? ⟨w.heap.size,10,none⟩=some (.slice (some ad) n1 c1)∧w'.cell? (ad.add (k*2))=some (.string a.key))
          (first|exact⟨x0,x1,x2,x3,x10,d0⟩|exact⟨(hb9.cell (by exact lbr)).trans x0,(hb9.cell (by exact lbr)).trans x1,(hb9.cell (by exact lbr)).trans x2,(hb9.cell (by exact lbr)).trans x3,(hb9.cell (by exact lbr)).trans x10,(hb9.cell (by exact hbk)).trans d0⟩)
          (first|((with_reducible refine hI.mono ?_);rintro e w5 ⟨rfl,hb5⟩;have hb9:Below wr.heap.size wr w5:=(Below.refl wr.heap.size wr).drew.trans hb5))
        go_wp2
        go_roundw
        case rel=>exact⟨k+1,by omega,by go_num,HT.out,hb.trans (hb9.mono hzz)⟩
        case measure=>simp[intOf];omega
      · have hif:inH s.r a=false:=by simpa using hin
        have HF:=Lib.hid (show mayS s=false by rw[hS2,←ha0,hif];rfl)
        rw[show inK s.r a.key=false from hif]at hI
        clear ha0 ha hin hif
        go_wp2
        go_region_held3 (fun w'=>w'.cell? ⟨w.heap.size,0,none⟩=some (.int .i64 s.r.id)∧w'.cell? ⟨w.heap.size,1,none⟩=some (.int .i64 s.r.ep)∧w'.cell? ⟨w.heap.size,2,none⟩=some (.float .f64 s.r.lo)∧w'.cell? ⟨w.heap.size,3,none⟩=some (.float .f64 s.r.hi)∧w'.cell? ⟨w.heap.size,10,none⟩=some (.slice (some ad) n1 c1)∧w'.cell? (ad.add (k*2))=some (.string a.key))
          (first|exact⟨x0,x1,x2,x3,x10,d0⟩|exact⟨(hb9.cell (by exact lbr)).trans x0,(hb9.cell (by exact lbr)).trans x1,(hb9.cell (by exact lbr)).trans x2,(hb9.cell (by exact lbr)).trans x3,(hb9.cell (by exact lbr)).trans x10,(hb9.cell (by exact hbk)).trans d0⟩)
          (first|((with_reducible refine hI.mono ?_);rintro e w5 ⟨rfl,hb5⟩;have hb9:Below wr.heap.size wr w5:=(Below.refl wr.heap.size wr).drew.trans hb5))
        go_wp2
        go_ret
        rw[HF.out]
        exact⟨rfl,hww.trans (hb9.mono hww.size)⟩
    · have hd1:decide ((k:Int)<(n1:Int))=false:=by simp;omega
      have hS3:mayS s=s.p.all (inP s.r):=by rw[hS2,←ha0,List.drop_of_length_le (by omega)];rfl
      clear ha0 hS2
      go_wp2
      obtain⟨w1,rfl⟩:∃w1,w1=wr:=⟨_,rfl⟩
      clear lbr bw x0 x1 x2 x3 x10
      go_loopw [6] (fun i wr=>AllRel (inP s.r) s.p w0 i wr) (fun i _=>n2-(intOf i).toNat)
      case atStart=>exact⟨0,by omega,rfl,rfl,hb⟩
      case round=>
       clear hb hzz hww
       obtain⟨k2,hk2,rfl,ha0,hb⟩:=hrel
       have hzz:=hb.size
       have hww:Below w.heap.size w wr:=hw0.trans (hb.mono hw0.size)
       have bw:=b.below hb lb
       have lbw:=bw.lt
       have x11:=bw.cell 11
       simp only[List.getElem?_toArray,List.getElem?_cons_succ,List.getElem?_cons_zero]at x11
       by_cases hlt2:k2<n2
       · obtain⟨ad,x,A3,n3,c3,A4,n4,c4,rfl,ha,hbk,hxt,hxs,d0,d1,d2,d3,d4,d5,d6,d7,hn3,hc3,hs3,hn4,hc4,hs4⟩:=((h2.below PnRel.kept hww).more PnRel.kept hww.size).pn hlt2
         have hd1:decide ((k2:Int)<(n2:Int))=true:=by simp;omega
         have hk0:(0:Int)≤(k2:Int):=by omega
         have hk1:(k2:Int)<(n2:Int):=by omega
         have hsm:=hQ.2 x (List.mem_of_getElem? ha)
         have hl3:=hs3.1
         have hl4:=hs4.1
         rw[all_drop ha]at ha0
         have hX:Below w0.heap.size w0 (wr.alloc (.cells (x.arr (.slice A3 n3 c3) (.slice A4 n4 c4)) 162)):=hb.alloc hzz _
         have hXr:Below wr.heap.size wr (wr.alloc (.cells (x.arr (.slice A3 n3 c3) (.slice A4 n4 c4)) 162)):=by go_grown
         have i9:=Blk.new wr 162 (x.arr (.slice A3 n3 c3) (.slice A4 n4 c4))
         have hr:=(hs3.below KyRel.kept hXr).more KyRel.kept hXr.size
         have hw:=(hs4.below WtRel.kept hXr).more WtRel.kept hXr.size
         clear ha
         go_wp2
         generalize hg9:wr.heap.size=g9 at*
         obtain⟨w3,hw3e⟩:∃w3,w3=wr.alloc (.cells (x.arr (.slice A3 n3 c3) (.slice A4 n4 c4)) 162):=⟨_,rfl⟩
         rw[←hw3e]at hX i9 hr hw ⊢
         clear hw3e hXr d0 d1 d2 d3 d4 d5 d6 d7 hs3 hs4 hg9 bw lbw x11
         have hl9:=i9.lt
         have hwx:Below w.heap.size w w3:=hw0.trans (hX.mono hw0.size)
         go_loopw [8] (fun i wr=>AllRel (inK s.r) x.r w3 i wr) (fun i _=>n3-(intOf i).toNat)
         case atStart=>exact⟨0,by omega,rfl,rfl,Below.refl _ _⟩
         case round=>
           obtain⟨k3,hk3,rfl,hi0,hb3⟩:=hrel
           have hz3:=hb3.size
           have hX3:Below w0.heap.size w0 wr:=hX.trans (hb3.mono hX.size)
           have bw:=b.below hX3 lb
           have lbr:=bw.lt
           have x0:=bw.cell 0
           have x1:=bw.cell 1
           have x2:=bw.cell 2
           have x3:=bw.cell 3
           have j9:=i9.below hb3 hl9
           have lg9:=j9.lt
           have u6:=j9.cell 6
           simp only[List.getElem?_toArray,List.getElem?_cons_succ,List.getElem?_cons_zero]at x0 x1 x2 x3 u6
           have hwr:Below w.heap.size w wr:=hwx.trans (hb3.mono hwx.size)
           by_cases hlt3:k3<n3
           · obtain⟨ad3,a,rfl,ha,hbk3,hok3,e0⟩:=((hr.below KyRel.kept hb3).more KyRel.kept hb3.size).ky hlt3
             have hd3:decide ((k3:Int)<(n3:Int))=true:=by simp;omega
             have hk03:(0:Int)≤(k3:Int):=by omega
             have hk13:(k3:Int)<(n3:Int):=by omega
             rw[all_drop ha]at hi0
             have hI:=rinK_any s.r a wr.drew (reach_max hok3)
             by_cases hin:inK s.r a=true
             · have HT:=Lib.hid (show (x.r.drop (k3+1)).all (inK s.r)=x.r.all (inK s.r) by rw[←hi0,hin];rfl)
               rw[hin]at hI
               clear hi0 ha hin
               go_wp2
               go_region_held3 (fun w'=>w'.cell? ⟨w.heap.size,0,none⟩=some (.int .i64 s.r.id)∧w'.cell? ⟨w.heap.size,1,none⟩=some (.int .i64 s.r.ep)∧w'.cell? ⟨w.heap.size,2,none⟩=some (.float .f64 s.r.lo)∧w'.cell? ⟨w.heap.size,3,none⟩=some (.float .f64 s.r.hi)∧w'.cell? ⟨g9,6,none⟩=some (.slice (some ad3) n3 c3)∧w'.cell? (ad3.add k3)=some (.string a))
                (first|exact⟨x0,x1,x2,x3,u6,e0⟩|exact⟨(hb9.cell (by exact lbr)).trans x0,(hb9.cell (by exact lbr)).trans x1,(hb9.cell (by exact lbr)).trans x2,(hb9.cell (by exact lbr)).trans x3,(hb9.cell (by exact lg9)).trans u6,(hb9.cell (by exact hbk3)).trans e0⟩)
                (first|((with_reducible refine hI.mono ?_);rintro e w5 ⟨rfl,hb5⟩;have hb9:Below wr.heap.size wr w5:=(Below.refl wr.heap.size wr).drew.trans hb5))
               go_wp2
               go_roundw
               case rel=>exact⟨k3+1,by omega,by go_num,HT.out,hb3.trans (hb9.mono hz3)⟩
               case measure=>simp[intOf];omega
             · have hif:inK s.r a=false:=by simpa using hin
               have HF:=Lib.hid (show mayS s=false by
                rw[hS3,←ha0]
                unfold inP
                rw[←hi0,hif]
                rfl)
               rw[hif]at hI
               clear hi0 ha hin hif
               go_wp2
               go_region_held3 (fun w'=>w'.cell? ⟨w.heap.size,0,none⟩=some (.int .i64 s.r.id)∧w'.cell? ⟨w.heap.size,1,none⟩=some (.int .i64 s.r.ep)∧w'.cell? ⟨w.heap.size,2,none⟩=some (.float .f64 s.r.lo)∧w'.cell? ⟨w.heap.size,3,none⟩=some (.float .f64 s.r.hi)∧w'.cell? ⟨g9,6,none⟩=some (.slice (some ad3) n3 c3)∧w'.cell? (ad3.add k3)=some (.string a))
                (first|exact⟨x0,x1,x2,x3,u6,e0⟩|exact⟨(hb9.cell (by exact lbr)).trans x0,(hb9.cell (by exact lbr)).trans x1,(hb9.cell (by exact lbr)).trans x2,(hb9.cell (by exact lbr)).trans x3,(hb9.cell (by exact lg9)).trans u6,(hb9.cell (by exact hbk3)).trans e0⟩)
                (first|((with_reducible refine hI.mono ?_);rintro e w5 ⟨rfl,hb5⟩;have hb9:Below wr.heap.size wr w5:=(Below.refl wr.heap.size wr).drew.trans hb5))
               go_wp2
               go_ret
               rw[HF.out]
               exact⟨rfl,hwr.trans (hb9.mono hwr.size)⟩
           · have hd3:decide ((k3:Int)<(n3:Int))=false:=by simp;omega
             have hrr:x.r.all (inK s.r)=true:=by rw[←hi0,List.drop_of_length_le (by omega)];rfl
             have hip:inP s.r x=x.w.all fun a=>inK s.r a.key:=by unfold inP;rw[hrr];rfl
             have hwb:=(hw.below WtRel.kept hb3).more WtRel.kept hb3.size
             clear hi0 hrr
             go_wp2
             obtain⟨w4,rfl⟩:∃w4,w4=wr:=⟨_,rfl⟩
             clear u6 x0 x1 x2 x3 lbr bw
             go_loopw [9] (fun i wr=>AllRel (fun a:Wt=>inK s.r a.key) x.w w4 i wr) (fun i _=>n4-(intOf i).toNat)
             case atStart=>exact⟨0,by omega,rfl,rfl,Below.refl _ _⟩
             case round=>
              obtain⟨k4,hk4,rfl,hi0,hb4⟩:=hrel
              have hz4:=hb4.size
              have hX4:Below w0.heap.size w0 wr:=hX3.trans (hb4.mono hX3.size)
              have bw:=b.below hX4 lb
              have lbr:=bw.lt
              have x0:=bw.cell 0
              have x1:=bw.cell 1
              have x2:=bw.cell 2
              have x3:=bw.cell 3
              have k9:=j9.below hb4 lg9
              have lg9:=k9.lt
              have u7:=k9.cell 7
              simp only[List.getElem?_toArray,List.getElem?_cons_succ,List.getElem?_cons_zero]at x0 x1 x2 x3 u7
              have hwr4:Below w.heap.size w wr:=hwr.trans (hb4.mono hwr.size)
              by_cases hlt4:k4<n4
              · obtain⟨ad4,a,rfl,ha,hbk4,hok4,e0,e1,e2,e3⟩:=((hwb.below WtRel.kept hb4).more WtRel.kept hb4.size).wt hlt4
                have hd4:decide ((k4:Int)<(n4:Int))=true:=by simp;omega
                have hk04:(0:Int)≤(k4:Int):=by omega
                have hk14:(k4:Int)<(n4:Int):=by omega
                rw[all_drop ha]at hi0
                have hI:=rinK_any s.r a.key wr.drew (reach_max hok4.1)
                by_cases hin:inK s.r a.key=true
                · have HT:=Lib.hid (show (x.w.drop (k4+1)).all (fun a:Wt=>inK s.r a.key)=x.w.all (fun a:Wt=>inK s.r a.key) by rw[←hi0,hin];rfl)
                  rw[hin]at hI
                  clear hi0 ha hin
                  go_wp2
                  go_region_held3 (fun w'=>w'.cell? ⟨w.heap.size,0,none⟩=some (.int .i64 s.r.id)∧w'.cell? ⟨w.heap.size,1,none⟩=some (.int .i64 s.r.ep)∧w'.cell? ⟨w.heap.size,2,none⟩=some (.float .f64 s.r.lo)∧w'.cell? ⟨w.heap.size,3,none⟩=some (.float .f64 s.r.hi)∧w'.cell? ⟨g9,7,none⟩=some (.slice (some ad4) n4 c4)∧w'.cell? (ad4.add (k4*4))=some (.string a.key))
                   (first|exact⟨x0,x1,x2,x3,u7,e0⟩|exact⟨(hb9.cell (by exact lbr)).trans x0,(hb9.cell (by exact lbr)).trans x1,(hb9.cell (by exact lbr)).trans x2,(hb9.cell (by exact lbr)).trans x3,(hb9.cell (by exact lg9)).trans u7,(hb9.cell (by exact hbk4)).trans e0⟩)
                   (first|((with_reducible refine hI.mono ?_);rintro e w5 ⟨rfl,hb5⟩;have hb9:Below wr.heap.size wr w5:=(Below.refl wr.heap.size wr).drew.trans hb5))
                  go_wp2
                  go_roundw
                  case rel=>exact⟨k4+1,by omega,by go_num,HT.out,hb4.trans (hb9.mono hz4)⟩
                  case measure=>simp[intOf];omega
                · have hif:inK s.r a.key=false:=by simpa using hin
                  have HF:=Lib.hid (show mayS s=false by
                   rw[hS3,←ha0,hip,←hi0,hif]
                   rfl)
                  rw[hif]at hI
                  clear hi0 ha hin hif
                  go_wp2
                  go_region_held3 (fun w'=>w'.cell? ⟨w.heap.size,0,none⟩=some (.int .i64 s.r.id)∧w'.cell? ⟨w.heap.size,1,none⟩=some (.int .i64 s.r.ep)∧w'.cell? ⟨w.heap.size,2,none⟩=some (.float .f64 s.r.lo)∧w'.cell? ⟨w.heap.size,3,none⟩=some (.float .f64 s.r.hi)∧w'.cell? ⟨g9,7,none⟩=some (.slice (some ad4) n4 c4)∧w'.cell? (ad4.add (k4*4))=some (.string a.key))
                   (first|exact⟨x0,x1,x2,x3,u7,e0⟩|exact⟨(hb9.cell (by exact lbr)).trans x0,(hb9.cell (by exact lbr)).trans x1,(hb9.cell (by exact lbr)).trans x2,(hb9.cell (by exact lbr)).trans x3,(hb9.cell (by exact lg9)).trans u7,(hb9.cell (by exact hbk4)).trans e0⟩)
                   (first|((with_reducible refine hI.mono ?_);rintro e w5 ⟨rfl,hb5⟩;have hb9:Below wr.heap.size wr w5:=(Below.refl wr.heap.size wr).drew.trans hb5))
                  go_wp2
                  go_ret
                  rw[HF.out]
                  exact⟨rfl,hwr4.trans (hb9.mono hwr4.size)⟩
              · have hd4:decide ((k4:Int)<(n4:Int))=false:=by simp;omega
                have hpt:inP s.r x=true:=by rw[hip,←hi0,List.drop_of_length_le (by omega)];rfl
                have HT:=Lib.hid (show (s.p.drop (k2+1)).all (inP s.r)=s.p.all (inP s.r) by rw[←ha0,hpt];rfl)
                clear hi0 ha0 hip hpt
                go_wp2
                go_roundw
                case rel=>exact⟨k2+1,by omega,by go_num,HT.out,hX4⟩
                case measure=>simp[intOf];omega
       · have hd1:decide ((k2:Int)<(n2:Int))=false:=by simp;omega
         have HF:=Lib.hid (show mayS s=true by rw[hS3,←ha0,List.drop_of_length_le (by omega)];rfl)
         clear ha0
         go_wp2
         go_ret
         rw[HF.out]
         exact⟨rfl,hww⟩
 · have hq:(rloadE s.h s.p !=0)=true:=by simp[hE]
   have HF:=Lib.hid (show mayS s=false by rw[hS];simp[hE])
   clear hS
   go_wp2
   go_ret
   rw[HF.out]
   exact⟨rfl,hw0⟩
theorem rstateMay_any (s:Stt) (A1 A2:Option Addr) (n1 n2 c1 c2:Nat) (w:World) (hok:s.r.ok) (h1:Sl HsRel 2 w w.heap.size A1 n1 s.h) (h2:Sl PnRel 8 w w.heap.size A2 n2 s.p) (hH:SmallH s.h) (hQ:SmallP s.p):
 Calls Tryz.prog 73 #[.agg (s.arr (.slice A1 n1 c1) (.slice A2 n2 c2))] w fun e w'=>e=.returned (.bool (mayS s))∧Below w.heap.size w w':=by
 by_cases h:(mayR s.r&&s.f.may&&s.c.may)=true
 · exact rstateMay_good s A1 A2 n1 n2 c1 c2 w hok h1 h2 hH hQ h
 · have hb:(mayR s.r&&s.f.may&&s.c.may)=false:=by simpa using h
   have e:mayS s=false:=by unfold mayS;rw[hb];rfl
   rw[e]
   exact rstateMay_bad s A1 A2 n1 n2 c1 c2 w hok hb
end Go.Proofs.YtcalkfgibflbnaaGreat
