/- The walk of msgs.walk of a coder that writes, kinds 11 and 13. -/
import Derived.Test.YtcalkfgibflbnaaGreatBach
namespace Go.Proofs.YtcalkfgibflbnaaGreat
set_option maxHeartbeats 8000000
set_option maxRecDepth 100000
set_option linter.unusedVariables false
open Go.RowKit Fl
attribute [local go_sem] dJ
theorem aj.at_ {w:World} {g:Nat} {t:TypeId} {cs:Array Value} (h:aj w g t cs) (o:Nat) (xs:List Value) (e:(cs.toList.drop o).take xs.length=xs:=by rfl):At w ⟨g,o,none⟩ xs:=fun j u hj=>by
 have e2:(⟨g,o,none⟩:Addr).add j=⟨g,o+j,none⟩:=by unfold Addr.add;split<;>simp_all
 have hlt:=(List.getElem?_eq_some_iff.1 hj).1;have h3:((cs.toList.drop o).take xs.length)[j]?=some u:=by rw[e];exact hj
 rw[List.getElem?_take_of_lt hlt,List.getElem?_drop,Array.getElem?_toList]at h3;rw[e2,h.cell,h3]
structure WS (w:World) (B g:Nat) (v:Value) (bs:List UInt8) (gc bx gr:Nat) (m:Mg) (h:Hm):Prop where
 c:CW w B g v bs gc
 kx:aj w bx 84 #[.pointer (some ⟨gc,0,none⟩)]
 km:aj w gr 41 (m.vals h)
 ax:dA w g v bx
 am:dA w g v gr
 lo:bH w B m h
section
variable {w w':World} {B g gc bx gr:Nat} {v v':Value} {bs bs':List UInt8} {m:Mg} {h:Hm}
theorem WS.step (s:WS w B g v bs gc bx gr m h) (hc:CW w' B g v' bs' gc) (hf:dh w w' g v v'):WS w' B g v' bs' gc bx gr m h:=
 ⟨hc,(hf.heap s.ax).trans s.kx,(hf.heap s.am).trans s.km,hf.bQ s.ax,hf.bQ s.am,s.lo.below (s.c.lo hf)⟩
theorem WS.below (s:WS w B g v bs gc bx gr m h) (hb:Below w.heap.size w w'):WS w' B g v bs gc bx gr m h:=s.step (s.c.below hb) (dh.eU g v hb)
theorem WS.start (hc:CW w B g v bs gc) (hp:dA w g v gr) (hb:aj w gr 41 (m.vals h)) (lo:bH w B m h):WS (w.alloc (.cells #[.pointer (some ⟨gc,0,none⟩)] 84)) B g v bs gc w.heap.size gr m h:=by
 have hX:Below w.heap.size w (w.alloc (.cells #[.pointer (some ⟨gc,0,none⟩)] 84)):=aJ;refine⟨hc.below hX,aj.new _ _ _,hb.below hX hp.1,⟨aA,?_,?_⟩,⟨Nat.lt_of_lt_of_le hp.1 hX.size,hp.2⟩,lo.below (hX.mono hc.hB)⟩
 · have:=hc.wr.lt;omega
 · intro e;have:=hc.wr.yU _ e.symm;omega
end
def kJ (m:Mg) (bs:List UInt8):Int:=if lD m=0 then (if 4194304<bs.length then 2 else 0) else lD m
def og (m:Mg) (bs:List UInt8):List UInt8:=if kJ m bs=0 then bs else []
def WalkM (m:Mg) (h:Hm) (bs:List UInt8):Prop:=∀(w:World) (B g:Nat) (v:Value) (gc gr:Nat),CW w B g v [] gc->dA w g v gr->aj w gr 41 (m.vals h)->bH w B m h->
    Calls Tryz.prog 42 #[.pointer (some ⟨gc,0,none⟩),.pointer (some ⟨gr,0,none⟩)] w (jk w B g v [] gc bs)
set_option maxRecDepth 100000 in
set_option maxHeartbeats 4000000 in
theorem afV (m:Mg) (h:Hm) (w:World) (bs:List UInt8) (ok:m.ok) (i:bH w w.heap.size m h) (sm:iV m h) (pl:∀r∈m.rc,jo r) (hwk:lD m=0->WalkM m h bs) (hlen:bs.length+10<=1000000000000):
 Calls Tryz.prog 16 #[.agg (m.vals h)] w (sV w (og m bs) (kJ m bs)):=by
 have hM:=fun w' (hb:Below w.heap.size w w')=>afU m h w' ok (i.up hb) sm pl
 have hX:Below w.heap.size w (w.alloc (.cells (m.vals h) 41)):=aJ;have B0:aj (w.alloc (.cells (m.vals h) 41)) w.heap.size 41 (m.vals h):=aj.new _ _ _;by_cases hm:lD m=0
 · have HE:=au (show kJ m bs=if 4194304<bs.length then 2 else 0 by unfold kJ;rw[if_pos hm]);have HO:=au (show og m bs=if 4194304<bs.length then [] else bs by unfold og;rw[HE.out];by_cases hq:4194304<bs.length<;>simp[hq]);have hwk:=hwk hm;rw[hm]at hM;clear hm;go_enter Tryz.func16,Tryz.ntmps16;go_wp2_with (first
    |(guard_target=~ wpList _ _ _ _ _ _;refine wpList_load_row rfl 41 _ rfl w.heap.size ah _ _ (0,0) _ B0 rfl rfl ah ?_)
    |((with_reducible refine(hM _ hX).mono ?_);rintro e w1 ⟨rfl,hb1⟩
      have hX1:=hX.trans (hb1.mono hX.size);have B1:=B0.below hb1 B0.lt)
    |((with_reducible refine(QS _).mono ?_);rintro e w2 ⟨rfl,rfl⟩))
   have hW:=Wr.new w1;have hD:Below (w1.alloc (.cells #[.slice none 0 0] 129)).heap.size (w1.alloc (.cells #[.slice none 0 0] 129)) ((w1.alloc (.cells #[.slice none 0 0] 129)).alloc (.cells #[.pointer (some ⟨w1.heap.size,0,none⟩),.pointer none] 87)):=aJ;have qJ:Below w1.heap.size w1 ((w1.alloc (.cells #[.slice none 0 0] 129)).alloc (.cells #[.pointer (some ⟨w1.heap.size,0,none⟩),.pointer none] 87)):=aJ;have kC:aj ((w1.alloc (.cells #[.slice none 0 0] 129)).alloc (.cells #[.pointer (some ⟨w1.heap.size,0,none⟩),.pointer none] 87)) (w1.heap.size+1) 87 #[.pointer (some ⟨w1.heap.size,0,none⟩),.pointer none]:=aj.new' _ _ aA;have hc:CW ((w1.alloc (.cells #[.slice none 0 0] 129)).alloc (.cells #[.pointer (some ⟨w1.heap.size,0,none⟩),.pointer none] 87)) w1.heap.size w1.heap.size (.slice none 0 0) [] (w1.heap.size+1):=
    ⟨hW.below hD,qJ.size,kC,kC.lt,byOmega,by intro e;cases e⟩
   have B2:=B1.below qJ B1.lt;have hlo:bH w1 w1.heap.size m h:=i.up hX1;have hl0:w.heap.size<w1.heap.size:=B1.lt;have FW:=au hX1;clear hX hX1 hM B0 i sm pl hb1 kC hD hW;go_wp2_with fail;refine(hwk _ w1.heap.size w1.heap.size (.slice none 0 0) (w1.heap.size+1) w.heap.size hc (dA.low hc hl0) B2 (hlo.below qJ)).mono ?_;rintro e w2 ⟨rfl,v2,hc2,hf2⟩;rw[List.nil_append]at hc2;have HZ:=au (qJ.trans (hc.lo hf2));have hl1:=B2.lt;clear hc hlo B2 hf2 qJ hwk;go_wp2_with ((with_reducible refine(QW _ v2 bs w1.heap.size w2 hc2.wr byOmega).mono ?_);rintro e w3 ⟨A,c,rfl,q1,q2,q3,q4⟩);all_goals have hB2:=FW.out.trans (HZ.out.mono FW.out.size)
   all_goals have hB3:=hB2.trans (q4.mono hB2.size)
   · have hgt:4194304<bs.length:=by
        have hz:decide (4194304<(bs.length:Int))=true:=ay;simp at hz;omega
     go_ret2
     rw[HE.out,HO.out,if_pos hgt,if_pos hgt];exact sV.nil 2 hB3
   · have hgt:¬4194304<bs.length:=byOmega
     go_ret2
     rw[HE.out,HO.out,if_neg hgt,if_neg hgt];exact⟨A,c,rfl,q1,q2,zu q3 hB2.size,hB3⟩
 · have h1:kJ m bs=lD m:=(by unfold kJ;rw[if_neg hm]);have h2:og m bs=[]:=(by unfold og;rw[h1,if_neg hm]);rw[h1,h2];have hb0:(lD m !=0)=true:=(by simp[hm]);generalize lD m=mm at*;clear h1 h2 hm hwk;go_enter Tryz.func16,Tryz.ntmps16;go_wp2_with (first
    |(guard_target=~ wpList _ _ _ _ _ _;refine wpList_load_row rfl 41 _ rfl w.heap.size ah _ _ (0,0) _ B0 rfl rfl ah ?_)
    |((with_reducible refine(hM _ hX).mono ?_);rintro e w1 ⟨rfl,hb1⟩))
   go_ret2
   exact sV.nil mm (hX.trans (hb1.mono hX.size))
set_option maxHeartbeats 6000000
def iL (a:Sn):List UInt8:=bn a.key++(eY a.v++aU a.s)
theorem afW:sK 134 gI 7 iL:=by
 rintro a w B g v bs gc p _ hc hp-hA ⟨rfl,hk,hv,hs⟩ hlen;have A0:At w p (gQ a.key):=hA.sub (a:=[]) (b:=[_]) (c:=[_,_,_,_,_,_]);have A1:At w ⟨p.block,p.off+1,none⟩ a.v.cells:=hA.sub (a:=[_]) (b:=[_,_,_]) (c:=[_,_,_]);have A2:At w ⟨p.block,p.off+4,none⟩ [.int .i64 a.s.w,.int .i64 a.s.l,.int .i64 a.s.n]:=hA.sub (a:=[_,_,_,_]) (b:=[_,_,_]) (c:=[]);have hl:(iL a).length=(bn a.key).length+((eY a.v).length+((aU a.s).length)):=by unfold iL;simp only[aK]
 clear hA;go_enter Tryz.func134,Tryz.ntmps134;go_wp2_with fail;refine(DT _ w B g v bs gc p _ hc hp rfl A0 ⟨rfl,hk⟩ byOmega).mono ?_;rintro e w1 ⟨rfl,v1,hc1,hf1⟩;have hp1:=hf1.bQ hp;replace A1:=hf1.at_ (p:=⟨p.block,p.off+1,none⟩) hp A1;replace A2:=hf1.at_ (p:=⟨p.block,p.off+4,none⟩) hp A2;go_wp2_with fail;refine(Ir _ w1 B g v1 _ gc ⟨p.block,p.off+1,none⟩ _ hc1 hp1 rfl A1 ⟨rfl,hv⟩ iD).mono ?_;rintro e w2 ⟨rfl,v2,hc2,hf2⟩;have hp2:=hf2.bQ hp1;replace A2:=hf2.at_ (p:=⟨p.block,p.off+4,none⟩) hp1 A2;go_wp2_with fail;refine(uP _ w2 B g v2 _ gc ⟨p.block,p.off+4,none⟩ _ hc2 hp2 rfl A2 ⟨rfl,hs⟩ iD).mono ?_;rintro e w3 ⟨rfl,v3,hc3,hf3⟩;go_wp2
 go_end0
 refine⟨rfl,v3,?_,((hf1).trans hf2).trans hf3⟩;unfold iL;simpa only[List.append_assoc] using hc3
theorem VH (l:List Sn) (A:Option Addr) (n c:Nat) (w:World) (B g:Nat) (v:Value) (bs:List UInt8) (gc:Nat) (p:Addr) (hc:CW w B g v bs gc) (hp:dA w g v p.block) (hA:w.cell? p=some (.slice A n c)) (hcm:n<=maxLen)
 (hS:Sl gI 7 w B A n l) (hlen:bs.length+(aH iL l).length+10<=1000000000000):
 Calls Tryz.prog 133 #[.pointer (some ⟨gc,0,none⟩),.pointer (some p),.func (.func 134) #[.pointer (some ⟨gc,0,none⟩)] #[]] w (jk w B g v bs gc (aH iL l)):=by
 unfold maxLen at hcm;have hln:l.length=n:=hS.1;have hle:l.length<=n:=byOmega;have hge:n<=l.length:=byOmega;have HL:=au hlen;have HN:=au hln;have hlt0:(aH iL l).length=(encI (n:Int)).length+(l.flatMap iL).length:=by unfold aH;rw[aK,hln]
 have HT:=au hlt0;have h0:bs.length+10<=1000000000000:=byOmega;have hn0:(0:Int)<=(n:Int):=byOmega;clear hlen hln hlt0;have c0:=hc.blk.cell 0;simp only[List.getElem?_toArray,getZero]at c0;go_enter Tryz.func133,Tryz.ntmps133;go_wp2_with fail;refine(rH g n v bs B w hc.wr hc.hB byOmega byOmega h0).mono ?_;rintro e w1 ⟨rfl,v1,hw1,hf1⟩;have hc1:=hc.step hw1 hf1;have hp1:=hf1.bQ hp;have hS1:=hS.below gI.kept (hc.lo hf1);have hA1:w1.cell? p=some (.slice A n c):=(World.cell?_of_block (w:=w) (w':=w1) (hf1.heap hp)).trans hA;clear hc hp hS hA c0 h0 hw1;have c0:=cl (hc1.blk.cell 0);go_wp2_with fail
 go_loopw [39] (fun i wr=>∃(k:Nat) (v2:Value),k<=n/\i=.int .i64 (k:Int)/\CW wr B g v2 (bs++(encI (n:Int)++(l.take k).flatMap iL)) gc/\dh w1 wr g v1 v2) (fun i _=>n-(intOf i).toNat)
 case atStart=>exact⟨0,v1,byOmega,rfl,by simpa using hc1,dh.refl _ _ _⟩
 case round=>
  obtain⟨k,v2,hk,rfl,hc2,hf2⟩:=hrel;have hp2:=hf2.bQ hp1;have hA2:wr.cell? p=some (.slice A n c):=(World.cell?_of_block (w:=w1) (w':=wr) (hf2.heap hp1)).trans hA1;have d0:=cl (hc2.blk.cell 0);by_cases hlt:k<n
  · have hS2:=hS1.below gI.kept (hc1.lo hf2);obtain⟨ad,cs,a,rfl,ha,hb,hcl,hcs,hr⟩:=hS2.at_ hlt;have hd1:decide ((k:Int)<(n:Int))=true:=ay;have hk0:(0:Int)<=(k:Int):=byOmega;have hk1:(k:Int)<(n:Int):=byOmega;have HX:=au (xQ iL ha);have hfl:=xR iL l (k+1);have jL:((l.take k).flatMap iL).length+(iL a).length<=(l.flatMap iL).length:=(by rw[HX.out,aK]at hfl;exact hfl);have hAt:At wr (ad.add (k*7)) cs:=fun j u hj=>by rw[oh];exact hcs j u hj
    have hbk:(ad.add (k*7)).block<B:=(by rw[iW];exact hb);have HK:=au jL;clear hfl jL ha hb hcs;go_wp2_with fail;refine(afW a wr B g v2 _ gc (ad.add (k*7)) cs hc2 (dA.low hc2 hbk) hcl hAt hr (by have h1:=HL.out;rw[HT.out]at h1;have h2:=HK.out;simp only[aK];omega)).mono ?_;rintro e w3 ⟨rfl,v3,hc3,hf3⟩;go_wp2_with fail;go_roundw
    case rel=>
        refine⟨k+1,v3,byOmega,by go_num,?_,hf2.trans hf3⟩;rw[HX.out];simpa only[List.append_assoc] using hc3
    case measure=>simp[intOf];omega
  · have hd1:decide ((k:Int)<(n:Int))=false:=ay;go_wp2_with fail
    go_end0
    refine⟨rfl,v2,?_,hf1.trans hf2⟩;unfold aH;rw[HN.out,<-xU iL (k:=k) byOmega];exact hc2
theorem VI (l:List Rg) (A:Option Addr) (n c:Nat) (w:World) (B g:Nat) (v:Value) (bs:List UInt8) (gc:Nat) (p:Addr) (hc:CW w B g v bs gc) (hp:dA w g v p.block) (hA:w.cell? p=some (.slice A n c)) (hcm:n<=maxLen)
 (hS:Sl gX 4 w B A n l) (hlen:bs.length+(aH dU l).length+10<=1000000000000):
 Calls Tryz.prog 135 #[.pointer (some ⟨gc,0,none⟩),.pointer (some p),.func (.func 136) #[.pointer (some ⟨gc,0,none⟩)] #[]] w (jk w B g v bs gc (aH dU l)):=by
 unfold maxLen at hcm;have hln:l.length=n:=hS.1;have hle:l.length<=n:=byOmega;have hge:n<=l.length:=byOmega;have HL:=au hlen;have HN:=au hln;have hlt0:(aH dU l).length=(encI (n:Int)).length+(l.flatMap dU).length:=by unfold aH;rw[aK,hln]
 have HT:=au hlt0;have h0:bs.length+10<=1000000000000:=byOmega;have hn0:(0:Int)<=(n:Int):=byOmega;clear hlen hln hlt0;have c0:=hc.blk.cell 0;simp only[List.getElem?_toArray,getZero]at c0;go_enter Tryz.func135,Tryz.ntmps135;go_wp2_with fail;refine(rH g n v bs B w hc.wr hc.hB byOmega byOmega h0).mono ?_;rintro e w1 ⟨rfl,v1,hw1,hf1⟩;have hc1:=hc.step hw1 hf1;have hp1:=hf1.bQ hp;have hS1:=hS.below gX.kept (hc.lo hf1);have hA1:w1.cell? p=some (.slice A n c):=(World.cell?_of_block (w:=w) (w':=w1) (hf1.heap hp)).trans hA;clear hc hp hS hA c0 h0 hw1;have c0:=cl (hc1.blk.cell 0);go_wp2_with fail
 go_loopw [39] (fun i wr=>∃(k:Nat) (v2:Value),k<=n/\i=.int .i64 (k:Int)/\CW wr B g v2 (bs++(encI (n:Int)++(l.take k).flatMap dU)) gc/\dh w1 wr g v1 v2) (fun i _=>n-(intOf i).toNat)
 case atStart=>exact⟨0,v1,byOmega,rfl,by simpa using hc1,dh.refl _ _ _⟩
 case round=>
  obtain⟨k,v2,hk,rfl,hc2,hf2⟩:=hrel;have hp2:=hf2.bQ hp1;have hA2:wr.cell? p=some (.slice A n c):=(World.cell?_of_block (w:=w1) (w':=wr) (hf2.heap hp1)).trans hA1;have d0:=cl (hc2.blk.cell 0);by_cases hlt:k<n
  · have hS2:=hS1.below gX.kept (hc1.lo hf2);obtain⟨ad,cs,a,rfl,ha,hb,hcl,hcs,hr⟩:=hS2.at_ hlt;have hd1:decide ((k:Int)<(n:Int))=true:=ay;have hk0:(0:Int)<=(k:Int):=byOmega;have hk1:(k:Int)<(n:Int):=byOmega;have HX:=au (xQ dU ha);have hfl:=xR dU l (k+1);have jL:((l.take k).flatMap dU).length+(dU a).length<=(l.flatMap dU).length:=(by rw[HX.out,aK]at hfl;exact hfl);have hAt:At wr (ad.add (k*4)) cs:=fun j u hj=>by rw[oh];exact hcs j u hj
    have hbk:(ad.add (k*4)).block<B:=(by rw[iW];exact hb);have HK:=au jL;clear hfl jL ha hb hcs;go_wp2_with fail;refine(RZ a wr B g v2 _ gc (ad.add (k*4)) cs hc2 (dA.low hc2 hbk) hcl hAt hr (by have h1:=HL.out;rw[HT.out]at h1;have h2:=HK.out;simp only[aK];omega)).mono ?_;rintro e w3 ⟨rfl,v3,hc3,hf3⟩;go_wp2_with fail;go_roundw
    case rel=>
        refine⟨k+1,v3,byOmega,by go_num,?_,hf2.trans hf3⟩;rw[HX.out];simpa only[List.append_assoc] using hc3
    case measure=>simp[intOf];omega
  · have hd1:decide ((k:Int)<(n:Int))=false:=ay;go_wp2_with fail
    go_end0
    refine⟨rfl,v2,?_,hf1.trans hf2⟩;unfold aH;rw[HN.out,<-xU dU (k:=k) byOmega];exact hc2
def iM (r:Rc):List UInt8:=jX (fM r)
theorem afX (r:Rc) (h:aV) (w:World) (B g:Nat) (v:Value) (bs:List UInt8) (gc b o:Nat) (hc:CW w B g v bs gc) (hr:w.rangeAt b o (r.vals h).toList) (ok:r.ok) (cp:h.caps) (i:fZ w B r h) (pl:jo r) (hlen:bs.length+(iM r).length+10<=1000000000000):
 Calls Tryz.prog 87 #[.pointer (some ⟨gc,0,none⟩),.pointer (some ⟨b,o,none⟩)] w (jk w B g v bs gc (iM r)):=by
 have c0:=cl (hc.blk.cell 0);have i2:fZ w w.heap.size r h:=i.more hc.hB;have hE:=Nq r h w ok i2.into cp (pl.sm i2) (by have:=pl.e;omega);have hol:(fM r).length<=6000000:=by
  have:=pl.e;unfold fM;split
  · exact this
  · exact Nat.zero_le _
 clear i i2 pl;go_enter Tryz.func87,Tryz.ntmps87;go_wp2_with (guard_target=~ wpList _ _ _ _ _ _;refine wpList_load_mid rfl 69 _ rfl b o ah (r.vals h).toList _ hr rfl rfl ah ?_);refine hE.mono ?_;rintro e w1 ⟨A1,c1,rfl,q1,m1,o1,hb1⟩;have hR:Reads w1 w1.heap.size 1 A1 (fM r).length (bytesV (fM r)):=Reads.kK o1;have hc1:=hc.below hb1;have F1:=dh.eU g v hb1;have hX:Below w1.heap.size w1 (w1.alloc (.cells #[.string ⟨(fM r).toArray⟩] 9)):=aJ;have hc2:=hc1.below hX;have F2:=F1.trans (dh.eU g v hX);have bS:aj (w1.alloc (.cells #[.string ⟨(fM r).toArray⟩] 9)) w1.heap.size 9 #[.string ⟨(fM r).toArray⟩]:=aj.new _ _ _;have hcv:=DU (P:=Tryz.prog) w1 49 9 5 Tryz.underlying49 Tryz.underlying5 Tryz.underlying9 (c:=c1) hR;have hap:dA (w1.alloc (.cells #[.string ⟨(fM r).toArray⟩] 9)) g v w1.heap.size:=⟨aA,by have:=hc1.wr.lt;omega,fun e=>by have:=hc1.wr.yU _ e.symm;omega⟩;clear hE hr hR o1;go_wp2_with fail;refine(DT ⟨(fM r).toArray⟩ _ B g v bs gc ⟨w1.heap.size,0,none⟩ _ hc2 hap rfl (bS.at_ 0 [.string ⟨(fM r).toArray⟩]) ⟨rfl,by show (fM r).toArray.size<=_;simp;omega⟩ hlen).mono ?_;rintro e w2 ⟨rfl,v2,hc3,hf3⟩;go_wp2
 go_end0
 exact⟨rfl,v2,hc3,F2.trans hf3⟩
theorem afY (r:Rc) (h:aV) (w:World) (B g:Nat) (v:Value) (bs:List UInt8) (gc bx b o:Nat) (hc:CW w B g v bs gc) (kx:aj w bx 84 #[.pointer (some ⟨gc,0,none⟩)]) (hr:w.rangeAt b o (r.vals h).toList) (ok:r.ok) (cp:h.caps) (i:fZ w B r h) (pl:jo r) (hlen:bs.length+(iM r).length+10<=1000000000000):
 Calls Tryz.prog 86 #[.pointer (some ⟨b,o,none⟩),.pointer (some ⟨bx,0,none⟩)] w (jk w B g v bs gc (iM r)):=by
 have y0:=cl (kx.cell 0);go_enter Tryz.func86,Tryz.ntmps86;go_wp2_with fail;refine(afX r h w B g v bs gc b o hc hr ok cp i pl hlen).mono ?_;rintro e w1 ⟨rfl,v1,hc1,hf1⟩;go_wp2
 go_end0
 exact⟨rfl,v1,hc1,hf1⟩
theorem afZ (l:List Rc) (A:Option Addr) (n c:Nat) (w:World) (B g:Nat) (v:Value) (bs:List UInt8) (gc bx:Nat) (p:Addr) (hpl:∀r∈l,jo r) (kx:aj w bx 84 #[.pointer (some ⟨gc,0,none⟩)]) (ax:dA w g v bx) (hc:CW w B g v bs gc) (hp:dA w g v p.block) (hA:w.cell? p=some (.slice A n c)) (hcm:n<=maxLen)
 (hS:Sl eX 29 w B A n l) (hlen:bs.length+(aH iM l).length+10<=1000000000000):
 Calls Tryz.prog 85 #[.pointer (some ⟨gc,0,none⟩),.pointer (some p),.func (.func 86) #[] #[.pointer (some ⟨bx,0,none⟩)]] w (jk w B g v bs gc (aH iM l)):=by
 unfold maxLen at hcm;have hln:l.length=n:=hS.1;have hle:l.length<=n:=byOmega;have hge:n<=l.length:=byOmega;have HL:=au hlen;have HP:=au hpl;clear hpl;have HN:=au hln;have hlt0:(aH iM l).length=(encI (n:Int)).length+(l.flatMap iM).length:=by unfold aH;rw[aK,hln]
 have HT:=au hlt0;have h0:bs.length+10<=1000000000000:=byOmega;have hn0:(0:Int)<=(n:Int):=byOmega;clear hlen hln hlt0;have c0:=hc.blk.cell 0;simp only[List.getElem?_toArray,getZero]at c0;go_enter Tryz.func85,Tryz.ntmps85;go_wp2_with fail;refine(rH g n v bs B w hc.wr hc.hB byOmega byOmega h0).mono ?_;rintro e w1 ⟨rfl,v1,hw1,hf1⟩;have hc1:=hc.step hw1 hf1;have hp1:=hf1.bQ hp;have kx1:aj w1 bx 84 _:=(hf1.heap ax).trans kx;have ax1:=hf1.bQ ax;have hS1:=hS.below eX.kept (hc.lo hf1);have hA1:w1.cell? p=some (.slice A n c):=(World.cell?_of_block (w:=w) (w':=w1) (hf1.heap hp)).trans hA;clear hc hp hS hA c0 h0 hw1 kx ax;have c0:=cl (hc1.blk.cell 0);go_wp2_with fail
 go_loopw [39] (fun i wr=>∃(k:Nat) (v2:Value),k<=n/\i=.int .i64 (k:Int)/\CW wr B g v2 (bs++(encI (n:Int)++(l.take k).flatMap iM)) gc/\dh w1 wr g v1 v2) (fun i _=>n-(intOf i).toNat)
 case atStart=>exact⟨0,v1,byOmega,rfl,by simpa using hc1,dh.refl _ _ _⟩
 case round=>
  obtain⟨k,v2,hk,rfl,hc2,hf2⟩:=hrel;have hp2:=hf2.bQ hp1;have hA2:wr.cell? p=some (.slice A n c):=(World.cell?_of_block (w:=w1) (w':=wr) (hf2.heap hp1)).trans hA1;have d0:=cl (hc2.blk.cell 0);by_cases hlt:k<n
  · have hS2:=hS1.below eX.kept (hc1.lo hf2);have kx2:aj wr bx 84 _:=(hf2.heap ax1).trans kx1;obtain⟨ad,a,h9,b,o,rfl,ha,hq,hb,hrg,ok,cp,lo⟩:=hS2.GN hlt;have pl:=HP.out a (List.mem_of_getElem? ha);have hd1:decide ((k:Int)<(n:Int))=true:=ay;have hk0:(0:Int)<=(k:Int):=byOmega;have hk1:(k:Int)<(n:Int):=byOmega;have HX:=au (xQ iM ha);have hfl:=xR iM l (k+1);have jL:((l.take k).flatMap iM).length+(iM a).length<=(l.flatMap iM).length:=(by rw[HX.out,aK]at hfl;exact hfl);have HK:=au jL;clear hfl jL ha hb;go_wp2_with fail;refine(afY a h9 wr B g v2 _ gc bx b o hc2 kx2 hrg ok cp lo pl (by have h1:=HL.out;rw[HT.out]at h1;have h2:=HK.out;simp only[aK];omega)).mono ?_;rintro e w3 ⟨rfl,v3,hc3,hf3⟩;go_wp2_with fail;go_roundw
    case rel=>
        refine⟨k+1,v3,byOmega,by go_num,?_,hf2.trans hf3⟩;rw[HX.out];simpa only[List.append_assoc] using hc3
    case measure=>simp[intOf];omega
  · have hd1:decide ((k:Int)<(n:Int))=false:=ay;go_wp2_with fail
    go_end0
    refine⟨rfl,v2,?_,hf1.trans hf2⟩;unfold aH;rw[HN.out,<-xU iM (k:=k) byOmega];exact hc2
set_option maxHeartbeats 32000000
structure WM (w0:World) (v0:Value) (T:List UInt8) (k:Int) (q:Option Nat) (w:World) (B g:Nat) (v:Value) (bs:List UInt8) (gc bx gr:Nat) (m:Mg) (h:Hm) (suf:List UInt8):Prop where
 s:WS w B g v bs gc bx gr m h
 f:dh w0 w g v0 v
 q:∀b,q=some b->aj w b 88 #[.pointer (some ⟨gr,0,none⟩)]/\dA w g v b
 k:m.k=k
 e:bs++suf=T
 n:T.length+10<=1000000000000
def Ov (w0:World) (v0:Value) (T:List UInt8) (k:Int) (q:Option Nat) (B g gc bx gr:Nat) (m:Mg) (h:Hm) (suf:List UInt8):Ending->World->Prop:=fun e w=>
 e=.returned (.tuple #[])/\∃v bs,WM w0 v0 T k q w B g v bs gc bx gr m h suf/\w.cell? ⟨bx,0,none⟩=some (.pointer (some ⟨gc,0,none⟩))/\w.cell? ⟨gr,0,none⟩=some (.int .i64 k)
section
variable {w0 w:World} {v0 v:Value} {T bs more suf:List UInt8} {k:Int} {q:Option Nat} {B g gc bx gr:Nat} {m:Mg} {h:Hm}
theorem WM.y (X:WM w0 v0 T k q w B g v bs gc bx gr m h suf):w.cell? ⟨bx,0,none⟩=some (.pointer (some ⟨gc,0,none⟩)):=X.s.kx.cell 0
theorem WM.z (X:WM w0 v0 T k q w B g v bs gc bx gr m h suf):w.cell? ⟨gr,0,none⟩=some (.int .i64 k):=by rw[<-X.k];exact X.s.km.cell 0
theorem WM.drew (X:WM w0 v0 T k q w B g v bs gc bx gr m h suf):WM w0 v0 T k q w.drew B g v bs gc bx gr m h suf:=by
 have D:Below w.heap.size w w.drew:=(aC).drew;exact⟨X.s.below D,X.f.trans (dh.eU g v D),fun b e=>⟨(X.q b e).1,(X.q b e).2⟩,X.k,X.e,X.n⟩
theorem WM.go {F:Nat} {vs:Array Value} (X:WM w0 v0 T k q w B g v bs gc bx gr m h (more++suf)) (H:bs.length+more.length+10<=1000000000000->Calls Tryz.prog F vs w (jk w B g v bs gc more)):
 Calls Tryz.prog F vs w (Ov w0 v0 T k q B g gc bx gr m h suf):=by
 have n:=X.n;rw[<-X.e]at n;simp only[aK]at n;refine(H byOmega).mono ?_;rintro e w1 ⟨rfl,v1,hc,hf⟩;have Y:WM w0 v0 T k q w1 B g v1 (bs++more) gc bx gr m h suf:=⟨X.s.step hc hf,X.f.trans hf,fun b e=>⟨(hf.heap (X.q b e).2).trans (X.q b e).1,hf.bQ (X.q b e).2⟩,X.k,by rw[List.append_assoc];exact X.e,X.n⟩;exact⟨rfl,v1,_,Y,Y.y,Y.z⟩
theorem WM.int {n:Int} (X:WM w0 v0 T k q w B g v bs gc bx gr m h (encI n++suf)) (o:Nat) (ok:bG n) (e:((m.vals h).toList.drop o).take 1=[.int .i64 n]:=by rfl):
 Calls Tryz.prog 81 #[.pointer (some ⟨gc,0,none⟩),.pointer (some ⟨gr,o,none⟩)] w (Ov w0 v0 T k q B g gc bx gr m h suf):=
 X.go fun hl=>kG n _ B g v bs gc ⟨gr,o,none⟩ _ X.s.c X.s.am rfl (X.s.km.at_ o [.int .i64 n] e) ⟨rfl,ok⟩ hl
theorem WM.sp {a:Sp} (X:WM w0 v0 T k q w B g v bs gc bx gr m h (aU a++suf)) (o:Nat) (ok:a.ok) (e:((m.vals h).toList.drop o).take 3=[.int .i64 a.w,.int .i64 a.l,.int .i64 a.n]:=by rfl):
 Calls Tryz.prog 84 #[.pointer (some ⟨gc,0,none⟩),.pointer (some ⟨gr,o,none⟩)] w (Ov w0 v0 T k q B g gc bx gr m h suf):=
 X.go fun hl=>uP a _ B g v bs gc ⟨gr,o,none⟩ _ X.s.c X.s.am rfl (X.s.km.at_ o [.int .i64 a.w,.int .i64 a.l,.int .i64 a.n] e) ⟨rfl,ok⟩ hl
theorem WM.fin {b0:List UInt8} (X:WM w0 v0 T k q w B g v bs gc bx gr m h []) (e:T=b0++more):jk w0 B g v0 b0 gc more (.returned (.tuple #[])) w:=
 ⟨rfl,v,by rw[<-e,<-X.e,List.append_nil];exact X.s.c,X.f⟩
theorem WM.start {L:List UInt8} (hc:CW w B g v bs gc) (hp:dA w g v gr) (hb:aj w gr 41 (m.vals h)) (lo:bH w B m h) (hk:m.k=k) (hl:bs.length+L.length+10<=1000000000000) (e:T=bs++L):
 WM w v T k none (w.alloc (.cells #[.pointer (some ⟨gc,0,none⟩)] 84)) B g v bs gc w.heap.size gr m h L:=
 ⟨WS.start hc hp hb lo,dh.eU g v aJ,fun b e=>(by cases e),hk,e.symm,by rw[e,aK];exact hl⟩
theorem WM.box (X:WM w0 v0 T k none w B g v bs gc bx gr m h suf):
 WM w0 v0 T k (some w.heap.size) (w.alloc (.cells #[.pointer (some ⟨gr,0,none⟩)] 88)) B g v bs gc bx gr m h suf:=by
 have hX:Below w.heap.size w (w.alloc (.cells #[.pointer (some ⟨gr,0,none⟩)] 88)):=aJ;refine⟨X.s.below hX,X.f.trans (dh.eU g v hX),fun b e=>?_,X.k,X.e,X.n⟩;cases e;exact⟨aj.new _ _ _,⟨aA,by have:=X.s.c.wr.lt;omega,fun e=>by have:=X.s.c.wr.yU _ e.symm;omega⟩⟩
end
theorem VJ (m:Mg) (h:Hm) (w:World) (B g:Nat) (v:Value) (bs:List UInt8) (gc bx bm gr:Nat) (S:WS w B g v bs gc bx gr m h) (kb:aj w bm 88 #[.pointer (some ⟨gr,0,none⟩)]) (ab:dA w g v bm) (ok:bG m.cd) (hlen:bs.length+(encI m.cd).length+10<=1000000000000):
 Calls Tryz.prog 130 #[.pointer (some ⟨bm,0,none⟩),.pointer (some ⟨bx,0,none⟩)] w (jk w B g v bs gc (encI m.cd)):=by
 have x0:=cl (kb.cell 0);have y0:=cl (S.kx.cell 0);have z0:=cl (S.km.cell 8);have hX:Below w.heap.size w (w.alloc (.cells #[.int .i64 m.cd] 3)):=aJ;have S1:=S.below hX;have bN:aj (w.alloc (.cells #[.int .i64 m.cd] 3)) w.heap.size 3 #[.int .i64 m.cd]:=aj.new _ _ _;have aN:dA (w.alloc (.cells #[.int .i64 m.cd] 3)) g v w.heap.size:=⟨aA,by have:=S.c.wr.lt;omega,fun e=>by have:=S.c.wr.yU _ e.symm;omega⟩;have F1:=dh.eU g v hX;have kb1:aj (w.alloc (.cells #[.int .i64 m.cd] 3)) bm 88 #[.pointer (some ⟨gr,0,none⟩)]:=kb.below hX kb.lt;have ab1:dA (w.alloc (.cells #[.int .i64 m.cd] 3)) g v bm:=⟨Nat.lt_of_lt_of_le ab.1 hX.size,ab.2⟩;have y1:=cl (S1.kx.cell 0);clear S kb ab hX;go_enter Tryz.func130,Tryz.ntmps130;go_wp2_with fail;refine(kG m.cd _ B g v bs gc ⟨w.heap.size,0,none⟩ _ S1.c aN rfl (bN.at_ 0 [.int .i64 m.cd]) ⟨rfl,ok⟩ hlen).mono ?_;rintro e w2 ⟨rfl,v2,hc2,hf2⟩;have S2:=S1.step hc2 hf2;have x2:w2.cell? ⟨bm,0,none⟩=some (.pointer (some ⟨gr,0,none⟩)):=(show aj w2 bm 88 _ from (hf2.heap ab1).trans kb1).cell 0;have n2:w2.cell? ⟨w.heap.size,0,none⟩=some (.int .i64 m.cd):=(show aj w2 w.heap.size 3 _ from (hf2.heap aN).trans bN).cell 0;have z2:=cl (S2.km.cell 8);have f2:=S2.km.frozen 8;have hs:=DZ (i:=8) S2.km (show (m.vals h)[8]?=some (.int .i64 m.cd) from rfl);have HS:=au hs;clear hs;go_wp2
 go_end0
 rw[HS.out];exact⟨rfl,v2,S2.c,F1.trans hf2⟩
def jg (m:Mg):List UInt8:=
 if m.k=1 then encI m.ep++(aU m.s++(aH bn m.ks)) else
 if m.k=2 then encI m.cd++(aU m.s++(aH iL m.sn++(aH dU m.rs))) else
 if m.k=3 then encI m.ep++(aU m.s++(aH iL m.sn++(aH bP m.ws++(aH encI m.ps)))) else
 if m.k=4 then encI m.cd++(aU m.s++(aH dU m.rs)) else
 if m.k=5 then qF m.cm++(aU m.s) else
 []
theorem ED {k:Int} (h:1<=k/\k<=7):k=1∨k=2∨k=3∨k=4∨k=5∨k=6∨k=7:=byOmega
theorem af0 (m:Mg) (h:Hm) (w:World) (B g:Nat) (v:Value) (bs:List UInt8) (gc gr:Nat) (hk:1<=m.k/\m.k<=7) (hc:CW w B g v bs gc) (hp:dA w g v gr) (hb:aj w gr 41 (m.vals h)) (ok:m.ok) (i:bH w B m h) (cp:h.caps)
 (hlen:bs.length+(jg m).length+10<=1000000000000):
 Calls Tryz.prog 83 #[.pointer (some ⟨gc,0,none⟩),.pointer (some ⟨gr,0,none⟩)] w (jk w B g v bs gc (jg m)):=by
 have hmf:∀(fn:Fn) (first cap:Array Value) (w:World),(Instr.makeFunc fn first cap).run Tryz.prog w=.ok (.func fn first cap) w:=fun _ _ _ _=>rfl
 obtain⟨T,hT⟩:∃T,T=bs++jg m:=⟨_,rfl⟩;rcases ED hk with e|e|e|e|e|e|e
 all_goals
  have X:=(WM.start hc hp hb i e hlen hT).box;have HT:=au hT;replace e:=au e;clear hc hp hb i hlen hk hT;go_enter Tryz.func83,Tryz.ntmps83;go_upto_region 1 with fail;generalize ((w.alloc (.cells #[.pointer (some ⟨gc,0,none⟩)] 84)).alloc (.cells #[.pointer (some ⟨gr,0,none⟩)] 88))=w0 at*;have hbm:(w.alloc (.cells #[.pointer (some ⟨gc,0,none⟩)] 84)).heap.size=w.heap.size+1:=aA;rw[hbm]at X;clear hbm;generalize w.heap.size+1=bm at*;generalize w.heap.size=bx at*;have y:=X.y;have z:=X.z
 · rw[show jg m=encI m.ep++(aU m.s++(aH bn m.ks++([]))) from by unfold jg;simp[e.out]]at X;clear e;have x:=(X.q _ rfl).1.cell 0;go_wp2_with fail;go_still_tail 4,ah;replace X:=X.drew;go_wp2_with fail;refine(have Y:=X;Y.int 7 ok.ep).mono ?_;clear X y z x;rintro e w1 ⟨rfl,v1,b1,X,y,z⟩;have x:=(X.q _ rfl).1.cell 0;go_wp2_with fail;go_still_tail 4,ah;replace X:=X.drew;go_wp2_with fail;refine(have Y:=X;Y.sp 9 ok.s).mono ?_;clear X y z x;rintro e w1 ⟨rfl,v1,b1,X,y,z⟩;have x:=(X.q _ rfl).1.cell 0;go_wp2_with fail;go_still_tail 6,ah;replace X:=X.drew;go_wp2_with fail;refine(have Y:=X;Y.go fun hl=>RX m.ks h.a.A h.a.n h.a.c _ B g _ _ gc ⟨gr,18,none⟩ Y.s.c Y.s.am (Y.s.km.cell 18) (Nat.le_trans cp.a.1 cp.a.2) Y.s.lo.ks hl).mono ?_;clear X y z x;rintro e w1 ⟨rfl,v1,b1,X,y,z⟩;have x:=(X.q _ rfl).1.cell 0;go_wp2
   go_end0
   exact X.fin HT.out
 · rw[show jg m=encI m.cd++(aU m.s++(aH iL m.sn++(aH dU m.rs++([])))) from by unfold jg;simp[e.out]]at X;clear e;have x:=(X.q _ rfl).1.cell 0;go_wp2_with fail;refine(have Y:=X;Y.go fun hl=>VJ m h _ B g _ _ gc bx bm gr Y.s (Y.q _ rfl).1 (Y.q _ rfl).2 ok.cd hl).mono ?_;clear X y z x;rintro e w1 ⟨rfl,v1,b1,X,y,z⟩;have x:=(X.q _ rfl).1.cell 0;go_wp2_with fail;go_still_tail 4,ah;replace X:=X.drew;go_wp2_with fail;refine(have Y:=X;Y.sp 9 ok.s).mono ?_;clear X y z x;rintro e w1 ⟨rfl,v1,b1,X,y,z⟩;have x:=(X.q _ rfl).1.cell 0;go_wp2_with fail;go_still_tail 6,ah;replace X:=X.drew;go_wp2_with fail;refine(have Y:=X;Y.go fun hl=>VH m.sn h.b.A h.b.n h.b.c _ B g _ _ gc ⟨gr,19,none⟩ Y.s.c Y.s.am (Y.s.km.cell 19) (Nat.le_trans cp.b.1 cp.b.2) Y.s.lo.sn hl).mono ?_;clear X y z x;rintro e w1 ⟨rfl,v1,b1,X,y,z⟩;have x:=(X.q _ rfl).1.cell 0;go_wp2_with fail;go_still_tail 6,ah;replace X:=X.drew;go_wp2_with fail;refine(have Y:=X;Y.go fun hl=>VI m.rs h.e.A h.e.n h.e.c _ B g _ _ gc ⟨gr,22,none⟩ Y.s.c Y.s.am (Y.s.km.cell 22) (Nat.le_trans cp.e.1 cp.e.2) Y.s.lo.rs hl).mono ?_;clear X y z x;rintro e w1 ⟨rfl,v1,b1,X,y,z⟩;have x:=(X.q _ rfl).1.cell 0;go_wp2
   go_end0
   exact X.fin HT.out
 · rw[show jg m=encI m.ep++(aU m.s++(aH iL m.sn++(aH bP m.ws++(aH encI m.ps++([]))))) from by unfold jg;simp[e.out]]at X;clear e;have x:=(X.q _ rfl).1.cell 0;go_wp2_with fail;go_still_tail 4,ah;replace X:=X.drew;go_wp2_with fail;refine(have Y:=X;Y.int 7 ok.ep).mono ?_;clear X y z x;rintro e w1 ⟨rfl,v1,b1,X,y,z⟩;have x:=(X.q _ rfl).1.cell 0;go_wp2_with fail;go_still_tail 4,ah;replace X:=X.drew;go_wp2_with fail;refine(have Y:=X;Y.sp 9 ok.s).mono ?_;clear X y z x;rintro e w1 ⟨rfl,v1,b1,X,y,z⟩;have x:=(X.q _ rfl).1.cell 0;go_wp2_with fail;go_still_tail 6,ah;replace X:=X.drew;go_wp2_with fail;refine(have Y:=X;Y.go fun hl=>VH m.sn h.b.A h.b.n h.b.c _ B g _ _ gc ⟨gr,19,none⟩ Y.s.c Y.s.am (Y.s.km.cell 19) (Nat.le_trans cp.b.1 cp.b.2) Y.s.lo.sn hl).mono ?_;clear X y z x;rintro e w1 ⟨rfl,v1,b1,X,y,z⟩;have x:=(X.q _ rfl).1.cell 0;go_wp2_with fail;go_still_tail 6,ah;replace X:=X.drew;go_wp2_with fail;refine(have Y:=X;Y.go fun hl=>IG m.ws h.c.A h.c.n h.c.c _ B g _ _ gc ⟨gr,20,none⟩ Y.s.c Y.s.am (Y.s.km.cell 20) (Nat.le_trans cp.c.1 cp.c.2) Y.s.lo.ws hl).mono ?_;clear X y z x;rintro e w1 ⟨rfl,v1,b1,X,y,z⟩;have x:=(X.q _ rfl).1.cell 0;go_wp2_with fail;go_still_tail 6,ah;replace X:=X.drew;go_wp2_with fail;refine(have Y:=X;Y.go fun hl=>MK m.ps h.d.A h.d.n h.d.c _ B g _ _ gc ⟨gr,21,none⟩ Y.s.c Y.s.am (Y.s.km.cell 21) (Nat.le_trans cp.d.1 cp.d.2) Y.s.lo.ps hl).mono ?_;clear X y z x;rintro e w1 ⟨rfl,v1,b1,X,y,z⟩;have x:=(X.q _ rfl).1.cell 0;go_wp2
   go_end0
   exact X.fin HT.out
 · rw[show jg m=encI m.cd++(aU m.s++(aH dU m.rs++([]))) from by unfold jg;simp[e.out]]at X;clear e;have x:=(X.q _ rfl).1.cell 0;go_wp2_with fail;refine(have Y:=X;Y.go fun hl=>VJ m h _ B g _ _ gc bx bm gr Y.s (Y.q _ rfl).1 (Y.q _ rfl).2 ok.cd hl).mono ?_;clear X y z x;rintro e w1 ⟨rfl,v1,b1,X,y,z⟩;have x:=(X.q _ rfl).1.cell 0;go_wp2_with fail;go_still_tail 4,ah;replace X:=X.drew;go_wp2_with fail;refine(have Y:=X;Y.sp 9 ok.s).mono ?_;clear X y z x;rintro e w1 ⟨rfl,v1,b1,X,y,z⟩;have x:=(X.q _ rfl).1.cell 0;go_wp2_with fail;go_still_tail 6,ah;replace X:=X.drew;go_wp2_with fail;refine(have Y:=X;Y.go fun hl=>VI m.rs h.e.A h.e.n h.e.c _ B g _ _ gc ⟨gr,22,none⟩ Y.s.c Y.s.am (Y.s.km.cell 22) (Nat.le_trans cp.e.1 cp.e.2) Y.s.lo.rs hl).mono ?_;clear X y z x;rintro e w1 ⟨rfl,v1,b1,X,y,z⟩;have x:=(X.q _ rfl).1.cell 0;go_wp2
   go_end0
   exact X.fin HT.out
 · rw[show jg m=qF m.cm++(aU m.s++([])) from by unfold jg;simp[e.out]]at X;clear e;have x:=(X.q _ rfl).1.cell 0;go_wp2_with fail;go_still_tail 4,ah;replace X:=X.drew;go_wp2_with fail;refine(have Y:=X;Y.go fun hl=>Q8 m.cm _ B g _ _ gc ⟨gr,15,none⟩ _ Y.s.c Y.s.am rfl (Y.s.km.at_ 15 [.bool m.cm]) ⟨rfl,trivial⟩ hl).mono ?_;clear X y z x;rintro e w1 ⟨rfl,v1,b1,X,y,z⟩;have x:=(X.q _ rfl).1.cell 0;go_wp2_with fail;go_still_tail 4,ah;replace X:=X.drew;go_wp2_with fail;refine(have Y:=X;Y.sp 9 ok.s).mono ?_;clear X y z x;rintro e w1 ⟨rfl,v1,b1,X,y,z⟩;have x:=(X.q _ rfl).1.cell 0;go_wp2
   go_end0
   exact X.fin HT.out
 · rw[show jg m=[] from by unfold jg;simp[e.out]]at X;clear e;have x:=(X.q _ rfl).1.cell 0;go_wp2
   go_end0
   exact X.fin HT.out
 · rw[show jg m=[] from by unfold jg;simp[e.out]]at X;clear e;have x:=(X.q _ rfl).1.cell 0;go_wp2
   go_end0
   exact X.fin HT.out
def iZ (m:Mg):List UInt8:=
 if 1<=m.k/\m.k<=7 then eP m.t++(encI m.rg++(jg m)) else
 if m.k=8 then encI m.rg++(encI m.n++(encI m.mx++(aU m.s))) else
 if m.k=9 then encI m.rg++(encI m.n++(aH iM m.rc)) else
 if m.k=10 then encI m.rg++(oC m.st) else
 if m.k=11 then encI m.rg else
 if m.k=12 then aU m.pv++(aU m.s++(eP m.t++(aH bP m.ws))) else
 if m.k=14 then aU m.s else
 []
def bT (m:Mg):List UInt8:=encI m.k++(encI m.fr++(encI m.aG++iZ m))
theorem af2 (m:Mg) (h:Hm) (w:World) (B g:Nat) (v:Value) (bs:List UInt8) (gc gr:Nat) (hk:iK m.k=true) (hc:CW w B g v bs gc) (hp:dA w g v gr) (hb:aj w gr 41 (m.vals h)) (ok:m.ok) (i:bH w B m h) (cp:h.caps) (pl:∀r∈m.rc,jo r)
 (hlen:bs.length+(bT m).length+10<=1000000000000):
 Calls Tryz.prog 42 #[.pointer (some ⟨gc,0,none⟩),.pointer (some ⟨gr,0,none⟩)] w (jk w B g v bs gc (bT m)):=by
 have hk2:(1<=m.k/\m.k<=7)∨m.k=8∨m.k=9∨m.k=10∨m.k=11∨m.k=12∨m.k=13∨m.k=14:=by
  unfold iK at hk;rw[decide_eq_true_eq]at hk;omega
 obtain⟨T,hT⟩:∃T,T=bs++bT m:=⟨_,rfl⟩;have X:=WM.start hc hp hb i rfl hlen hT;have HT:=au hT;replace pl:=au pl;have hk3:=au hk2;clear hc hp hb i hlen hk hk2 hT;go_enter Tryz.func42,Tryz.ntmps42;go_upto_region 1 with fail;generalize (w.alloc (.cells #[.pointer (some ⟨gc,0,none⟩)] 84))=w0 at*;generalize w.heap.size=bx at*;have y:=X.y;have z:=X.z;unfold bT at X;go_still_tail 4,ah;replace X:=X.drew;go_wp2_with fail;refine(have Y:=X;Y.int 0 ok.k).mono ?_;clear X y z;rintro e w1 ⟨rfl,v1,b1,X,y,z⟩;go_wp2_with fail;go_still_tail 4,ah;replace X:=X.drew;go_wp2_with fail;refine(have Y:=X;Y.int 1 ok.fr).mono ?_;clear X y z;rintro e w1 ⟨rfl,v1,b1,X,y,z⟩;go_wp2_with fail;go_still_tail 4,ah;replace X:=X.drew;go_wp2_with fail;refine(have Y:=X;Y.int 2 ok.aG).mono ?_;clear X y z;rintro e w1 ⟨rfl,v1,b1,X,y,z⟩;have hk4:=hk3.out;clear z hk3;rcases hk4 with hr|e|e|e|e|e|e|e
 · rw[show iZ m=eP m.t++(encI m.rg++(jg m++([]))) from by unfold iZ;simp[hr]]at X;replace hr:=au hr;rcases ED hr.out with e|e|e|e|e|e|e
   all_goals
    replace X:WM _ _ _ _ _ _ _ _ _ _ _ _ _ _ _ _:=⟨X.s,X.f,X.q,e,X.e,X.n⟩;clear e;have z:=X.z;go_wp2_with fail;go_still_tail 4,ah;replace X:=X.drew;go_wp2_with fail;refine(have Y:=X;Y.go fun hl=>Bz m.t _ B g _ _ gc ⟨gr,3,none⟩ _ Y.s.c Y.s.am rfl (Y.s.km.at_ 3 [.int .i64 m.t.c,.int .i64 m.t.l,.int .i64 m.t.s]) ⟨rfl,ok.t⟩ hl).mono ?_;clear X y z;rintro e w1 ⟨rfl,v1,b1,X,y,z⟩;go_wp2_with fail;go_still_tail 4,ah;replace X:=X.drew;go_wp2_with fail;refine(have Y:=X;Y.int 6 ok.rg).mono ?_;clear X y z;rintro e w1 ⟨rfl,v1,b1,X,y,z⟩;go_wp2_with fail;refine(have Y:=X;Y.go fun hl=>af0 m h _ B g _ _ gc gr hr.out Y.s.c Y.s.am Y.s.km ok Y.s.lo cp hl).mono ?_;clear X y z;rintro e w1 ⟨rfl,v1,b1,X,y,z⟩;go_wp2
    go_end0
    exact X.fin HT.out
 · rw[show iZ m=encI m.rg++(encI m.n++(encI m.mx++(aU m.s++([])))) from by unfold iZ;simp[e]]at X;replace X:WM _ _ _ 8 _ _ _ _ _ _ _ _ _ _ _ _:=⟨X.s,X.f,X.q,e,X.e,X.n⟩;clear e;have z:=X.z;go_wp2_with fail;go_still_tail 4,ah;replace X:=X.drew;go_wp2_with fail;refine(have Y:=X;Y.int 6 ok.rg).mono ?_;clear X y z;rintro e w1 ⟨rfl,v1,b1,X,y,z⟩;go_wp2_with fail;go_still_tail 4,ah;replace X:=X.drew;go_wp2_with fail;refine(have Y:=X;Y.int 16 ok.n).mono ?_;clear X y z;rintro e w1 ⟨rfl,v1,b1,X,y,z⟩;go_wp2_with fail;go_still_tail 4,ah;replace X:=X.drew;go_wp2_with fail;refine(have Y:=X;Y.int 17 ok.mx).mono ?_;clear X y z;rintro e w1 ⟨rfl,v1,b1,X,y,z⟩;go_wp2_with fail;go_still_tail 4,ah;replace X:=X.drew;go_wp2_with fail;refine(have Y:=X;Y.sp 9 ok.s).mono ?_;clear X y z;rintro e w1 ⟨rfl,v1,b1,X,y,z⟩;go_wp2
   go_end0
   exact X.fin HT.out
 · rw[show iZ m=encI m.rg++(encI m.n++(aH iM m.rc++([]))) from by unfold iZ;simp[e]]at X;replace X:WM _ _ _ 9 _ _ _ _ _ _ _ _ _ _ _ _:=⟨X.s,X.f,X.q,e,X.e,X.n⟩;clear e;have z:=X.z;go_wp2_with fail;go_still_tail 4,ah;replace X:=X.drew;go_wp2_with fail;refine(have Y:=X;Y.int 6 ok.rg).mono ?_;clear X y z;rintro e w1 ⟨rfl,v1,b1,X,y,z⟩;go_wp2_with fail;go_still_tail 4,ah;replace X:=X.drew;go_wp2_with fail;refine(have Y:=X;Y.int 16 ok.n).mono ?_;clear X y z;rintro e w1 ⟨rfl,v1,b1,X,y,z⟩;go_wp2_with fail;go_still_tail 5,ah;replace X:=X.drew;go_wp2_with fail;refine(have Y:=X;Y.go fun hl=>afZ m.rc h.f.A h.f.n h.f.c _ B g _ _ gc bx ⟨gr,23,none⟩ pl.out Y.s.kx Y.s.ax Y.s.c Y.s.am (Y.s.km.cell 23) (Nat.le_trans cp.f.1 cp.f.2) Y.s.lo.rc hl).mono ?_;clear X y z;rintro e w1 ⟨rfl,v1,b1,X,y,z⟩;go_wp2
   go_end0
   exact X.fin HT.out
 · rw[show iZ m=encI m.rg++(oC m.st++([])) from by unfold iZ;simp[e]]at X;replace X:WM _ _ _ 10 _ _ _ _ _ _ _ _ _ _ _ _:=⟨X.s,X.f,X.q,e,X.e,X.n⟩;clear e;have z:=X.z;go_wp2_with fail;go_still_tail 4,ah;replace X:=X.drew;go_wp2_with fail;refine(have Y:=X;Y.int 6 ok.rg).mono ?_;clear X y z;rintro e w1 ⟨rfl,v1,b1,X,y,z⟩;go_wp2_with fail;go_still_tail 4,ah;replace X:=X.drew;go_wp2_with fail;refine(have Y:=X;Y.go fun hl=>Si m.st _ B g _ _ gc ⟨gr,24,none⟩ _ Y.s.c Y.s.am rfl (Y.s.km.at_ 24 (m.st.arr (.slice h.g.A h.g.n h.g.c) (.slice h.i.A h.i.n h.i.c)).toList) ⟨_,_,rfl,ok.sr,ok.sf,ok.sc,⟨h.g.A,h.g.n,h.g.c,rfl,cp.g.1,cp.g.2,Y.s.lo.hs⟩,h.i.A,h.i.n,h.i.c,rfl,cp.i.1,cp.i.2,Y.s.lo.pn⟩ hl).mono ?_;clear X y z;rintro e w1 ⟨rfl,v1,b1,X,y,z⟩;go_wp2
   go_end0
   exact X.fin HT.out
 · rw[show iZ m=encI m.rg++([]) from by unfold iZ;simp[e]]at X;replace X:WM _ _ _ 11 _ _ _ _ _ _ _ _ _ _ _ _:=⟨X.s,X.f,X.q,e,X.e,X.n⟩;clear e;have z:=X.z;go_wp2_with fail;go_still_tail 4,ah;replace X:=X.drew;go_wp2_with fail;refine(have Y:=X;Y.int 6 ok.rg).mono ?_;clear X y z;rintro e w1 ⟨rfl,v1,b1,X,y,z⟩;go_wp2
   go_end0
   exact X.fin HT.out
 · rw[show iZ m=aU m.pv++(aU m.s++(eP m.t++(aH bP m.ws++([])))) from by unfold iZ;simp[e]]at X;replace X:WM _ _ _ 12 _ _ _ _ _ _ _ _ _ _ _ _:=⟨X.s,X.f,X.q,e,X.e,X.n⟩;clear e;have z:=X.z;go_wp2_with fail;go_still_tail 4,ah;replace X:=X.drew;go_wp2_with fail;refine(have Y:=X;Y.sp 12 ok.pv).mono ?_;clear X y z;rintro e w1 ⟨rfl,v1,b1,X,y,z⟩;go_wp2_with fail;go_still_tail 4,ah;replace X:=X.drew;go_wp2_with fail;refine(have Y:=X;Y.sp 9 ok.s).mono ?_;clear X y z;rintro e w1 ⟨rfl,v1,b1,X,y,z⟩;go_wp2_with fail;go_still_tail 4,ah;replace X:=X.drew;go_wp2_with fail;refine(have Y:=X;Y.go fun hl=>Bz m.t _ B g _ _ gc ⟨gr,3,none⟩ _ Y.s.c Y.s.am rfl (Y.s.km.at_ 3 [.int .i64 m.t.c,.int .i64 m.t.l,.int .i64 m.t.s]) ⟨rfl,ok.t⟩ hl).mono ?_;clear X y z;rintro e w1 ⟨rfl,v1,b1,X,y,z⟩;go_wp2_with fail;go_still_tail 6,ah;replace X:=X.drew;go_wp2_with fail;refine(have Y:=X;Y.go fun hl=>IG m.ws h.c.A h.c.n h.c.c _ B g _ _ gc ⟨gr,20,none⟩ Y.s.c Y.s.am (Y.s.km.cell 20) (Nat.le_trans cp.c.1 cp.c.2) Y.s.lo.ws hl).mono ?_;clear X y z;rintro e w1 ⟨rfl,v1,b1,X,y,z⟩;go_wp2
   go_end0
   exact X.fin HT.out
 · rw[show iZ m=[] from by unfold iZ;simp[e]]at X;replace X:WM _ _ _ 13 _ _ _ _ _ _ _ _ _ _ _ _:=⟨X.s,X.f,X.q,e,X.e,X.n⟩;clear e;have z:=X.z;go_wp2
   go_end0
   exact X.fin HT.out
 · rw[show iZ m=aU m.s++([]) from by unfold iZ;simp[e]]at X;replace X:WM _ _ _ 14 _ _ _ _ _ _ _ _ _ _ _ _:=⟨X.s,X.f,X.q,e,X.e,X.n⟩;clear e;have z:=X.z;go_wp2_with fail;go_still_tail 4,ah;replace X:=X.drew;go_wp2_with fail;refine(have Y:=X;Y.sp 9 ok.s).mono ?_;clear X y z;rintro e w1 ⟨rfl,v1,b1,X,y,z⟩;go_wp2
   go_end0
   exact X.fin HT.out
theorem VK (m:Mg) (h:Hm) (w:World) (ok:m.ok) (i:bH w w.heap.size m h) (cp:h.caps) (sm:iV m h) (pl:∀r∈m.rc,jo r) (hlen:(bT m).length+10<=1000000000000):
 Calls Tryz.prog 16 #[.agg (m.vals h)] w (sV w (og m (bT m)) (kJ m (bT m))):=
 afV m h w (bT m) ok i sm pl (fun hm w' B g v gc gr hc hp hb lo=>af2 m h w' B g v [] gc gr (by
  cases hq:iK m.k
  · unfold lD at hm;rw[hq]at hm;cases hm
  · rfl) hc hp hb ok lo cp pl (by simpa using hlen)) hlen
