/- The walk of msgs.walk of a coder that writes, kinds 11 and 13. -/
import Derived.Test.YtcalkfgibflbnaaGreatDacf
namespace Go.Proofs.YtcalkfgibflbnaaGreat
set_option maxHeartbeats 8000000
set_option maxRecDepth 100000
set_option linter.unusedVariables false
open Go.RowKit Fl
attribute [local go_sem] run_store_float
theorem Blk.at_ {w:World} {g:Nat} {t:TypeId} {cs:Array Value} (h:Blk w g t cs) (o:Nat) (xs:List Value) (e:(cs.toList.drop o).take xs.length=xs:=by rfl):At w ⟨g,o,none⟩ xs:=fun j u hj=>by
 have e2:(⟨g,o,none⟩:Addr).add j=⟨g,o+j,none⟩:=by unfold Addr.add;split<;>simp_all
 have hlt:=(List.getElem?_eq_some_iff.1 hj).1
 have h3:((cs.toList.drop o).take xs.length)[j]?=some u:=by rw[e];exact hj
 rw[List.getElem?_take_of_lt hlt,List.getElem?_drop,Array.getElem?_toList]at h3
 rw[e2,h.cell,h3]
structure WS (w:World) (B g:Nat) (v:Value) (bs:List UInt8) (gc bx gr:Nat) (m:Mg) (h:Hm):Prop where
 c:CW w B g v bs gc
 kx:Blk w bx 84 #[.pointer (some ⟨gc,0,none⟩)]
 km:Blk w gr 41 (m.vals h)
 ax:Apt w g v bx
 am:Apt w g v gr
 lo:MgLo w B m h
section
variable {w w':World} {B g gc bx gr:Nat} {v v':Value} {bs bs':List UInt8} {m:Mg} {h:Hm}
theorem WS.step (s:WS w B g v bs gc bx gr m h) (hc:CW w' B g v' bs' gc) (hf:Foot w w' g v v'):WS w' B g v' bs' gc bx gr m h:=
 ⟨hc,(hf.heap s.ax).trans s.kx,(hf.heap s.am).trans s.km,hf.apt s.ax,hf.apt s.am,s.lo.below (s.c.lo hf)⟩
theorem WS.below (s:WS w B g v bs gc bx gr m h) (hb:Below w.heap.size w w'):WS w' B g v bs gc bx gr m h:=s.step (s.c.below hb) (Foot.ofBelow g v hb)
theorem WS.start (hc:CW w B g v bs gc) (hp:Apt w g v gr) (hb:Blk w gr 41 (m.vals h)) (lo:MgLo w B m h):WS (w.alloc (.cells #[.pointer (some ⟨gc,0,none⟩)] 84)) B g v bs gc w.heap.size gr m h:=by
 have hX:Below w.heap.size w (w.alloc (.cells #[.pointer (some ⟨gc,0,none⟩)] 84)):=by go_grown
 refine⟨hc.below hX,Blk.new _ _ _,hb.below hX hp.1,⟨by simp,?_,?_⟩,⟨Nat.lt_of_lt_of_le hp.1 hX.size,hp.2⟩,lo.below (hX.mono hc.hB)⟩
 · have:=hc.wr.lt;omega
 · intro e;have:=hc.wr.own_lt _ e.symm;omega
end
def mencE (m:Mg) (bs:List UInt8):Int:=if mayM m=0 then (if 4194304<bs.length then 2 else 0) else mayM m
def mencOut (m:Mg) (bs:List UInt8):List UInt8:=if mencE m bs=0 then bs else []
def WalkM (m:Mg) (h:Hm) (bs:List UInt8):Prop:=∀(w:World) (B g:Nat) (v:Value) (gc gr:Nat),CW w B g v [] gc→Apt w g v gr→Blk w gr 41 (m.vals h)→MgLo w B m h→
    Calls Tryz.prog 42 #[.pointer (some ⟨gc,0,none⟩),.pointer (some ⟨gr,0,none⟩)] w (CPost w B g v [] gc bs)
set_option maxRecDepth 100000 in
set_option maxHeartbeats 4000000 in
theorem mencode_of (m:Mg) (h:Hm) (w:World) (bs:List UInt8) (ok:m.ok) (i:MgLo w w.heap.size m h) (sm:MgSm m h) (pl:∀r∈m.rc,RcPl r) (hwk:mayM m=0→WalkM m h bs) (hlen:bs.length+10≤1000000000000):
 Calls Tryz.prog 16 #[.agg (m.vals h)] w (RowE w (mencOut m bs) (mencE m bs)):=by
 have hM:=fun w' (hb:Below w.heap.size w w')=>mayM_any m h w' ok (i.up hb) sm pl
 have hX:Below w.heap.size w (w.alloc (.cells (m.vals h) 41)):=by go_grown
 have B0:Blk (w.alloc (.cells (m.vals h) 41)) w.heap.size 41 (m.vals h):=Blk.new _ _ _
 by_cases hm:mayM m=0
 · have HE:=Lib.hid (show mencE m bs=if 4194304<bs.length then 2 else 0 by unfold mencE;rw[if_pos hm])
   have HO:=Lib.hid (show mencOut m bs=if 4194304<bs.length then [] else bs by unfold mencOut;rw[HE.out];by_cases hq:4194304<bs.length<;>simp[hq])
   have hwk:=hwk hm
   rw[hm]at hM
   clear hm
   go_enter Tryz.func16,Tryz.ntmps16
   go_wp2_with (first
    |(guard_target=~ wpList _ _ _ _ _ _;refine wpList_load_row rfl 41 _ rfl w.heap.size (by kernel_rfl) _ _ (0,0) _ B0 rfl rfl (by kernel_rfl) ?_)
    |((with_reducible refine(hM _ hX).mono ?_);rintro e w1 ⟨rfl,hb1⟩
      have hX1:=hX.trans (hb1.mono hX.size)
      have B1:=B0.below hb1 B0.lt)
    |((with_reducible refine(wnew _).mono ?_);rintro e w2 ⟨rfl,rfl⟩))
   have hW:=Wr.new w1
   have hD:Below (w1.alloc (.cells #[.slice none 0 0] 129)).heap.size (w1.alloc (.cells #[.slice none 0 0] 129)) ((w1.alloc (.cells #[.slice none 0 0] 129)).alloc (.cells #[.pointer (some ⟨w1.heap.size,0,none⟩),.pointer none] 87)):=by go_grown
   have hY1:Below w1.heap.size w1 ((w1.alloc (.cells #[.slice none 0 0] 129)).alloc (.cells #[.pointer (some ⟨w1.heap.size,0,none⟩),.pointer none] 87)):=by go_grown
   have kC:Blk ((w1.alloc (.cells #[.slice none 0 0] 129)).alloc (.cells #[.pointer (some ⟨w1.heap.size,0,none⟩),.pointer none] 87)) (w1.heap.size+1) 87 #[.pointer (some ⟨w1.heap.size,0,none⟩),.pointer none]:=Blk.new' _ _ (by simp)
   have hc:CW ((w1.alloc (.cells #[.slice none 0 0] 129)).alloc (.cells #[.pointer (some ⟨w1.heap.size,0,none⟩),.pointer none] 87)) w1.heap.size w1.heap.size (.slice none 0 0) [] (w1.heap.size+1):=
    ⟨hW.below hD,hY1.size,kC,kC.lt,by omega,by intro e;cases e⟩
   have B2:=B1.below hY1 B1.lt
   have hlo:MgLo w1 w1.heap.size m h:=i.up hX1
   have hl0:w.heap.size<w1.heap.size:=B1.lt
   have HX1:=Lib.hid hX1
   clear hX hX1 hM B0 i sm pl hb1 kC hD hW
   go_wp2_with fail
   refine(hwk _ w1.heap.size w1.heap.size (.slice none 0 0) (w1.heap.size+1) w.heap.size hc (Apt.low hc hl0) B2 (hlo.below hY1)).mono ?_
   rintro e w2 ⟨rfl,v2,hc2,hf2⟩
   rw[List.nil_append]at hc2
   have HZ:=Lib.hid (hY1.trans (hc.lo hf2))
   have hl1:=B2.lt
   clear hc hlo B2 hf2 hY1 hwk
   go_wp2_with ((with_reducible refine(wbytes _ v2 bs w1.heap.size w2 hc2.wr (by omega)).mono ?_);rintro e w3 ⟨A,c,rfl,q1,q2,q3,q4⟩)
   all_goals have hB2:=HX1.out.trans (HZ.out.mono HX1.out.size)
   all_goals have hB3:=hB2.trans (q4.mono hB2.size)
   · have hgt:4194304<bs.length:=by
        have hz:decide (4194304<(bs.length:Int))=true:=by simp;omega
        simp at hz;omega
     go_ret2
     rw[HE.out,HO.out,if_pos hgt,if_pos hgt]
     exact RowE.nil 2 hB3
   · have hgt:¬4194304<bs.length:=by omega
     go_ret2
     rw[HE.out,HO.out,if_neg hgt,if_neg hgt]
     exact⟨A,c,rfl,q1,q2,owns_down q3 hB2.size,hB3⟩
 · have h1:mencE m bs=mayM m:=by unfold mencE;rw[if_neg hm]
   have h2:mencOut m bs=[]:=by unfold mencOut;rw[h1,if_neg hm]
   rw[h1,h2]
   have hb0:(mayM m !=0)=true:=by simp[hm]
   generalize mayM m=mm at*
   clear h1 h2 hm hwk
   go_enter Tryz.func16,Tryz.ntmps16
   go_wp2_with (first
    |(guard_target=~ wpList _ _ _ _ _ _;refine wpList_load_row rfl 41 _ rfl w.heap.size (by kernel_rfl) _ _ (0,0) _ B0 rfl rfl (by kernel_rfl) ?_)
    |((with_reducible refine(hM _ hX).mono ?_);rintro e w1 ⟨rfl,hb1⟩))
   go_ret2
   exact RowE.nil mm (hX.trans (hb1.mono hX.size))
set_option maxHeartbeats 2000000
def encSn (a:Sn):List UInt8:=encKy a.key++(encVl a.v++encSp a.s)
theorem wcSeen:ElemW 134 SnRel 7 encSn:=by
 rintro a w B g v bs gc p _ hc hp-hA ⟨rfl,hk,hv,hs⟩ hlen
 have A0:At w p (keyCells a.key):=hA.sub (a:=[]) (b:=[_]) (c:=[_,_,_,_,_,_])
 have A1:At w ⟨p.block,p.off+1,none⟩ a.v.cells:=hA.sub (a:=[_]) (b:=[_,_,_]) (c:=[_,_,_])
 have A2:At w ⟨p.block,p.off+4,none⟩ [.int .i64 a.s.w,.int .i64 a.s.l,.int .i64 a.s.n]:=hA.sub (a:=[_,_,_,_]) (b:=[_,_,_]) (c:=[])
 have hl:(encSn a).length=(encKy a.key).length+((encVl a.v).length+((encSp a.s).length)):=by unfold encSn;simp only[List.length_append]
 clear hA
 go_enter Tryz.func134,Tryz.ntmps134
 go_wp2_with fail
 refine(wcText _ w B g v bs gc p _ hc hp rfl A0 ⟨rfl,hk⟩ (by omega)).mono ?_
 rintro e w1 ⟨rfl,v1,hc1,hf1⟩
 have hp1:=hf1.apt hp
 replace A1:=hf1.at_ (p:=⟨p.block,p.off+1,none⟩) hp A1
 replace A2:=hf1.at_ (p:=⟨p.block,p.off+4,none⟩) hp A2
 go_wp2_with fail
 refine(wcValue _ w1 B g v1 _ gc ⟨p.block,p.off+1,none⟩ _ hc1 hp1 rfl A1 ⟨rfl,hv⟩ (by simp only[List.length_append];omega)).mono ?_
 rintro e w2 ⟨rfl,v2,hc2,hf2⟩
 have hp2:=hf2.apt hp1
 replace A2:=hf2.at_ (p:=⟨p.block,p.off+4,none⟩) hp1 A2
 go_wp2_with fail
 refine(wcStamp _ w2 B g v2 _ gc ⟨p.block,p.off+4,none⟩ _ hc2 hp2 rfl A2 ⟨rfl,hs⟩ (by simp only[List.length_append];omega)).mono ?_
 rintro e w3 ⟨rfl,v3,hc3,hf3⟩
 go_wp2
 go_end0
 refine⟨rfl,v3,?_,((hf1).trans hf2).trans hf3⟩
 unfold encSn
 simpa only[List.append_assoc] using hc3
theorem wlSeen (l:List Sn) (A:Option Addr) (n c:Nat) (w:World) (B g:Nat) (v:Value) (bs:List UInt8) (gc:Nat) (p:Addr) (hc:CW w B g v bs gc) (hp:Apt w g v p.block) (hA:w.cell? p=some (.slice A n c)) (hcm:n≤maxLen)
 (hS:Sl SnRel 7 w B A n l) (hlen:bs.length+(encLs encSn l).length+10≤1000000000000):
 Calls Tryz.prog 133 #[.pointer (some ⟨gc,0,none⟩),.pointer (some p),.func (.func 134) #[.pointer (some ⟨gc,0,none⟩)] #[]] w (CPost w B g v bs gc (encLs encSn l)):=by
 unfold maxLen at hcm
 have hln:l.length=n:=hS.1
 have hle:l.length≤n:=by omega
 have hge:n≤l.length:=by omega
 have HL:=Lib.hid hlen
 have HN:=Lib.hid hln
 have hlt0:(encLs encSn l).length=(encI (n:Int)).length+(l.flatMap encSn).length:=by unfold encLs;rw[List.length_append,hln]
 have HT:=Lib.hid hlt0
 have h0:bs.length+10≤1000000000000:=by omega
 have hn0:(0:Int)≤(n:Int):=by omega
 clear hlen hln hlt0
 have c0:=hc.blk.cell 0
 simp only[List.getElem?_toArray,List.getElem?_cons_zero]at c0
 go_enter Tryz.func133,Tryz.ntmps133
 go_wp2_with fail
 refine(wint g n v bs B w hc.wr hc.hB (by omega) (by omega) h0).mono ?_
 rintro e w1 ⟨rfl,v1,hw1,hf1⟩
 have hc1:=hc.step hw1 hf1
 have hp1:=hf1.apt hp
 have hS1:=hS.below SnRel.kept (hc.lo hf1)
 have hA1:w1.cell? p=some (.slice A n c):=(World.cell?_of_block (w:=w) (w':=w1) (hf1.heap hp)).trans hA
 clear hc hp hS hA c0 h0 hw1
 have c0:=cl (hc1.blk.cell 0)
 go_wp2_with fail
 go_loopw [39] (fun i wr=>∃(k:Nat) (v2:Value),k≤n∧i=.int .i64 (k:Int)∧CW wr B g v2 (bs++(encI (n:Int)++(l.take k).flatMap encSn)) gc∧Foot w1 wr g v1 v2) (fun i _=>n-(intOf i).toNat)
 case atStart=>exact⟨0,v1,by omega,rfl,by simpa using hc1,Foot.refl _ _ _⟩
 case round=>
  obtain⟨k,v2,hk,rfl,hc2,hf2⟩:=hrel
  have hp2:=hf2.apt hp1
  have hA2:wr.cell? p=some (.slice A n c):=(World.cell?_of_block (w:=w1) (w':=wr) (hf2.heap hp1)).trans hA1
  have d0:=cl (hc2.blk.cell 0)
  by_cases hlt:k<n
  · have hS2:=hS1.below SnRel.kept (hc1.lo hf2)
    obtain⟨ad,cs,a,rfl,ha,hb,hcl,hcs,hr⟩:=hS2.at_ hlt
    have hd1:decide ((k:Int)<(n:Int))=true:=by simp;omega
    have hk0:(0:Int)≤(k:Int):=by omega
    have hk1:(k:Int)<(n:Int):=by omega
    have HX:=Lib.hid (flat_snoc encSn ha)
    have hfl:=flat_take_le encSn l (k+1)
    have hfl2:((l.take k).flatMap encSn).length+(encSn a).length≤(l.flatMap encSn).length:=by rw[HX.out,List.length_append]at hfl;exact hfl
    have hAt:At wr (ad.add (k*7)) cs:=fun j u hj=>by rw[add_of_add];exact hcs j u hj
    have hbk:(ad.add (k*7)).block<B:=by rw[block_of_add];exact hb
    have HK:=Lib.hid hfl2
    clear hfl hfl2 ha hb hcs
    go_wp2_with fail
    refine(wcSeen a wr B g v2 _ gc (ad.add (k*7)) cs hc2 (Apt.low hc2 hbk) hcl hAt hr (by have h1:=HL.out;rw[HT.out]at h1;have h2:=HK.out;simp only[List.length_append];omega)).mono ?_
    rintro e w3 ⟨rfl,v3,hc3,hf3⟩
    go_wp2_with fail
    go_roundw
    case rel=>
        refine⟨k+1,v3,by omega,by go_num,?_,hf2.trans hf3⟩
        rw[HX.out]
        simpa only[List.append_assoc] using hc3
    case measure=>simp[intOf];omega
  · have hd1:decide ((k:Int)<(n:Int))=false:=by simp;omega
    go_wp2_with fail
    go_end0
    refine⟨rfl,v2,?_,hf1.trans hf2⟩
    unfold encLs
    rw[HN.out,←flat_all encSn (k:=k) (by omega)]
    exact hc2
theorem wlRange (l:List Rg) (A:Option Addr) (n c:Nat) (w:World) (B g:Nat) (v:Value) (bs:List UInt8) (gc:Nat) (p:Addr) (hc:CW w B g v bs gc) (hp:Apt w g v p.block) (hA:w.cell? p=some (.slice A n c)) (hcm:n≤maxLen)
 (hS:Sl RgRel 4 w B A n l) (hlen:bs.length+(encLs encRg l).length+10≤1000000000000):
 Calls Tryz.prog 135 #[.pointer (some ⟨gc,0,none⟩),.pointer (some p),.func (.func 136) #[.pointer (some ⟨gc,0,none⟩)] #[]] w (CPost w B g v bs gc (encLs encRg l)):=by
 unfold maxLen at hcm
 have hln:l.length=n:=hS.1
 have hle:l.length≤n:=by omega
 have hge:n≤l.length:=by omega
 have HL:=Lib.hid hlen
 have HN:=Lib.hid hln
 have hlt0:(encLs encRg l).length=(encI (n:Int)).length+(l.flatMap encRg).length:=by unfold encLs;rw[List.length_append,hln]
 have HT:=Lib.hid hlt0
 have h0:bs.length+10≤1000000000000:=by omega
 have hn0:(0:Int)≤(n:Int):=by omega
 clear hlen hln hlt0
 have c0:=hc.blk.cell 0
 simp only[List.getElem?_toArray,List.getElem?_cons_zero]at c0
 go_enter Tryz.func135,Tryz.ntmps135
 go_wp2_with fail
 refine(wint g n v bs B w hc.wr hc.hB (by omega) (by omega) h0).mono ?_
 rintro e w1 ⟨rfl,v1,hw1,hf1⟩
 have hc1:=hc.step hw1 hf1
 have hp1:=hf1.apt hp
 have hS1:=hS.below RgRel.kept (hc.lo hf1)
 have hA1:w1.cell? p=some (.slice A n c):=(World.cell?_of_block (w:=w) (w':=w1) (hf1.heap hp)).trans hA
 clear hc hp hS hA c0 h0 hw1
 have c0:=cl (hc1.blk.cell 0)
 go_wp2_with fail
 go_loopw [39] (fun i wr=>∃(k:Nat) (v2:Value),k≤n∧i=.int .i64 (k:Int)∧CW wr B g v2 (bs++(encI (n:Int)++(l.take k).flatMap encRg)) gc∧Foot w1 wr g v1 v2) (fun i _=>n-(intOf i).toNat)
 case atStart=>exact⟨0,v1,by omega,rfl,by simpa using hc1,Foot.refl _ _ _⟩
 case round=>
  obtain⟨k,v2,hk,rfl,hc2,hf2⟩:=hrel
  have hp2:=hf2.apt hp1
  have hA2:wr.cell? p=some (.slice A n c):=(World.cell?_of_block (w:=w1) (w':=wr) (hf2.heap hp1)).trans hA1
  have d0:=cl (hc2.blk.cell 0)
  by_cases hlt:k<n
  · have hS2:=hS1.below RgRel.kept (hc1.lo hf2)
    obtain⟨ad,cs,a,rfl,ha,hb,hcl,hcs,hr⟩:=hS2.at_ hlt
    have hd1:decide ((k:Int)<(n:Int))=true:=by simp;omega
    have hk0:(0:Int)≤(k:Int):=by omega
    have hk1:(k:Int)<(n:Int):=by omega
    have HX:=Lib.hid (flat_snoc encRg ha)
    have hfl:=flat_take_le encRg l (k+1)
    have hfl2:((l.take k).flatMap encRg).length+(encRg a).length≤(l.flatMap encRg).length:=by rw[HX.out,List.length_append]at hfl;exact hfl
    have hAt:At wr (ad.add (k*4)) cs:=fun j u hj=>by rw[add_of_add];exact hcs j u hj
    have hbk:(ad.add (k*4)).block<B:=by rw[block_of_add];exact hb
    have HK:=Lib.hid hfl2
    clear hfl hfl2 ha hb hcs
    go_wp2_with fail
    refine(wcRange a wr B g v2 _ gc (ad.add (k*4)) cs hc2 (Apt.low hc2 hbk) hcl hAt hr (by have h1:=HL.out;rw[HT.out]at h1;have h2:=HK.out;simp only[List.length_append];omega)).mono ?_
    rintro e w3 ⟨rfl,v3,hc3,hf3⟩
    go_wp2_with fail
    go_roundw
    case rel=>
        refine⟨k+1,v3,by omega,by go_num,?_,hf2.trans hf3⟩
        rw[HX.out]
        simpa only[List.append_assoc] using hc3
    case measure=>simp[intOf];omega
  · have hd1:decide ((k:Int)<(n:Int))=false:=by simp;omega
    go_wp2_with fail
    go_end0
    refine⟨rfl,v2,?_,hf1.trans hf2⟩
    unfold encLs
    rw[HN.out,←flat_all encRg (k:=k) (by omega)]
    exact hc2
def encRm (r:Rc):List UInt8:=encT (encOut r)
theorem wcRecord (r:Rc) (h:Hds) (w:World) (B g:Nat) (v:Value) (bs:List UInt8) (gc b o:Nat) (hc:CW w B g v bs gc) (hr:w.rangeAt b o (r.vals h).toList) (ok:r.ok) (cp:h.caps) (i:RcLo w B r h) (pl:RcPl r) (hlen:bs.length+(encRm r).length+10≤1000000000000):
 Calls Tryz.prog 87 #[.pointer (some ⟨gc,0,none⟩),.pointer (some ⟨b,o,none⟩)] w (CPost w B g v bs gc (encRm r)):=by
 have c0:=cl (hc.blk.cell 0)
 have i2:RcLo w w.heap.size r h:=i.more hc.hB
 have hE:=encode_any r h w ok i2.into cp (pl.sm i2) (by have:=pl.e;omega)
 have hol:(encOut r).length≤2000000:=by
  have:=pl.e
  unfold encOut
  split
  · exact this
  · exact Nat.zero_le _
 clear i i2 pl
 go_enter Tryz.func87,Tryz.ntmps87
 go_wp2_with (guard_target=~ wpList _ _ _ _ _ _;refine wpList_load_mid rfl 69 _ rfl b o (by kernel_rfl) (r.vals h).toList _ hr rfl rfl (by kernel_rfl) ?_)
 refine hE.mono ?_
 rintro e w1 ⟨A1,c1,rfl,q1,m1,o1,hb1⟩
 have hR:Reads w1 w1.heap.size 1 A1 (encOut r).length (bytesV (encOut r)):=Reads.of_own o1
 have hc1:=hc.below hb1
 have F1:=Foot.ofBelow g v hb1
 have hX:Below w1.heap.size w1 (w1.alloc (.cells #[.string ⟨(encOut r).toArray⟩] 9)):=by go_grown
 have hc2:=hc1.below hX
 have F2:=F1.trans (Foot.ofBelow g v hX)
 have bS:Blk (w1.alloc (.cells #[.string ⟨(encOut r).toArray⟩] 9)) w1.heap.size 9 #[.string ⟨(encOut r).toArray⟩]:=Blk.new _ _ _
 have hcv:=run_conv_reads (P:=Tryz.prog) w1 49 9 5 Tryz.underlying49 Tryz.underlying5 Tryz.underlying9 (c:=c1) hR
 have hap:Apt (w1.alloc (.cells #[.string ⟨(encOut r).toArray⟩] 9)) g v w1.heap.size:=⟨by simp,by have:=hc1.wr.lt;omega,fun e=>by have:=hc1.wr.own_lt _ e.symm;omega⟩
 clear hE hr hR o1
 go_wp2_with fail
 refine(wcText ⟨(encOut r).toArray⟩ _ B g v bs gc ⟨w1.heap.size,0,none⟩ _ hc2 hap rfl (bS.at_ 0 [.string ⟨(encOut r).toArray⟩]) ⟨rfl,by show (encOut r).toArray.size≤_;simp;omega⟩ hlen).mono ?_
 rintro e w2 ⟨rfl,v2,hc3,hf3⟩
 go_wp2
 go_end0
 exact⟨rfl,v2,hc3,F2.trans hf3⟩
theorem wcRec (r:Rc) (h:Hds) (w:World) (B g:Nat) (v:Value) (bs:List UInt8) (gc bx b o:Nat) (hc:CW w B g v bs gc) (kx:Blk w bx 84 #[.pointer (some ⟨gc,0,none⟩)]) (hr:w.rangeAt b o (r.vals h).toList) (ok:r.ok) (cp:h.caps) (i:RcLo w B r h) (pl:RcPl r) (hlen:bs.length+(encRm r).length+10≤1000000000000):
 Calls Tryz.prog 86 #[.pointer (some ⟨b,o,none⟩),.pointer (some ⟨bx,0,none⟩)] w (CPost w B g v bs gc (encRm r)):=by
 have y0:=cl (kx.cell 0)
 go_enter Tryz.func86,Tryz.ntmps86
 go_wp2_with fail
 refine(wcRecord r h w B g v bs gc b o hc hr ok cp i pl hlen).mono ?_
 rintro e w1 ⟨rfl,v1,hc1,hf1⟩
 go_wp2
 go_end0
 exact⟨rfl,v1,hc1,hf1⟩
theorem wlRec (l:List Rc) (A:Option Addr) (n c:Nat) (w:World) (B g:Nat) (v:Value) (bs:List UInt8) (gc bx:Nat) (p:Addr) (hpl:∀r∈l,RcPl r) (kx:Blk w bx 84 #[.pointer (some ⟨gc,0,none⟩)]) (ax:Apt w g v bx) (hc:CW w B g v bs gc) (hp:Apt w g v p.block) (hA:w.cell? p=some (.slice A n c)) (hcm:n≤maxLen)
 (hS:Sl RmRel 29 w B A n l) (hlen:bs.length+(encLs encRm l).length+10≤1000000000000):
 Calls Tryz.prog 85 #[.pointer (some ⟨gc,0,none⟩),.pointer (some p),.func (.func 86) #[] #[.pointer (some ⟨bx,0,none⟩)]] w (CPost w B g v bs gc (encLs encRm l)):=by
 unfold maxLen at hcm
 have hln:l.length=n:=hS.1
 have hle:l.length≤n:=by omega
 have hge:n≤l.length:=by omega
 have HL:=Lib.hid hlen
 have HP:=Lib.hid hpl
 clear hpl
 have HN:=Lib.hid hln
 have hlt0:(encLs encRm l).length=(encI (n:Int)).length+(l.flatMap encRm).length:=by unfold encLs;rw[List.length_append,hln]
 have HT:=Lib.hid hlt0
 have h0:bs.length+10≤1000000000000:=by omega
 have hn0:(0:Int)≤(n:Int):=by omega
 clear hlen hln hlt0
 have c0:=hc.blk.cell 0
 simp only[List.getElem?_toArray,List.getElem?_cons_zero]at c0
 go_enter Tryz.func85,Tryz.ntmps85
 go_wp2_with fail
 refine(wint g n v bs B w hc.wr hc.hB (by omega) (by omega) h0).mono ?_
 rintro e w1 ⟨rfl,v1,hw1,hf1⟩
 have hc1:=hc.step hw1 hf1
 have hp1:=hf1.apt hp
 have kx1:Blk w1 bx 84 _:=(hf1.heap ax).trans kx
 have ax1:=hf1.apt ax
 have hS1:=hS.below RmRel.kept (hc.lo hf1)
 have hA1:w1.cell? p=some (.slice A n c):=(World.cell?_of_block (w:=w) (w':=w1) (hf1.heap hp)).trans hA
 clear hc hp hS hA c0 h0 hw1 kx ax
 have c0:=cl (hc1.blk.cell 0)
 go_wp2_with fail
 go_loopw [39] (fun i wr=>∃(k:Nat) (v2:Value),k≤n∧i=.int .i64 (k:Int)∧CW wr B g v2 (bs++(encI (n:Int)++(l.take k).flatMap encRm)) gc∧Foot w1 wr g v1 v2) (fun i _=>n-(intOf i).toNat)
 case atStart=>exact⟨0,v1,by omega,rfl,by simpa using hc1,Foot.refl _ _ _⟩
 case round=>
  obtain⟨k,v2,hk,rfl,hc2,hf2⟩:=hrel
  have hp2:=hf2.apt hp1
  have hA2:wr.cell? p=some (.slice A n c):=(World.cell?_of_block (w:=w1) (w':=wr) (hf2.heap hp1)).trans hA1
  have d0:=cl (hc2.blk.cell 0)
  by_cases hlt:k<n
  · have hS2:=hS1.below RmRel.kept (hc1.lo hf2)
    have kx2:Blk wr bx 84 _:=(hf2.heap ax1).trans kx1
    obtain⟨ad,a,h9,b,o,rfl,ha,hq,hb,hrg,ok,cp,lo⟩:=hS2.rm2 hlt
    have pl:=HP.out a (List.mem_of_getElem? ha)
    have hd1:decide ((k:Int)<(n:Int))=true:=by simp;omega
    have hk0:(0:Int)≤(k:Int):=by omega
    have hk1:(k:Int)<(n:Int):=by omega
    have HX:=Lib.hid (flat_snoc encRm ha)
    have hfl:=flat_take_le encRm l (k+1)
    have hfl2:((l.take k).flatMap encRm).length+(encRm a).length≤(l.flatMap encRm).length:=by rw[HX.out,List.length_append]at hfl;exact hfl
    have HK:=Lib.hid hfl2
    clear hfl hfl2 ha hb
    go_wp2_with fail
    refine(wcRec a h9 wr B g v2 _ gc bx b o hc2 kx2 hrg ok cp lo pl (by have h1:=HL.out;rw[HT.out]at h1;have h2:=HK.out;simp only[List.length_append];omega)).mono ?_
    rintro e w3 ⟨rfl,v3,hc3,hf3⟩
    go_wp2_with fail
    go_roundw
    case rel=>
        refine⟨k+1,v3,by omega,by go_num,?_,hf2.trans hf3⟩
        rw[HX.out]
        simpa only[List.append_assoc] using hc3
    case measure=>simp[intOf];omega
  · have hd1:decide ((k:Int)<(n:Int))=false:=by simp;omega
    go_wp2_with fail
    go_end0
    refine⟨rfl,v2,?_,hf1.trans hf2⟩
    unfold encLs
    rw[HN.out,←flat_all encRm (k:=k) (by omega)]
    exact hc2
set_option maxHeartbeats 32000000
structure WM (w0:World) (v0:Value) (T:List UInt8) (k:Int) (q:Option Nat) (w:World) (B g:Nat) (v:Value) (bs:List UInt8) (gc bx gr:Nat) (m:Mg) (h:Hm) (suf:List UInt8):Prop where
 s:WS w B g v bs gc bx gr m h
 f:Foot w0 w g v0 v
 q:∀b,q=some b→Blk w b 88 #[.pointer (some ⟨gr,0,none⟩)]∧Apt w g v b
 k:m.k=k
 e:bs++suf=T
 n:T.length+10≤1000000000000
def WPost (w0:World) (v0:Value) (T:List UInt8) (k:Int) (q:Option Nat) (B g gc bx gr:Nat) (m:Mg) (h:Hm) (suf:List UInt8):Ending→World→Prop:=fun e w=>
 e=.returned (.tuple #[])∧∃v bs,WM w0 v0 T k q w B g v bs gc bx gr m h suf∧w.cell? ⟨bx,0,none⟩=some (.pointer (some ⟨gc,0,none⟩))∧w.cell? ⟨gr,0,none⟩=some (.int .i64 k)
section
variable {w0 w:World} {v0 v:Value} {T bs more suf:List UInt8} {k:Int} {q:Option Nat} {B g gc bx gr:Nat} {m:Mg} {h:Hm}
theorem WM.y (X:WM w0 v0 T k q w B g v bs gc bx gr m h suf):w.cell? ⟨bx,0,none⟩=some (.pointer (some ⟨gc,0,none⟩)):=X.s.kx.cell 0
theorem WM.z (X:WM w0 v0 T k q w B g v bs gc bx gr m h suf):w.cell? ⟨gr,0,none⟩=some (.int .i64 k):=by rw[←X.k];exact X.s.km.cell 0
theorem WM.drew (X:WM w0 v0 T k q w B g v bs gc bx gr m h suf):WM w0 v0 T k q w.drew B g v bs gc bx gr m h suf:=by
 have D:Below w.heap.size w w.drew:=(Below.refl _ _).drew
 exact⟨X.s.below D,X.f.trans (Foot.ofBelow g v D),fun b e=>⟨(X.q b e).1,(X.q b e).2⟩,X.k,X.e,X.n⟩
theorem WM.go {F:Nat} {vs:Array Value} (X:WM w0 v0 T k q w B g v bs gc bx gr m h (more++suf)) (H:bs.length+more.length+10≤1000000000000→Calls Tryz.prog F vs w (CPost w B g v bs gc more)):
 Calls Tryz.prog F vs w (WPost w0 v0 T k q B g gc bx gr m h suf):=by
 have n:=X.n
 rw[←X.e]at n
 simp only[List.length_append]at n
 refine(H (by omega)).mono ?_
 rintro e w1 ⟨rfl,v1,hc,hf⟩
 have Y:WM w0 v0 T k q w1 B g v1 (bs++more) gc bx gr m h suf:=⟨X.s.step hc hf,X.f.trans hf,fun b e=>⟨(hf.heap (X.q b e).2).trans (X.q b e).1,hf.apt (X.q b e).2⟩,X.k,by rw[List.append_assoc];exact X.e,X.n⟩
 exact⟨rfl,v1,_,Y,Y.y,Y.z⟩
theorem WM.int {n:Int} (X:WM w0 v0 T k q w B g v bs gc bx gr m h (encI n++suf)) (o:Nat) (ok:i64ok n) (e:((m.vals h).toList.drop o).take 1=[.int .i64 n]:=by rfl):
 Calls Tryz.prog 81 #[.pointer (some ⟨gc,0,none⟩),.pointer (some ⟨gr,o,none⟩)] w (WPost w0 v0 T k q B g gc bx gr m h suf):=
 X.go fun hl=>wcInt n _ B g v bs gc ⟨gr,o,none⟩ _ X.s.c X.s.am rfl (X.s.km.at_ o [.int .i64 n] e) ⟨rfl,ok⟩ hl
theorem WM.sp {a:Sp} (X:WM w0 v0 T k q w B g v bs gc bx gr m h (encSp a++suf)) (o:Nat) (ok:a.ok) (e:((m.vals h).toList.drop o).take 3=[.int .i64 a.w,.int .i64 a.l,.int .i64 a.n]:=by rfl):
 Calls Tryz.prog 84 #[.pointer (some ⟨gc,0,none⟩),.pointer (some ⟨gr,o,none⟩)] w (WPost w0 v0 T k q B g gc bx gr m h suf):=
 X.go fun hl=>wcStamp a _ B g v bs gc ⟨gr,o,none⟩ _ X.s.c X.s.am rfl (X.s.km.at_ o [.int .i64 a.w,.int .i64 a.l,.int .i64 a.n] e) ⟨rfl,ok⟩ hl
theorem WM.fin {b0:List UInt8} (X:WM w0 v0 T k q w B g v bs gc bx gr m h []) (e:T=b0++more):CPost w0 B g v0 b0 gc more (.returned (.tuple #[])) w:=
 ⟨rfl,v,by rw[←e,←X.e,List.append_nil];exact X.s.c,X.f⟩
theorem WM.start {L:List UInt8} (hc:CW w B g v bs gc) (hp:Apt w g v gr) (hb:Blk w gr 41 (m.vals h)) (lo:MgLo w B m h) (hk:m.k=k) (hl:bs.length+L.length+10≤1000000000000) (e:T=bs++L):
 WM w v T k none (w.alloc (.cells #[.pointer (some ⟨gc,0,none⟩)] 84)) B g v bs gc w.heap.size gr m h L:=
 ⟨WS.start hc hp hb lo,Foot.ofBelow g v (by go_grown),fun b e=>(by cases e),hk,e.symm,by rw[e,List.length_append];exact hl⟩
theorem WM.box (X:WM w0 v0 T k none w B g v bs gc bx gr m h suf):
 WM w0 v0 T k (some w.heap.size) (w.alloc (.cells #[.pointer (some ⟨gr,0,none⟩)] 88)) B g v bs gc bx gr m h suf:=by
 have hX:Below w.heap.size w (w.alloc (.cells #[.pointer (some ⟨gr,0,none⟩)] 88)):=by go_grown
 refine⟨X.s.below hX,X.f.trans (Foot.ofBelow g v hX),fun b e=>?_,X.k,X.e,X.n⟩
 cases e
 exact⟨Blk.new _ _ _,⟨by simp,by have:=X.s.c.wr.lt;omega,fun e=>by have:=X.s.c.wr.own_lt _ e.symm;omega⟩⟩
end
theorem wcNumber (m:Mg) (h:Hm) (w:World) (B g:Nat) (v:Value) (bs:List UInt8) (gc bx bm gr:Nat) (S:WS w B g v bs gc bx gr m h) (kb:Blk w bm 88 #[.pointer (some ⟨gr,0,none⟩)]) (ab:Apt w g v bm) (ok:i64ok m.cd) (hlen:bs.length+(encI m.cd).length+10≤1000000000000):
 Calls Tryz.prog 130 #[.pointer (some ⟨bm,0,none⟩),.pointer (some ⟨bx,0,none⟩)] w (CPost w B g v bs gc (encI m.cd)):=by
 have x0:=cl (kb.cell 0)
 have y0:=cl (S.kx.cell 0)
 have z0:=cl (S.km.cell 8)
 have hX:Below w.heap.size w (w.alloc (.cells #[.int .i64 m.cd] 3)):=by go_grown
 have S1:=S.below hX
 have bN:Blk (w.alloc (.cells #[.int .i64 m.cd] 3)) w.heap.size 3 #[.int .i64 m.cd]:=Blk.new _ _ _
 have aN:Apt (w.alloc (.cells #[.int .i64 m.cd] 3)) g v w.heap.size:=⟨by simp,by have:=S.c.wr.lt;omega,fun e=>by have:=S.c.wr.own_lt _ e.symm;omega⟩
 have F1:=Foot.ofBelow g v hX
 have kb1:Blk (w.alloc (.cells #[.int .i64 m.cd] 3)) bm 88 #[.pointer (some ⟨gr,0,none⟩)]:=kb.below hX kb.lt
 have ab1:Apt (w.alloc (.cells #[.int .i64 m.cd] 3)) g v bm:=⟨Nat.lt_of_lt_of_le ab.1 hX.size,ab.2⟩
 have y1:=cl (S1.kx.cell 0)
 clear S kb ab hX
 go_enter Tryz.func130,Tryz.ntmps130
 go_wp2_with fail
 refine(wcInt m.cd _ B g v bs gc ⟨w.heap.size,0,none⟩ _ S1.c aN rfl (bN.at_ 0 [.int .i64 m.cd]) ⟨rfl,ok⟩ hlen).mono ?_
 rintro e w2 ⟨rfl,v2,hc2,hf2⟩
 have S2:=S1.step hc2 hf2
 have x2:w2.cell? ⟨bm,0,none⟩=some (.pointer (some ⟨gr,0,none⟩)):=(show Blk w2 bm 88 _ from (hf2.heap ab1).trans kb1).cell 0
 have n2:w2.cell? ⟨w.heap.size,0,none⟩=some (.int .i64 m.cd):=(show Blk w2 w.heap.size 3 _ from (hf2.heap aN).trans bN).cell 0
 have z2:=cl (S2.km.cell 8)
 have f2:=S2.km.frozen 8
 have hs:=setCell_same (i:=8) S2.km (show (m.vals h)[8]?=some (.int .i64 m.cd) from rfl)
 have HS:=Lib.hid hs
 clear hs
 go_wp2
 go_end0
 rw[HS.out]
 exact⟨rfl,v2,S2.c,F1.trans hf2⟩
def encDeal (m:Mg):List UInt8:=
 if m.k=1 then encI m.ep++(encSp m.s++(encLs encKy m.ks)) else
 if m.k=2 then encI m.cd++(encSp m.s++(encLs encSn m.sn++(encLs encRg m.rs))) else
 if m.k=3 then encI m.ep++(encSp m.s++(encLs encSn m.sn++(encLs encWt m.ws++(encLs encI m.ps)))) else
 if m.k=4 then encI m.cd++(encSp m.s++(encLs encRg m.rs)) else
 if m.k=5 then encB m.cm++(encSp m.s) else
 []
theorem bit_k {k:Int} (h:1≤k∧k≤7):k=1∨k=2∨k=3∨k=4∨k=5∨k=6∨k=7:=by omega
theorem mdealW (m:Mg) (h:Hm) (w:World) (B g:Nat) (v:Value) (bs:List UInt8) (gc gr:Nat) (hk:1≤m.k∧m.k≤7) (hc:CW w B g v bs gc) (hp:Apt w g v gr) (hb:Blk w gr 41 (m.vals h)) (ok:m.ok) (i:MgLo w B m h) (cp:h.caps)
 (hlen:bs.length+(encDeal m).length+10≤1000000000000):
 Calls Tryz.prog 83 #[.pointer (some ⟨gc,0,none⟩),.pointer (some ⟨gr,0,none⟩)] w (CPost w B g v bs gc (encDeal m)):=by
 have hmf:∀(fn:Fn) (first cap:Array Value) (w:World),(Instr.makeFunc fn first cap).run Tryz.prog w=.ok (.func fn first cap) w:=fun _ _ _ _=>rfl
 obtain⟨T,hT⟩:∃T,T=bs++encDeal m:=⟨_,rfl⟩
 rcases bit_k hk with e|e|e|e|e|e|e
 all_goals
  have X:=(WM.start hc hp hb i e hlen hT).box
  have HT:=Lib.hid hT
  replace e:=Lib.hid e
  clear hc hp hb i hlen hk hT
  go_enter Tryz.func83,Tryz.ntmps83
  go_upto_region 1 with fail
  generalize ((w.alloc (.cells #[.pointer (some ⟨gc,0,none⟩)] 84)).alloc (.cells #[.pointer (some ⟨gr,0,none⟩)] 88))=w0 at*
  have hbm:(w.alloc (.cells #[.pointer (some ⟨gc,0,none⟩)] 84)).heap.size=w.heap.size+1:=by simp
  rw[hbm]at X
  clear hbm
  generalize w.heap.size+1=bm at*
  generalize w.heap.size=bx at*
  have y:=X.y
  have z:=X.z
 · rw[show encDeal m=encI m.ep++(encSp m.s++(encLs encKy m.ks++([]))) from by unfold encDeal;simp[e.out]]at X
   clear e
   have x:=(X.q _ rfl).1.cell 0
   go_wp2_with fail
   go_still_tail 4,(by kernel_rfl)
   replace X:=X.drew
   go_wp2_with fail
   refine(have Y:=X;Y.int 7 ok.ep).mono ?_
   clear X y z x
   rintro e w1 ⟨rfl,v1,b1,X,y,z⟩
   have x:=(X.q _ rfl).1.cell 0
   go_wp2_with fail
   go_still_tail 4,(by kernel_rfl)
   replace X:=X.drew
   go_wp2_with fail
   refine(have Y:=X;Y.sp 9 ok.s).mono ?_
   clear X y z x
   rintro e w1 ⟨rfl,v1,b1,X,y,z⟩
   have x:=(X.q _ rfl).1.cell 0
   go_wp2_with fail
   go_still_tail 6,(by kernel_rfl)
   replace X:=X.drew
   go_wp2_with fail
   refine(have Y:=X;Y.go fun hl=>wlText m.ks h.a.A h.a.n h.a.c _ B g _ _ gc ⟨gr,18,none⟩ Y.s.c Y.s.am (Y.s.km.cell 18) (Nat.le_trans cp.a.1 cp.a.2) Y.s.lo.ks hl).mono ?_
   clear X y z x
   rintro e w1 ⟨rfl,v1,b1,X,y,z⟩
   have x:=(X.q _ rfl).1.cell 0
   go_wp2
   go_end0
   exact X.fin HT.out
 · rw[show encDeal m=encI m.cd++(encSp m.s++(encLs encSn m.sn++(encLs encRg m.rs++([])))) from by unfold encDeal;simp[e.out]]at X
   clear e
   have x:=(X.q _ rfl).1.cell 0
   go_wp2_with fail
   refine(have Y:=X;Y.go fun hl=>wcNumber m h _ B g _ _ gc bx bm gr Y.s (Y.q _ rfl).1 (Y.q _ rfl).2 ok.cd hl).mono ?_
   clear X y z x
   rintro e w1 ⟨rfl,v1,b1,X,y,z⟩
   have x:=(X.q _ rfl).1.cell 0
   go_wp2_with fail
   go_still_tail 4,(by kernel_rfl)
   replace X:=X.drew
   go_wp2_with fail
   refine(have Y:=X;Y.sp 9 ok.s).mono ?_
   clear X y z x
   rintro e w1 ⟨rfl,v1,b1,X,y,z⟩
   have x:=(X.q _ rfl).1.cell 0
   go_wp2_with fail
   go_still_tail 6,(by kernel_rfl)
   replace X:=X.drew
   go_wp2_with fail
   refine(have Y:=X;Y.go fun hl=>wlSeen m.sn h.b.A h.b.n h.b.c _ B g _ _ gc ⟨gr,19,none⟩ Y.s.c Y.s.am (Y.s.km.cell 19) (Nat.le_trans cp.b.1 cp.b.2) Y.s.lo.sn hl).mono ?_
   clear X y z x
   rintro e w1 ⟨rfl,v1,b1,X,y,z⟩
   have x:=(X.q _ rfl).1.cell 0
   go_wp2_with fail
   go_still_tail 6,(by kernel_rfl)
   replace X:=X.drew
   go_wp2_with fail
   refine(have Y:=X;Y.go fun hl=>wlRange m.rs h.e.A h.e.n h.e.c _ B g _ _ gc ⟨gr,22,none⟩ Y.s.c Y.s.am (Y.s.km.cell 22) (Nat.le_trans cp.e.1 cp.e.2) Y.s.lo.rs hl).mono ?_
   clear X y z x
   rintro e w1 ⟨rfl,v1,b1,X,y,z⟩
   have x:=(X.q _ rfl).1.cell 0
   go_wp2
   go_end0
   exact X.fin HT.out
 · rw[show encDeal m=encI m.ep++(encSp m.s++(encLs encSn m.sn++(encLs encWt m.ws++(encLs encI m.ps++([]))))) from by unfold encDeal;simp[e.out]]at X
   clear e
   have x:=(X.q _ rfl).1.cell 0
   go_wp2_with fail
   go_still_tail 4,(by kernel_rfl)
   replace X:=X.drew
   go_wp2_with fail
   refine(have Y:=X;Y.int 7 ok.ep).mono ?_
   clear X y z x
   rintro e w1 ⟨rfl,v1,b1,X,y,z⟩
   have x:=(X.q _ rfl).1.cell 0
   go_wp2_with fail
   go_still_tail 4,(by kernel_rfl)
   replace X:=X.drew
   go_wp2_with fail
   refine(have Y:=X;Y.sp 9 ok.s).mono ?_
   clear X y z x
   rintro e w1 ⟨rfl,v1,b1,X,y,z⟩
   have x:=(X.q _ rfl).1.cell 0
   go_wp2_with fail
   go_still_tail 6,(by kernel_rfl)
   replace X:=X.drew
   go_wp2_with fail
   refine(have Y:=X;Y.go fun hl=>wlSeen m.sn h.b.A h.b.n h.b.c _ B g _ _ gc ⟨gr,19,none⟩ Y.s.c Y.s.am (Y.s.km.cell 19) (Nat.le_trans cp.b.1 cp.b.2) Y.s.lo.sn hl).mono ?_
   clear X y z x
   rintro e w1 ⟨rfl,v1,b1,X,y,z⟩
   have x:=(X.q _ rfl).1.cell 0
   go_wp2_with fail
   go_still_tail 6,(by kernel_rfl)
   replace X:=X.drew
   go_wp2_with fail
   refine(have Y:=X;Y.go fun hl=>wlWrite m.ws h.c.A h.c.n h.c.c _ B g _ _ gc ⟨gr,20,none⟩ Y.s.c Y.s.am (Y.s.km.cell 20) (Nat.le_trans cp.c.1 cp.c.2) Y.s.lo.ws hl).mono ?_
   clear X y z x
   rintro e w1 ⟨rfl,v1,b1,X,y,z⟩
   have x:=(X.q _ rfl).1.cell 0
   go_wp2_with fail
   go_still_tail 6,(by kernel_rfl)
   replace X:=X.drew
   go_wp2_with fail
   refine(have Y:=X;Y.go fun hl=>wlInt m.ps h.d.A h.d.n h.d.c _ B g _ _ gc ⟨gr,21,none⟩ Y.s.c Y.s.am (Y.s.km.cell 21) (Nat.le_trans cp.d.1 cp.d.2) Y.s.lo.ps hl).mono ?_
   clear X y z x
   rintro e w1 ⟨rfl,v1,b1,X,y,z⟩
   have x:=(X.q _ rfl).1.cell 0
   go_wp2
   go_end0
   exact X.fin HT.out
 · rw[show encDeal m=encI m.cd++(encSp m.s++(encLs encRg m.rs++([]))) from by unfold encDeal;simp[e.out]]at X
   clear e
   have x:=(X.q _ rfl).1.cell 0
   go_wp2_with fail
   refine(have Y:=X;Y.go fun hl=>wcNumber m h _ B g _ _ gc bx bm gr Y.s (Y.q _ rfl).1 (Y.q _ rfl).2 ok.cd hl).mono ?_
   clear X y z x
   rintro e w1 ⟨rfl,v1,b1,X,y,z⟩
   have x:=(X.q _ rfl).1.cell 0
   go_wp2_with fail
   go_still_tail 4,(by kernel_rfl)
   replace X:=X.drew
   go_wp2_with fail
   refine(have Y:=X;Y.sp 9 ok.s).mono ?_
   clear X y z x
   rintro e w1 ⟨rfl,v1,b1,X,y,z⟩
   have x:=(X.q _ rfl).1.cell 0
   go_wp2_with fail
   go_still_tail 6,(by kernel_rfl)
   replace X:=X.drew
   go_wp2_with fail
   refine(have Y:=X;Y.go fun hl=>wlRange m.rs h.e.A h.e.n h.e.c _ B g _ _ gc ⟨gr,22,none⟩ Y.s.c Y.s.am (Y.s.km.cell 22) (Nat.le_trans cp.e.1 cp.e.2) Y.s.lo.rs hl).mono ?_
   clear X y z x
   rintro e w1 ⟨rfl,v1,b1,X,y,z⟩
   have x:=(X.q _ rfl).1.cell 0
   go_wp2
   go_end0
   exact X.fin HT.out
 · rw[show encDeal m=encB m.cm++(encSp m.s++([])) from by unfold encDeal;simp[e.out]]at X
   clear e
   have x:=(X.q _ rfl).1.cell 0
   go_wp2_with fail
   go_still_tail 4,(by kernel_rfl)
   replace X:=X.drew
   go_wp2_with fail
   refine(have Y:=X;Y.go fun hl=>wcFlag m.cm _ B g _ _ gc ⟨gr,15,none⟩ _ Y.s.c Y.s.am rfl (Y.s.km.at_ 15 [.bool m.cm]) ⟨rfl,trivial⟩ hl).mono ?_
   clear X y z x
   rintro e w1 ⟨rfl,v1,b1,X,y,z⟩
   have x:=(X.q _ rfl).1.cell 0
   go_wp2_with fail
   go_still_tail 4,(by kernel_rfl)
   replace X:=X.drew
   go_wp2_with fail
   refine(have Y:=X;Y.sp 9 ok.s).mono ?_
   clear X y z x
   rintro e w1 ⟨rfl,v1,b1,X,y,z⟩
   have x:=(X.q _ rfl).1.cell 0
   go_wp2
   go_end0
   exact X.fin HT.out
 · rw[show encDeal m=[] from by unfold encDeal;simp[e.out]]at X
   clear e
   have x:=(X.q _ rfl).1.cell 0
   go_wp2
   go_end0
   exact X.fin HT.out
 · rw[show encDeal m=[] from by unfold encDeal;simp[e.out]]at X
   clear e
   have x:=(X.q _ rfl).1.cell 0
   go_wp2
   go_end0
   exact X.fin HT.out
def encMb (m:Mg):List UInt8:=
 if 1≤m.k∧m.k≤7 then encTx m.t++(encI m.rg++(encDeal m)) else
 if m.k=8 then encI m.rg++(encI m.n++(encI m.mx++(encSp m.s))) else
 if m.k=9 then encI m.rg++(encI m.n++(encLs encRm m.rc)) else
 if m.k=10 then encI m.rg++(encSt m.st) else
 if m.k=11 then encI m.rg else
 if m.k=12 then encSp m.pv++(encSp m.s++(encTx m.t++(encLs encWt m.ws))) else
 if m.k=14 then encSp m.s else
 []
def encMg (m:Mg):List UInt8:=encI m.k++(encI m.fr++(encI m.ton++encMb m))
theorem mwalkW (m:Mg) (h:Hm) (w:World) (B g:Nat) (v:Value) (bs:List UInt8) (gc gr:Nat) (hk:kindM m.k=true) (hc:CW w B g v bs gc) (hp:Apt w g v gr) (hb:Blk w gr 41 (m.vals h)) (ok:m.ok) (i:MgLo w B m h) (cp:h.caps) (pl:∀r∈m.rc,RcPl r)
 (hlen:bs.length+(encMg m).length+10≤1000000000000):
 Calls Tryz.prog 42 #[.pointer (some ⟨gc,0,none⟩),.pointer (some ⟨gr,0,none⟩)] w (CPost w B g v bs gc (encMg m)):=by
 have hk2:(1≤m.k∧m.k≤7)∨m.k=8∨m.k=9∨m.k=10∨m.k=11∨m.k=12∨m.k=13∨m.k=14:=by
  unfold kindM at hk
  rw[decide_eq_true_eq]at hk
  omega
 obtain⟨T,hT⟩:∃T,T=bs++encMg m:=⟨_,rfl⟩
 have X:=WM.start hc hp hb i rfl hlen hT
 have HT:=Lib.hid hT
 replace pl:=Lib.hid pl
 have hk3:=Lib.hid hk2
 clear hc hp hb i hlen hk hk2 hT
 go_enter Tryz.func42,Tryz.ntmps42
 go_upto_region 1 with fail
 generalize (w.alloc (.cells #[.pointer (some ⟨gc,0,none⟩)] 84))=w0 at*
 generalize w.heap.size=bx at*
 have y:=X.y
 have z:=X.z
 unfold encMg at X
 go_still_tail 4,(by kernel_rfl)
 replace X:=X.drew
 go_wp2_with fail
 refine(have Y:=X;Y.int 0 ok.k).mono ?_
 clear X y z
 rintro e w1 ⟨rfl,v1,b1,X,y,z⟩
 go_wp2_with fail
 go_still_tail 4,(by kernel_rfl)
 replace X:=X.drew
 go_wp2_with fail
 refine(have Y:=X;Y.int 1 ok.fr).mono ?_
 clear X y z
 rintro e w1 ⟨rfl,v1,b1,X,y,z⟩
 go_wp2_with fail
 go_still_tail 4,(by kernel_rfl)
 replace X:=X.drew
 go_wp2_with fail
 refine(have Y:=X;Y.int 2 ok.ton).mono ?_
 clear X y z
 rintro e w1 ⟨rfl,v1,b1,X,y,z⟩
 have hk4:=hk3.out
 clear z hk3
 rcases hk4 with hr|e|e|e|e|e|e|e
 · rw[show encMb m=encTx m.t++(encI m.rg++(encDeal m++([]))) from by unfold encMb;simp[hr]]at X
   replace hr:=Lib.hid hr
   rcases bit_k hr.out with e|e|e|e|e|e|e
   all_goals
    replace X:WM _ _ _ _ _ _ _ _ _ _ _ _ _ _ _ _:=⟨X.s,X.f,X.q,e,X.e,X.n⟩
    clear e
    have z:=X.z
    go_wp2_with fail
    go_still_tail 4,(by kernel_rfl)
    replace X:=X.drew
    go_wp2_with fail
    refine(have Y:=X;Y.go fun hl=>wcTxn m.t _ B g _ _ gc ⟨gr,3,none⟩ _ Y.s.c Y.s.am rfl (Y.s.km.at_ 3 [.int .i64 m.t.c,.int .i64 m.t.l,.int .i64 m.t.s]) ⟨rfl,ok.t⟩ hl).mono ?_
    clear X y z
    rintro e w1 ⟨rfl,v1,b1,X,y,z⟩
    go_wp2_with fail
    go_still_tail 4,(by kernel_rfl)
    replace X:=X.drew
    go_wp2_with fail
    refine(have Y:=X;Y.int 6 ok.rg).mono ?_
    clear X y z
    rintro e w1 ⟨rfl,v1,b1,X,y,z⟩
    go_wp2_with fail
    refine(have Y:=X;Y.go fun hl=>mdealW m h _ B g _ _ gc gr hr.out Y.s.c Y.s.am Y.s.km ok Y.s.lo cp hl).mono ?_
    clear X y z
    rintro e w1 ⟨rfl,v1,b1,X,y,z⟩
    go_wp2
    go_end0
    exact X.fin HT.out
 · rw[show encMb m=encI m.rg++(encI m.n++(encI m.mx++(encSp m.s++([])))) from by unfold encMb;simp[e]]at X
   replace X:WM _ _ _ 8 _ _ _ _ _ _ _ _ _ _ _ _:=⟨X.s,X.f,X.q,e,X.e,X.n⟩
   clear e
   have z:=X.z
   go_wp2_with fail
   go_still_tail 4,(by kernel_rfl)
   replace X:=X.drew
   go_wp2_with fail
   refine(have Y:=X;Y.int 6 ok.rg).mono ?_
   clear X y z
   rintro e w1 ⟨rfl,v1,b1,X,y,z⟩
   go_wp2_with fail
   go_still_tail 4,(by kernel_rfl)
   replace X:=X.drew
   go_wp2_with fail
   refine(have Y:=X;Y.int 16 ok.n).mono ?_
   clear X y z
   rintro e w1 ⟨rfl,v1,b1,X,y,z⟩
   go_wp2_with fail
   go_still_tail 4,(by kernel_rfl)
   replace X:=X.drew
   go_wp2_with fail
   refine(have Y:=X;Y.int 17 ok.mx).mono ?_
   clear X y z
   rintro e w1 ⟨rfl,v1,b1,X,y,z⟩
   go_wp2_with fail
   go_still_tail 4,(by kernel_rfl)
   replace X:=X.drew
   go_wp2_with fail
   refine(have Y:=X;Y.sp 9 ok.s).mono ?_
   clear X y z
   rintro e w1 ⟨rfl,v1,b1,X,y,z⟩
   go_wp2
   go_end0
   exact X.fin HT.out
 · rw[show encMb m=encI m.rg++(encI m.n++(encLs encRm m.rc++([]))) from by unfold encMb;simp[e]]at X
   replace X:WM _ _ _ 9 _ _ _ _ _ _ _ _ _ _ _ _:=⟨X.s,X.f,X.q,e,X.e,X.n⟩
   clear e
   have z:=X.z
   go_wp2_with fail
   go_still_tail 4,(by kernel_rfl)
   replace X:=X.drew
   go_wp2_with fail
   refine(have Y:=X;Y.int 6 ok.rg).mono ?_
   clear X y z
   rintro e w1 ⟨rfl,v1,b1,X,y,z⟩
   go_wp2_with fail
   go_still_tail 4,(by kernel_rfl)
   replace X:=X.drew
   go_wp2_with fail
   refine(have Y:=X;Y.int 16 ok.n).mono ?_
   clear X y z
   rintro e w1 ⟨rfl,v1,b1,X,y,z⟩
   go_wp2_with fail
   go_still_tail 5,(by kernel_rfl)
   replace X:=X.drew
   go_wp2_with fail
   refine(have Y:=X;Y.go fun hl=>wlRec m.rc h.f.A h.f.n h.f.c _ B g _ _ gc bx ⟨gr,23,none⟩ pl.out Y.s.kx Y.s.ax Y.s.c Y.s.am (Y.s.km.cell 23) (Nat.le_trans cp.f.1 cp.f.2) Y.s.lo.rc hl).mono ?_
   clear X y z
   rintro e w1 ⟨rfl,v1,b1,X,y,z⟩
   go_wp2
   go_end0
   exact X.fin HT.out
 · rw[show encMb m=encI m.rg++(encSt m.st++([])) from by unfold encMb;simp[e]]at X
   replace X:WM _ _ _ 10 _ _ _ _ _ _ _ _ _ _ _ _:=⟨X.s,X.f,X.q,e,X.e,X.n⟩
   clear e
   have z:=X.z
   go_wp2_with fail
   go_still_tail 4,(by kernel_rfl)
   replace X:=X.drew
   go_wp2_with fail
   refine(have Y:=X;Y.int 6 ok.rg).mono ?_
   clear X y z
   rintro e w1 ⟨rfl,v1,b1,X,y,z⟩
   go_wp2_with fail
   go_still_tail 4,(by kernel_rfl)
   replace X:=X.drew
   go_wp2_with fail
   refine(have Y:=X;Y.go fun hl=>wcState m.st _ B g _ _ gc ⟨gr,24,none⟩ _ Y.s.c Y.s.am rfl (Y.s.km.at_ 24 (m.st.arr (.slice h.g.A h.g.n h.g.c) (.slice h.i.A h.i.n h.i.c)).toList) ⟨_,_,rfl,ok.sr,ok.sf,ok.sc,⟨h.g.A,h.g.n,h.g.c,rfl,cp.g.1,cp.g.2,Y.s.lo.hs⟩,h.i.A,h.i.n,h.i.c,rfl,cp.i.1,cp.i.2,Y.s.lo.pn⟩ hl).mono ?_
   clear X y z
   rintro e w1 ⟨rfl,v1,b1,X,y,z⟩
   go_wp2
   go_end0
   exact X.fin HT.out
 · rw[show encMb m=encI m.rg++([]) from by unfold encMb;simp[e]]at X
   replace X:WM _ _ _ 11 _ _ _ _ _ _ _ _ _ _ _ _:=⟨X.s,X.f,X.q,e,X.e,X.n⟩
   clear e
   have z:=X.z
   go_wp2_with fail
   go_still_tail 4,(by kernel_rfl)
   replace X:=X.drew
   go_wp2_with fail
   refine(have Y:=X;Y.int 6 ok.rg).mono ?_
   clear X y z
   rintro e w1 ⟨rfl,v1,b1,X,y,z⟩
   go_wp2
   go_end0
   exact X.fin HT.out
 · rw[show encMb m=encSp m.pv++(encSp m.s++(encTx m.t++(encLs encWt m.ws++([])))) from by unfold encMb;simp[e]]at X
   replace X:WM _ _ _ 12 _ _ _ _ _ _ _ _ _ _ _ _:=⟨X.s,X.f,X.q,e,X.e,X.n⟩
   clear e
   have z:=X.z
   go_wp2_with fail
   go_still_tail 4,(by kernel_rfl)
   replace X:=X.drew
   go_wp2_with fail
   refine(have Y:=X;Y.sp 12 ok.pv).mono ?_
   clear X y z
   rintro e w1 ⟨rfl,v1,b1,X,y,z⟩
   go_wp2_with fail
   go_still_tail 4,(by kernel_rfl)
   replace X:=X.drew
   go_wp2_with fail
   refine(have Y:=X;Y.sp 9 ok.s).mono ?_
   clear X y z
   rintro e w1 ⟨rfl,v1,b1,X,y,z⟩
   go_wp2_with fail
   go_still_tail 4,(by kernel_rfl)
   replace X:=X.drew
   go_wp2_with fail
   refine(have Y:=X;Y.go fun hl=>wcTxn m.t _ B g _ _ gc ⟨gr,3,none⟩ _ Y.s.c Y.s.am rfl (Y.s.km.at_ 3 [.int .i64 m.t.c,.int .i64 m.t.l,.int .i64 m.t.s]) ⟨rfl,ok.t⟩ hl).mono ?_
   clear X y z
   rintro e w1 ⟨rfl,v1,b1,X,y,z⟩
   go_wp2_with fail
   go_still_tail 6,(by kernel_rfl)
   replace X:=X.drew
   go_wp2_with fail
   refine(have Y:=X;Y.go fun hl=>wlWrite m.ws h.c.A h.c.n h.c.c _ B g _ _ gc ⟨gr,20,none⟩ Y.s.c Y.s.am (Y.s.km.cell 20) (Nat.le_trans cp.c.1 cp.c.2) Y.s.lo.ws hl).mono ?_
   clear X y z
   rintro e w1 ⟨rfl,v1,b1,X,y,z⟩
   go_wp2
   go_end0
   exact X.fin HT.out
 · rw[show encMb m=[] from by unfold encMb;simp[e]]at X
   replace X:WM _ _ _ 13 _ _ _ _ _ _ _ _ _ _ _ _:=⟨X.s,X.f,X.q,e,X.e,X.n⟩
   clear e
   have z:=X.z
   go_wp2
   go_end0
   exact X.fin HT.out
 · rw[show encMb m=encSp m.s++([]) from by unfold encMb;simp[e]]at X
   replace X:WM _ _ _ 14 _ _ _ _ _ _ _ _ _ _ _ _:=⟨X.s,X.f,X.q,e,X.e,X.n⟩
   clear e
   have z:=X.z
   go_wp2_with fail
   go_still_tail 4,(by kernel_rfl)
   replace X:=X.drew
   go_wp2_with fail
   refine(have Y:=X;Y.sp 9 ok.s).mono ?_
   clear X y z
   rintro e w1 ⟨rfl,v1,b1,X,y,z⟩
   go_wp2
   go_end0
   exact X.fin HT.out
theorem mencode_any (m:Mg) (h:Hm) (w:World) (ok:m.ok) (i:MgLo w w.heap.size m h) (cp:h.caps) (sm:MgSm m h) (pl:∀r∈m.rc,RcPl r) (hlen:(encMg m).length+10≤1000000000000):
 Calls Tryz.prog 16 #[.agg (m.vals h)] w (RowE w (mencOut m (encMg m)) (mencE m (encMg m))):=
 mencode_of m h w (encMg m) ok i sm pl (fun hm w' B g v gc gr hc hp hb lo=>mwalkW m h w' B g v [] gc gr (by
  cases hq:kindM m.k
  · unfold mayM at hm;rw[hq]at hm;cases hm
  · rfl) hc hp hb ok lo cp pl (by simpa using hlen)) hlen
end Go.Proofs.YtcalkfgibflbnaaGreat
