/- The walks of a coder that writes: writes, pairs, versions, lists. -/
import Derived.Test.YtcalkfgibflbnaaGreatDaaf
namespace Go.Proofs.YtcalkfgibflbnaaGreat
set_option maxHeartbeats 2000000
set_option maxRecDepth 100000
set_option linter.unusedVariables false
open Go.RowKit Fl
attribute [local go_sem] run_store_float
theorem wcWrite:ElemW 90 WtRel 4 encWt:=by
 rintro a w B g v bs gc p _ hc hp-hA ⟨rfl,hk,hv⟩ hlen
 have A0:At w p (keyCells a.key):=hA.sub (a:=[]) (b:=[_]) (c:=[_,_,_])
 have A1:At w ⟨p.block,p.off+1,none⟩ a.v.cells:=hA.sub (a:=[_]) (b:=[_,_,_]) (c:=[])
 have hl:(encWt a).length=(encKy a.key).length+(encVl a.v).length:=by unfold encWt;simp
 go_enter Tryz.func90,Tryz.ntmps90
 go_wp2_with fail
 refine(wcText _ w B g v bs gc p _ hc hp rfl A0 ⟨rfl,hk⟩ (by omega)).mono ?_
 rintro e w1 ⟨rfl,v1,hc1,hf1⟩
 have hp1:=hf1.apt hp
 have A1':=hf1.at_ (p:=⟨p.block,p.off+1,none⟩) hp A1
 go_wp2_with fail
 refine(wcValue _ w1 B g v1 _ gc ⟨p.block,p.off+1,none⟩ _ hc1 hp1 rfl A1' ⟨rfl,hv⟩ (by rw[List.length_append];omega)).mono ?_
 rintro e w2 ⟨rfl,v2,hc2,hf2⟩
 go_wp2
 go_end0
 refine⟨rfl,v2,?_,hf1.trans hf2⟩
 unfold encWt
 simpa only[List.append_assoc] using hc2
theorem wcPair:ElemW 201 WtRel 4 encWt:=by
 rintro a w B g v bs gc p _ hc hp-hA ⟨rfl,hk,hv⟩ hlen
 have A0:At w p (keyCells a.key):=hA.sub (a:=[]) (b:=[_]) (c:=[_,_,_])
 have A1:At w ⟨p.block,p.off+1,none⟩ a.v.cells:=hA.sub (a:=[_]) (b:=[_,_,_]) (c:=[])
 have hl:(encWt a).length=(encKy a.key).length+(encVl a.v).length:=by unfold encWt;simp
 go_enter Tryz.func201,Tryz.ntmps201
 go_wp2_with fail
 refine(wcText _ w B g v bs gc p _ hc hp rfl A0 ⟨rfl,hk⟩ (by omega)).mono ?_
 rintro e w1 ⟨rfl,v1,hc1,hf1⟩
 have hp1:=hf1.apt hp
 have A1':=hf1.at_ (p:=⟨p.block,p.off+1,none⟩) hp A1
 go_wp2_with fail
 refine(wcValue _ w1 B g v1 _ gc ⟨p.block,p.off+1,none⟩ _ hc1 hp1 rfl A1' ⟨rfl,hv⟩ (by rw[List.length_append];omega)).mono ?_
 rintro e w2 ⟨rfl,v2,hc2,hf2⟩
 go_wp2
 go_end0
 refine⟨rfl,v2,?_,hf1.trans hf2⟩
 unfold encWt
 simpa only[List.append_assoc] using hc2
theorem wcVersion:ElemW 193 VnRel 6 encVn:=by
 rintro a w B g v bs gc p _ hc hp-hA ⟨rfl,hs,hv⟩ hlen
 have A0:At w p [.int .i64 a.s.w,.int .i64 a.s.l,.int .i64 a.s.n]:=hA.sub (a:=[]) (b:=[_,_,_]) (c:=[_,_,_])
 have A1:At w ⟨p.block,p.off+3,none⟩ a.v.cells:=hA.sub (a:=[_,_,_]) (b:=[_,_,_]) (c:=[])
 have hl:(encVn a).length=(encSp a.s).length+(encVl a.v).length:=by unfold encVn;simp
 go_enter Tryz.func193,Tryz.ntmps193
 go_wp2_with fail
 refine(wcStamp _ w B g v bs gc p _ hc hp rfl A0 ⟨rfl,hs⟩ (by omega)).mono ?_
 rintro e w1 ⟨rfl,v1,hc1,hf1⟩
 have hp1:=hf1.apt hp
 have A1':=hf1.at_ (p:=⟨p.block,p.off+3,none⟩) hp A1
 go_wp2_with fail
 refine(wcValue _ w1 B g v1 _ gc ⟨p.block,p.off+3,none⟩ _ hc1 hp1 rfl A1' ⟨rfl,hv⟩ (by rw[List.length_append];omega)).mono ?_
 rintro e w2 ⟨rfl,v2,hc2,hf2⟩
 go_wp2
 go_end0
 refine⟨rfl,v2,?_,hf1.trans hf2⟩
 unfold encVn
 simpa only[List.append_assoc] using hc2
theorem wlInt (l:List Int) (A:Option Addr) (n c:Nat) (w:World) (B g:Nat) (v:Value) (bs:List UInt8) (gc:Nat) (p:Addr) (hc:CW w B g v bs gc) (hp:Apt w g v p.block) (hA:w.cell? p=some (.slice A n c)) (hcm:n≤maxLen)
 (hS:Sl NmRel 1 w B A n l) (hlen:bs.length+(encLs encI l).length+10≤1000000000000):
 Calls Tryz.prog 137 #[.pointer (some ⟨gc,0,none⟩),.pointer (some p),.func (.func 81) #[.pointer (some ⟨gc,0,none⟩)] #[]] w (CPost w B g v bs gc (encLs encI l)):=by
 unfold maxLen at hcm
 have hln:l.length=n:=hS.1
 have hle:l.length≤n:=by omega
 have hge:n≤l.length:=by omega
 have HL:=Lib.hid hlen
 have HN:=Lib.hid hln
 have hlt0:(encLs encI l).length=(encI (n:Int)).length+(l.flatMap encI).length:=by unfold encLs;rw[List.length_append,hln]
 have HT:=Lib.hid hlt0
 have h0:bs.length+10≤1000000000000:=by omega
 have hn0:(0:Int)≤(n:Int):=by omega
 clear hlen hln hlt0
 have c0:=hc.blk.cell 0
 simp only[List.getElem?_toArray,List.getElem?_cons_zero]at c0
 go_enter Tryz.func137,Tryz.ntmps137
 go_wp2_with fail
 refine(wint g n v bs B w hc.wr hc.hB (by omega) (by omega) h0).mono ?_
 rintro e w1 ⟨rfl,v1,hw1,hf1⟩
 have hc1:=hc.step hw1 hf1
 have hp1:=hf1.apt hp
 have hS1:=hS.below NmRel.kept (hc.lo hf1)
 have hA1:w1.cell? p=some (.slice A n c):=(World.cell?_of_block (w:=w) (w':=w1) (hf1.heap hp)).trans hA
 clear hc hp hS hA c0 h0 hw1
 have c0:=cl (hc1.blk.cell 0)
 go_wp2_with fail
 go_loopw [39] (fun i wr=>∃(k:Nat) (v2:Value),k≤n∧i=.int .i64 (k:Int)∧CW wr B g v2 (bs++(encI (n:Int)++(l.take k).flatMap encI)) gc∧Foot w1 wr g v1 v2) (fun i _=>n-(intOf i).toNat)
 case atStart=>exact⟨0,v1,by omega,rfl,by simpa using hc1,Foot.refl _ _ _⟩
 case round=>
  obtain⟨k,v2,hk,rfl,hc2,hf2⟩:=hrel
  have hp2:=hf2.apt hp1
  have hA2:wr.cell? p=some (.slice A n c):=(World.cell?_of_block (w:=w1) (w':=wr) (hf2.heap hp1)).trans hA1
  have d0:=cl (hc2.blk.cell 0)
  by_cases hlt:k<n
  · have hS2:=hS1.below NmRel.kept (hc1.lo hf2)
    obtain⟨ad,cs,a,rfl,ha,hb,hcl,hcs,hr⟩:=hS2.at_ hlt
    have hd1:decide ((k:Int)<(n:Int))=true:=by simp;omega
    have hk0:(0:Int)≤(k:Int):=by omega
    have hk1:(k:Int)<(n:Int):=by omega
    have HX:=Lib.hid (flat_snoc encI ha)
    have hfl:=flat_take_le encI l (k+1)
    have hfl2:((l.take k).flatMap encI).length+(encI a).length≤(l.flatMap encI).length:=by rw[HX.out,List.length_append]at hfl;exact hfl
    have hAt:At wr (ad.add k) cs:=fun j u hj=>by rw[add_of_add];exact(by have h:=hcs j u hj;rwa [Nat.mul_one]at h)
    have hbk:(ad.add k).block<B:=by rw[block_of_add];exact hb
    have HK:=Lib.hid hfl2
    clear hfl hfl2 ha hb hcs
    go_wp2_with fail
    refine(wcInt a wr B g v2 _ gc (ad.add k) cs hc2 (Apt.low hc2 hbk) hcl hAt hr (by have h1:=HL.out;rw[HT.out]at h1;have h2:=HK.out;simp only[List.length_append];omega)).mono ?_
    rintro e w3 ⟨rfl,v3,hc3,hf3⟩
    go_wp2_with fail
    go_roundw
    case rel=>
        refine⟨k+1,v3,by omega,by go_num,?_,hf2.trans hf3⟩
        rw[HX.out]
        simpa only[List.append_assoc] using hc3
    case measure=>simp[intOf];omega
  · have hd1:decide ((k:Int)<(n:Int))=false:=by simp;omega
    go_wp2_with fail
    go_end0
    refine⟨rfl,v2,?_,hf1.trans hf2⟩
    unfold encLs
    rw[HN.out,←flat_all encI (k:=k) (by omega)]
    exact hc2
theorem wlText (l:List ByteArray) (A:Option Addr) (n c:Nat) (w:World) (B g:Nat) (v:Value) (bs:List UInt8) (gc:Nat) (p:Addr) (hc:CW w B g v bs gc) (hp:Apt w g v p.block) (hA:w.cell? p=some (.slice A n c)) (hcm:n≤maxLen)
 (hS:Sl KyRel 1 w B A n l) (hlen:bs.length+(encLs encKy l).length+10≤1000000000000):
 Calls Tryz.prog 131 #[.pointer (some ⟨gc,0,none⟩),.pointer (some p),.func (.func 132) #[.pointer (some ⟨gc,0,none⟩)] #[]] w (CPost w B g v bs gc (encLs encKy l)):=by
 unfold maxLen at hcm
 have hln:l.length=n:=hS.1
 have hle:l.length≤n:=by omega
 have hge:n≤l.length:=by omega
 have HL:=Lib.hid hlen
 have HN:=Lib.hid hln
 have hlt0:(encLs encKy l).length=(encI (n:Int)).length+(l.flatMap encKy).length:=by unfold encLs;rw[List.length_append,hln]
 have HT:=Lib.hid hlt0
 have h0:bs.length+10≤1000000000000:=by omega
 have hn0:(0:Int)≤(n:Int):=by omega
 clear hlen hln hlt0
 have c0:=hc.blk.cell 0
 simp only[List.getElem?_toArray,List.getElem?_cons_zero]at c0
 go_enter Tryz.func131,Tryz.ntmps131
 go_wp2_with fail
 refine(wint g n v bs B w hc.wr hc.hB (by omega) (by omega) h0).mono ?_
 rintro e w1 ⟨rfl,v1,hw1,hf1⟩
 have hc1:=hc.step hw1 hf1
 have hp1:=hf1.apt hp
 have hS1:=hS.below KyRel.kept (hc.lo hf1)
 have hA1:w1.cell? p=some (.slice A n c):=(World.cell?_of_block (w:=w) (w':=w1) (hf1.heap hp)).trans hA
 clear hc hp hS hA c0 h0 hw1
 have c0:=cl (hc1.blk.cell 0)
 go_wp2_with fail
 go_loopw [39] (fun i wr=>∃(k:Nat) (v2:Value),k≤n∧i=.int .i64 (k:Int)∧CW wr B g v2 (bs++(encI (n:Int)++(l.take k).flatMap encKy)) gc∧Foot w1 wr g v1 v2) (fun i _=>n-(intOf i).toNat)
 case atStart=>exact⟨0,v1,by omega,rfl,by simpa using hc1,Foot.refl _ _ _⟩
 case round=>
  obtain⟨k,v2,hk,rfl,hc2,hf2⟩:=hrel
  have hp2:=hf2.apt hp1
  have hA2:wr.cell? p=some (.slice A n c):=(World.cell?_of_block (w:=w1) (w':=wr) (hf2.heap hp1)).trans hA1
  have d0:=cl (hc2.blk.cell 0)
  by_cases hlt:k<n
  · have hS2:=hS1.below KyRel.kept (hc1.lo hf2)
    obtain⟨ad,cs,a,rfl,ha,hb,hcl,hcs,hr⟩:=hS2.at_ hlt
    have hd1:decide ((k:Int)<(n:Int))=true:=by simp;omega
    have hk0:(0:Int)≤(k:Int):=by omega
    have hk1:(k:Int)<(n:Int):=by omega
    have HX:=Lib.hid (flat_snoc encKy ha)
    have hfl:=flat_take_le encKy l (k+1)
    have hfl2:((l.take k).flatMap encKy).length+(encKy a).length≤(l.flatMap encKy).length:=by rw[HX.out,List.length_append]at hfl;exact hfl
    have hAt:At wr (ad.add k) cs:=fun j u hj=>by rw[add_of_add];exact(by have h:=hcs j u hj;rwa [Nat.mul_one]at h)
    have hbk:(ad.add k).block<B:=by rw[block_of_add];exact hb
    have HK:=Lib.hid hfl2
    clear hfl hfl2 ha hb hcs
    go_wp2_with fail
    refine(wcText a wr B g v2 _ gc (ad.add k) cs hc2 (Apt.low hc2 hbk) hcl hAt hr (by have h1:=HL.out;rw[HT.out]at h1;have h2:=HK.out;simp only[List.length_append];omega)).mono ?_
    rintro e w3 ⟨rfl,v3,hc3,hf3⟩
    go_wp2_with fail
    go_roundw
    case rel=>
        refine⟨k+1,v3,by omega,by go_num,?_,hf2.trans hf3⟩
        rw[HX.out]
        simpa only[List.append_assoc] using hc3
    case measure=>simp[intOf];omega
  · have hd1:decide ((k:Int)<(n:Int))=false:=by simp;omega
    go_wp2_with fail
    go_end0
    refine⟨rfl,v2,?_,hf1.trans hf2⟩
    unfold encLs
    rw[HN.out,←flat_all encKy (k:=k) (by omega)]
    exact hc2
theorem wlWrite (l:List Wt) (A:Option Addr) (n c:Nat) (w:World) (B g:Nat) (v:Value) (bs:List UInt8) (gc:Nat) (p:Addr) (hc:CW w B g v bs gc) (hp:Apt w g v p.block) (hA:w.cell? p=some (.slice A n c)) (hcm:n≤maxLen)
 (hS:Sl WtRel 4 w B A n l) (hlen:bs.length+(encLs encWt l).length+10≤1000000000000):
 Calls Tryz.prog 89 #[.pointer (some ⟨gc,0,none⟩),.pointer (some p),.func (.func 90) #[.pointer (some ⟨gc,0,none⟩)] #[]] w (CPost w B g v bs gc (encLs encWt l)):=by
 unfold maxLen at hcm
 have hln:l.length=n:=hS.1
 have hle:l.length≤n:=by omega
 have hge:n≤l.length:=by omega
 have HL:=Lib.hid hlen
 have HN:=Lib.hid hln
 have hlt0:(encLs encWt l).length=(encI (n:Int)).length+(l.flatMap encWt).length:=by unfold encLs;rw[List.length_append,hln]
 have HT:=Lib.hid hlt0
 have h0:bs.length+10≤1000000000000:=by omega
 have hn0:(0:Int)≤(n:Int):=by omega
 clear hlen hln hlt0
 have c0:=hc.blk.cell 0
 simp only[List.getElem?_toArray,List.getElem?_cons_zero]at c0
 go_enter Tryz.func89,Tryz.ntmps89
 go_wp2_with fail
 refine(wint g n v bs B w hc.wr hc.hB (by omega) (by omega) h0).mono ?_
 rintro e w1 ⟨rfl,v1,hw1,hf1⟩
 have hc1:=hc.step hw1 hf1
 have hp1:=hf1.apt hp
 have hS1:=hS.below WtRel.kept (hc.lo hf1)
 have hA1:w1.cell? p=some (.slice A n c):=(World.cell?_of_block (w:=w) (w':=w1) (hf1.heap hp)).trans hA
 clear hc hp hS hA c0 h0 hw1
 have c0:=cl (hc1.blk.cell 0)
 go_wp2_with fail
 go_loopw [39] (fun i wr=>∃(k:Nat) (v2:Value),k≤n∧i=.int .i64 (k:Int)∧CW wr B g v2 (bs++(encI (n:Int)++(l.take k).flatMap encWt)) gc∧Foot w1 wr g v1 v2) (fun i _=>n-(intOf i).toNat)
 case atStart=>exact⟨0,v1,by omega,rfl,by simpa using hc1,Foot.refl _ _ _⟩
 case round=>
  obtain⟨k,v2,hk,rfl,hc2,hf2⟩:=hrel
  have hp2:=hf2.apt hp1
  have hA2:wr.cell? p=some (.slice A n c):=(World.cell?_of_block (w:=w1) (w':=wr) (hf2.heap hp1)).trans hA1
  have d0:=cl (hc2.blk.cell 0)
  by_cases hlt:k<n
  · have hS2:=hS1.below WtRel.kept (hc1.lo hf2)
    obtain⟨ad,cs,a,rfl,ha,hb,hcl,hcs,hr⟩:=hS2.at_ hlt
    have hd1:decide ((k:Int)<(n:Int))=true:=by simp;omega
    have hk0:(0:Int)≤(k:Int):=by omega
    have hk1:(k:Int)<(n:Int):=by omega
    have HX:=Lib.hid (flat_snoc encWt ha)
    have hfl:=flat_take_le encWt l (k+1)
    have hfl2:((l.take k).flatMap encWt).length+(encWt a).length≤(l.flatMap encWt).length:=by rw[HX.out,List.length_append]at hfl;exact hfl
    have hAt:At wr (ad.add (k*4)) cs:=fun j u hj=>by rw[add_of_add];exact hcs j u hj
    have hbk:(ad.add (k*4)).block<B:=by rw[block_of_add];exact hb
    have HK:=Lib.hid hfl2
    clear hfl hfl2 ha hb hcs
    go_wp2_with fail
    refine(wcWrite a wr B g v2 _ gc (ad.add (k*4)) cs hc2 (Apt.low hc2 hbk) hcl hAt hr (by have h1:=HL.out;rw[HT.out]at h1;have h2:=HK.out;simp only[List.length_append];omega)).mono ?_
    rintro e w3 ⟨rfl,v3,hc3,hf3⟩
    go_wp2_with fail
    go_roundw
    case rel=>
        refine⟨k+1,v3,by omega,by go_num,?_,hf2.trans hf3⟩
        rw[HX.out]
        simpa only[List.append_assoc] using hc3
    case measure=>simp[intOf];omega
  · have hd1:decide ((k:Int)<(n:Int))=false:=by simp;omega
    go_wp2_with fail
    go_end0
    refine⟨rfl,v2,?_,hf1.trans hf2⟩
    unfold encLs
    rw[HN.out,←flat_all encWt (k:=k) (by omega)]
    exact hc2
theorem wlPair (l:List Wt) (A:Option Addr) (n c:Nat) (w:World) (B g:Nat) (v:Value) (bs:List UInt8) (gc:Nat) (p:Addr) (hc:CW w B g v bs gc) (hp:Apt w g v p.block) (hA:w.cell? p=some (.slice A n c)) (hcm:n≤maxLen)
 (hS:Sl WtRel 4 w B A n l) (hlen:bs.length+(encLs encWt l).length+10≤1000000000000):
 Calls Tryz.prog 200 #[.pointer (some ⟨gc,0,none⟩),.pointer (some p),.func (.func 201) #[.pointer (some ⟨gc,0,none⟩)] #[]] w (CPost w B g v bs gc (encLs encWt l)):=by
 unfold maxLen at hcm
 have hln:l.length=n:=hS.1
 have hle:l.length≤n:=by omega
 have hge:n≤l.length:=by omega
 have HL:=Lib.hid hlen
 have HN:=Lib.hid hln
 have hlt0:(encLs encWt l).length=(encI (n:Int)).length+(l.flatMap encWt).length:=by unfold encLs;rw[List.length_append,hln]
 have HT:=Lib.hid hlt0
 have h0:bs.length+10≤1000000000000:=by omega
 have hn0:(0:Int)≤(n:Int):=by omega
 clear hlen hln hlt0
 have c0:=hc.blk.cell 0
 simp only[List.getElem?_toArray,List.getElem?_cons_zero]at c0
 go_enter Tryz.func200,Tryz.ntmps200
 go_wp2_with fail
 refine(wint g n v bs B w hc.wr hc.hB (by omega) (by omega) h0).mono ?_
 rintro e w1 ⟨rfl,v1,hw1,hf1⟩
 have hc1:=hc.step hw1 hf1
 have hp1:=hf1.apt hp
 have hS1:=hS.below WtRel.kept (hc.lo hf1)
 have hA1:w1.cell? p=some (.slice A n c):=(World.cell?_of_block (w:=w) (w':=w1) (hf1.heap hp)).trans hA
 clear hc hp hS hA c0 h0 hw1
 have c0:=cl (hc1.blk.cell 0)
 go_wp2_with fail
 go_loopw [39] (fun i wr=>∃(k:Nat) (v2:Value),k≤n∧i=.int .i64 (k:Int)∧CW wr B g v2 (bs++(encI (n:Int)++(l.take k).flatMap encWt)) gc∧Foot w1 wr g v1 v2) (fun i _=>n-(intOf i).toNat)
 case atStart=>exact⟨0,v1,by omega,rfl,by simpa using hc1,Foot.refl _ _ _⟩
 case round=>
  obtain⟨k,v2,hk,rfl,hc2,hf2⟩:=hrel
  have hp2:=hf2.apt hp1
  have hA2:wr.cell? p=some (.slice A n c):=(World.cell?_of_block (w:=w1) (w':=wr) (hf2.heap hp1)).trans hA1
  have d0:=cl (hc2.blk.cell 0)
  by_cases hlt:k<n
  · have hS2:=hS1.below WtRel.kept (hc1.lo hf2)
    obtain⟨ad,cs,a,rfl,ha,hb,hcl,hcs,hr⟩:=hS2.at_ hlt
    have hd1:decide ((k:Int)<(n:Int))=true:=by simp;omega
    have hk0:(0:Int)≤(k:Int):=by omega
    have hk1:(k:Int)<(n:Int):=by omega
    have HX:=Lib.hid (flat_snoc encWt ha)
    have hfl:=flat_take_le encWt l (k+1)
    have hfl2:((l.take k).flatMap encWt).length+(encWt a).length≤(l.flatMap encWt).length:=by rw[HX.out,List.length_append]at hfl;exact hfl
    have hAt:At wr (ad.add (k*4)) cs:=fun j u hj=>by rw[add_of_add];exact hcs j u hj
    have hbk:(ad.add (k*4)).block<B:=by rw[block_of_add];exact hb
    have HK:=Lib.hid hfl2
    clear hfl hfl2 ha hb hcs
    go_wp2_with fail
    refine(wcPair a wr B g v2 _ gc (ad.add (k*4)) cs hc2 (Apt.low hc2 hbk) hcl hAt hr (by have h1:=HL.out;rw[HT.out]at h1;have h2:=HK.out;simp only[List.length_append];omega)).mono ?_
    rintro e w3 ⟨rfl,v3,hc3,hf3⟩
    go_wp2_with fail
    go_roundw
    case rel=>
        refine⟨k+1,v3,by omega,by go_num,?_,hf2.trans hf3⟩
        rw[HX.out]
        simpa only[List.append_assoc] using hc3
    case measure=>simp[intOf];omega
  · have hd1:decide ((k:Int)<(n:Int))=false:=by simp;omega
    go_wp2_with fail
    go_end0
    refine⟨rfl,v2,?_,hf1.trans hf2⟩
    unfold encLs
    rw[HN.out,←flat_all encWt (k:=k) (by omega)]
    exact hc2
theorem wlVersion (l:List Vn) (A:Option Addr) (n c:Nat) (w:World) (B g:Nat) (v:Value) (bs:List UInt8) (gc:Nat) (p:Addr) (hc:CW w B g v bs gc) (hp:Apt w g v p.block) (hA:w.cell? p=some (.slice A n c)) (hcm:n≤maxLen)
 (hS:Sl VnRel 6 w B A n l) (hlen:bs.length+(encLs encVn l).length+10≤1000000000000):
 Calls Tryz.prog 192 #[.pointer (some ⟨gc,0,none⟩),.pointer (some p),.func (.func 193) #[.pointer (some ⟨gc,0,none⟩)] #[]] w (CPost w B g v bs gc (encLs encVn l)):=by
 unfold maxLen at hcm
 have hln:l.length=n:=hS.1
 have hle:l.length≤n:=by omega
 have hge:n≤l.length:=by omega
 have HL:=Lib.hid hlen
 have HN:=Lib.hid hln
 have hlt0:(encLs encVn l).length=(encI (n:Int)).length+(l.flatMap encVn).length:=by unfold encLs;rw[List.length_append,hln]
 have HT:=Lib.hid hlt0
 have h0:bs.length+10≤1000000000000:=by omega
 have hn0:(0:Int)≤(n:Int):=by omega
 clear hlen hln hlt0
 have c0:=hc.blk.cell 0
 simp only[List.getElem?_toArray,List.getElem?_cons_zero]at c0
 go_enter Tryz.func192,Tryz.ntmps192
 go_wp2_with fail
 refine(wint g n v bs B w hc.wr hc.hB (by omega) (by omega) h0).mono ?_
 rintro e w1 ⟨rfl,v1,hw1,hf1⟩
 have hc1:=hc.step hw1 hf1
 have hp1:=hf1.apt hp
 have hS1:=hS.below VnRel.kept (hc.lo hf1)
 have hA1:w1.cell? p=some (.slice A n c):=(World.cell?_of_block (w:=w) (w':=w1) (hf1.heap hp)).trans hA
 clear hc hp hS hA c0 h0 hw1
 have c0:=cl (hc1.blk.cell 0)
 go_wp2_with fail
 go_loopw [39] (fun i wr=>∃(k:Nat) (v2:Value),k≤n∧i=.int .i64 (k:Int)∧CW wr B g v2 (bs++(encI (n:Int)++(l.take k).flatMap encVn)) gc∧Foot w1 wr g v1 v2) (fun i _=>n-(intOf i).toNat)
 case atStart=>exact⟨0,v1,by omega,rfl,by simpa using hc1,Foot.refl _ _ _⟩
 case round=>
  obtain⟨k,v2,hk,rfl,hc2,hf2⟩:=hrel
  have hp2:=hf2.apt hp1
  have hA2:wr.cell? p=some (.slice A n c):=(World.cell?_of_block (w:=w1) (w':=wr) (hf2.heap hp1)).trans hA1
  have d0:=cl (hc2.blk.cell 0)
  by_cases hlt:k<n
  · have hS2:=hS1.below VnRel.kept (hc1.lo hf2)
    obtain⟨ad,cs,a,rfl,ha,hb,hcl,hcs,hr⟩:=hS2.at_ hlt
    have hd1:decide ((k:Int)<(n:Int))=true:=by simp;omega
    have hk0:(0:Int)≤(k:Int):=by omega
    have hk1:(k:Int)<(n:Int):=by omega
    have HX:=Lib.hid (flat_snoc encVn ha)
    have hfl:=flat_take_le encVn l (k+1)
    have hfl2:((l.take k).flatMap encVn).length+(encVn a).length≤(l.flatMap encVn).length:=by rw[HX.out,List.length_append]at hfl;exact hfl
    have hAt:At wr (ad.add (k*6)) cs:=fun j u hj=>by rw[add_of_add];exact hcs j u hj
    have hbk:(ad.add (k*6)).block<B:=by rw[block_of_add];exact hb
    have HK:=Lib.hid hfl2
    clear hfl hfl2 ha hb hcs
    go_wp2_with fail
    refine(wcVersion a wr B g v2 _ gc (ad.add (k*6)) cs hc2 (Apt.low hc2 hbk) hcl hAt hr (by have h1:=HL.out;rw[HT.out]at h1;have h2:=HK.out;simp only[List.length_append];omega)).mono ?_
    rintro e w3 ⟨rfl,v3,hc3,hf3⟩
    go_wp2_with fail
    go_roundw
    case rel=>
        refine⟨k+1,v3,by omega,by go_num,?_,hf2.trans hf3⟩
        rw[HX.out]
        simpa only[List.append_assoc] using hc3
    case measure=>simp[intOf];omega
  · have hd1:decide ((k:Int)<(n:Int))=false:=by simp;omega
    go_wp2_with fail
    go_end0
    refine⟨rfl,v2,?_,hf1.trans hf2⟩
    unfold encLs
    rw[HN.out,←flat_all encVn (k:=k) (by omega)]
    exact hc2
end Go.Proofs.YtcalkfgibflbnaaGreat
