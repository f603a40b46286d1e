/- The walks of a coder that writes: histories, pending ones, ranges, states. -/
import Derived.Test.YtcalkfgibflbnaaGreatDaah
namespace Go.Proofs.YtcalkfgibflbnaaGreat
set_option maxHeartbeats 2000000
set_option maxRecDepth 100000
set_option linter.unusedVariables false
open Go.RowKit Fl
attribute [local go_sem] run_store_float
theorem wcHistory:ElemW 143 HsRel 2 encHs:=by
 rintro a w B g v bs gc p _ hc hp-hA ⟨v0,rfl,hk,A',n',c',rfl,q1,q2,q3⟩ hlen
 have A0:At w p (keyCells a.key):=hA.sub (a:=[]) (b:=[_]) (c:=[_])
 have A1:At w ⟨p.block,p.off+1,none⟩ [.slice A' n' c']:=hA.sub (a:=[_]) (b:=[_]) (c:=[])
 have hl:(encHs a).length=(encKy a.key).length+((encLs encVn a.vs).length):=by unfold encHs;simp only[List.length_append]
 clear hA
 go_enter Tryz.func143,Tryz.ntmps143
 go_wp2_with fail
 refine(wcText _ w B g v bs gc p _ hc hp rfl A0 ⟨rfl,hk⟩ (by omega)).mono ?_
 rintro e w1 ⟨rfl,v1,hc1,hf1⟩
 have hp1:=hf1.apt hp
 replace A1:=hf1.at_ (p:=⟨p.block,p.off+1,none⟩) hp A1
 replace q3:=q3.below VnRel.kept (hc.lo hf1)
 go_wp2_with fail
 refine(wlVersion _ _ _ _ w1 B g v1 _ gc ⟨p.block,p.off+1,none⟩ hc1 hp1 A1.head (Nat.le_trans q1 q2) q3 (by simp only[List.length_append];omega)).mono ?_
 rintro e w2 ⟨rfl,v2,hc2,hf2⟩
 go_wp2
 go_end0
 refine⟨rfl,v2,?_,(hf1).trans hf2⟩
 unfold encHs
 simpa only[List.append_assoc] using hc2
theorem wlHistory (l:List Hs) (A:Option Addr) (n c:Nat) (w:World) (B g:Nat) (v:Value) (bs:List UInt8) (gc:Nat) (p:Addr) (hc:CW w B g v bs gc) (hp:Apt w g v p.block) (hA:w.cell? p=some (.slice A n c)) (hcm:n≤maxLen)
 (hS:Sl HsRel 2 w B A n l) (hlen:bs.length+(encLs encHs l).length+10≤1000000000000):
 Calls Tryz.prog 142 #[.pointer (some ⟨gc,0,none⟩),.pointer (some p),.func (.func 143) #[.pointer (some ⟨gc,0,none⟩)] #[]] w (CPost w B g v bs gc (encLs encHs l)):=by
 unfold maxLen at hcm
 have hln:l.length=n:=hS.1
 have hle:l.length≤n:=by omega
 have hge:n≤l.length:=by omega
 have HL:=Lib.hid hlen
 have HN:=Lib.hid hln
 have hlt0:(encLs encHs l).length=(encI (n:Int)).length+(l.flatMap encHs).length:=by unfold encLs;rw[List.length_append,hln]
 have HT:=Lib.hid hlt0
 have h0:bs.length+10≤1000000000000:=by omega
 have hn0:(0:Int)≤(n:Int):=by omega
 clear hlen hln hlt0
 have c0:=hc.blk.cell 0
 simp only[List.getElem?_toArray,List.getElem?_cons_zero]at c0
 go_enter Tryz.func142,Tryz.ntmps142
 go_wp2_with fail
 refine(wint g n v bs B w hc.wr hc.hB (by omega) (by omega) h0).mono ?_
 rintro e w1 ⟨rfl,v1,hw1,hf1⟩
 have hc1:=hc.step hw1 hf1
 have hp1:=hf1.apt hp
 have hS1:=hS.below HsRel.kept (hc.lo hf1)
 have hA1:w1.cell? p=some (.slice A n c):=(World.cell?_of_block (w:=w) (w':=w1) (hf1.heap hp)).trans hA
 clear hc hp hS hA c0 h0 hw1
 have c0:=cl (hc1.blk.cell 0)
 go_wp2_with fail
 go_loopw [39] (fun i wr=>∃(k:Nat) (v2:Value),k≤n∧i=.int .i64 (k:Int)∧CW wr B g v2 (bs++(encI (n:Int)++(l.take k).flatMap encHs)) gc∧Foot w1 wr g v1 v2) (fun i _=>n-(intOf i).toNat)
 case atStart=>exact⟨0,v1,by omega,rfl,by simpa using hc1,Foot.refl _ _ _⟩
 case round=>
  obtain⟨k,v2,hk,rfl,hc2,hf2⟩:=hrel
  have hp2:=hf2.apt hp1
  have hA2:wr.cell? p=some (.slice A n c):=(World.cell?_of_block (w:=w1) (w':=wr) (hf2.heap hp1)).trans hA1
  have d0:=cl (hc2.blk.cell 0)
  by_cases hlt:k<n
  · have hS2:=hS1.below HsRel.kept (hc1.lo hf2)
    obtain⟨ad,cs,a,rfl,ha,hb,hcl,hcs,hr⟩:=hS2.at_ hlt
    have hd1:decide ((k:Int)<(n:Int))=true:=by simp;omega
    have hk0:(0:Int)≤(k:Int):=by omega
    have hk1:(k:Int)<(n:Int):=by omega
    have HX:=Lib.hid (flat_snoc encHs ha)
    have hfl:=flat_take_le encHs l (k+1)
    have hfl2:((l.take k).flatMap encHs).length+(encHs a).length≤(l.flatMap encHs).length:=by rw[HX.out,List.length_append]at hfl;exact hfl
    have hAt:At wr (ad.add (k*2)) cs:=fun j u hj=>by rw[add_of_add];exact hcs j u hj
    have hbk:(ad.add (k*2)).block<B:=by rw[block_of_add];exact hb
    have HK:=Lib.hid hfl2
    clear hfl hfl2 ha hb hcs
    go_wp2_with fail
    refine(wcHistory a wr B g v2 _ gc (ad.add (k*2)) cs hc2 (Apt.low hc2 hbk) hcl hAt hr (by have h1:=HL.out;rw[HT.out]at h1;have h2:=HK.out;simp only[List.length_append];omega)).mono ?_
    rintro e w3 ⟨rfl,v3,hc3,hf3⟩
    go_wp2_with fail
    go_roundw
    case rel=>
        refine⟨k+1,v3,by omega,by go_num,?_,hf2.trans hf3⟩
        rw[HX.out]
        simpa only[List.append_assoc] using hc3
    case measure=>simp[intOf];omega
  · have hd1:decide ((k:Int)<(n:Int))=false:=by simp;omega
    go_wp2_with fail
    go_end0
    refine⟨rfl,v2,?_,hf1.trans hf2⟩
    unfold encLs
    rw[HN.out,←flat_all encHs (k:=k) (by omega)]
    exact hc2
theorem wcPending:ElemW 145 PnRel 8 encPn:=by
 rintro a w B g v bs gc p _ hc hp-hA ⟨v0,v0',rfl,ht,hs,⟨A1',n1,c1',rfl,q1,q2,q3⟩,A2',n2,c2',rfl,r1,r2,r3⟩ hlen
 have A0:At w p [.int .i64 a.t.c,.int .i64 a.t.l,.int .i64 a.t.s]:=hA.sub (a:=[]) (b:=[_,_,_]) (c:=[_,_,_,_,_])
 have A1:At w ⟨p.block,p.off+3,none⟩ [.int .i64 a.s.w,.int .i64 a.s.l,.int .i64 a.s.n]:=hA.sub (a:=[_,_,_]) (b:=[_,_,_]) (c:=[_,_])
 have A2:At w ⟨p.block,p.off+6,none⟩ [.slice A1' n1 c1']:=hA.sub (a:=[_,_,_,_,_,_]) (b:=[_]) (c:=[_])
 have A3:At w ⟨p.block,p.off+7,none⟩ [.slice A2' n2 c2']:=hA.sub (a:=[_,_,_,_,_,_,_]) (b:=[_]) (c:=[])
 have hl:(encPn a).length=(encTx a.t).length+((encSp a.s).length+((encLs encKy a.r).length+((encLs encWt a.w).length))):=by unfold encPn;simp only[List.length_append]
 clear hA
 go_enter Tryz.func145,Tryz.ntmps145
 go_wp2_with fail
 refine(wcTxn _ w B g v bs gc p _ hc hp rfl A0 ⟨rfl,ht⟩ (by omega)).mono ?_
 rintro e w1 ⟨rfl,v1,hc1,hf1⟩
 have hp1:=hf1.apt hp
 replace A1:=hf1.at_ (p:=⟨p.block,p.off+3,none⟩) hp A1
 replace A2:=hf1.at_ (p:=⟨p.block,p.off+6,none⟩) hp A2
 replace q3:=q3.below KyRel.kept (hc.lo hf1)
 replace A3:=hf1.at_ (p:=⟨p.block,p.off+7,none⟩) hp A3
 replace r3:=r3.below WtRel.kept (hc.lo hf1)
 go_wp2_with fail
 refine(wcStamp _ w1 B g v1 _ gc ⟨p.block,p.off+3,none⟩ _ hc1 hp1 rfl A1 ⟨rfl,hs⟩ (by simp only[List.length_append];omega)).mono ?_
 rintro e w2 ⟨rfl,v2,hc2,hf2⟩
 have hp2:=hf2.apt hp1
 replace A2:=hf2.at_ (p:=⟨p.block,p.off+6,none⟩) hp1 A2
 replace q3:=q3.below KyRel.kept (hc1.lo hf2)
 replace A3:=hf2.at_ (p:=⟨p.block,p.off+7,none⟩) hp1 A3
 replace r3:=r3.below WtRel.kept (hc1.lo hf2)
 go_wp2_with fail
 refine(wlText _ _ _ _ w2 B g v2 _ gc ⟨p.block,p.off+6,none⟩ hc2 hp2 A2.head (Nat.le_trans q1 q2) q3 (by simp only[List.length_append];omega)).mono ?_
 rintro e w3 ⟨rfl,v3,hc3,hf3⟩
 have hp3:=hf3.apt hp2
 replace A3:=hf3.at_ (p:=⟨p.block,p.off+7,none⟩) hp2 A3
 replace r3:=r3.below WtRel.kept (hc2.lo hf3)
 go_wp2_with fail
 refine(wlWrite _ _ _ _ w3 B g v3 _ gc ⟨p.block,p.off+7,none⟩ hc3 hp3 A3.head (Nat.le_trans r1 r2) r3 (by simp only[List.length_append];omega)).mono ?_
 rintro e w4 ⟨rfl,v4,hc4,hf4⟩
 go_wp2
 go_end0
 refine⟨rfl,v4,?_,(((hf1).trans hf2).trans hf3).trans hf4⟩
 unfold encPn
 simpa only[List.append_assoc] using hc4
theorem wlPending (l:List Pn) (A:Option Addr) (n c:Nat) (w:World) (B g:Nat) (v:Value) (bs:List UInt8) (gc:Nat) (p:Addr) (hc:CW w B g v bs gc) (hp:Apt w g v p.block) (hA:w.cell? p=some (.slice A n c)) (hcm:n≤maxLen)
 (hS:Sl PnRel 8 w B A n l) (hlen:bs.length+(encLs encPn l).length+10≤1000000000000):
 Calls Tryz.prog 144 #[.pointer (some ⟨gc,0,none⟩),.pointer (some p),.func (.func 145) #[.pointer (some ⟨gc,0,none⟩)] #[]] w (CPost w B g v bs gc (encLs encPn l)):=by
 unfold maxLen at hcm
 have hln:l.length=n:=hS.1
 have hle:l.length≤n:=by omega
 have hge:n≤l.length:=by omega
 have HL:=Lib.hid hlen
 have HN:=Lib.hid hln
 have hlt0:(encLs encPn l).length=(encI (n:Int)).length+(l.flatMap encPn).length:=by unfold encLs;rw[List.length_append,hln]
 have HT:=Lib.hid hlt0
 have h0:bs.length+10≤1000000000000:=by omega
 have hn0:(0:Int)≤(n:Int):=by omega
 clear hlen hln hlt0
 have c0:=hc.blk.cell 0
 simp only[List.getElem?_toArray,List.getElem?_cons_zero]at c0
 go_enter Tryz.func144,Tryz.ntmps144
 go_wp2_with fail
 refine(wint g n v bs B w hc.wr hc.hB (by omega) (by omega) h0).mono ?_
 rintro e w1 ⟨rfl,v1,hw1,hf1⟩
 have hc1:=hc.step hw1 hf1
 have hp1:=hf1.apt hp
 have hS1:=hS.below PnRel.kept (hc.lo hf1)
 have hA1:w1.cell? p=some (.slice A n c):=(World.cell?_of_block (w:=w) (w':=w1) (hf1.heap hp)).trans hA
 clear hc hp hS hA c0 h0 hw1
 have c0:=cl (hc1.blk.cell 0)
 go_wp2_with fail
 go_loopw [39] (fun i wr=>∃(k:Nat) (v2:Value),k≤n∧i=.int .i64 (k:Int)∧CW wr B g v2 (bs++(encI (n:Int)++(l.take k).flatMap encPn)) gc∧Foot w1 wr g v1 v2) (fun i _=>n-(intOf i).toNat)
 case atStart=>exact⟨0,v1,by omega,rfl,by simpa using hc1,Foot.refl _ _ _⟩
 case round=>
  obtain⟨k,v2,hk,rfl,hc2,hf2⟩:=hrel
  have hp2:=hf2.apt hp1
  have hA2:wr.cell? p=some (.slice A n c):=(World.cell?_of_block (w:=w1) (w':=wr) (hf2.heap hp1)).trans hA1
  have d0:=cl (hc2.blk.cell 0)
  by_cases hlt:k<n
  · have hS2:=hS1.below PnRel.kept (hc1.lo hf2)
    obtain⟨ad,cs,a,rfl,ha,hb,hcl,hcs,hr⟩:=hS2.at_ hlt
    have hd1:decide ((k:Int)<(n:Int))=true:=by simp;omega
    have hk0:(0:Int)≤(k:Int):=by omega
    have hk1:(k:Int)<(n:Int):=by omega
    have HX:=Lib.hid (flat_snoc encPn ha)
    have hfl:=flat_take_le encPn l (k+1)
    have hfl2:((l.take k).flatMap encPn).length+(encPn a).length≤(l.flatMap encPn).length:=by rw[HX.out,List.length_append]at hfl;exact hfl
    have hAt:At wr (ad.add (k*8)) cs:=fun j u hj=>by rw[add_of_add];exact hcs j u hj
    have hbk:(ad.add (k*8)).block<B:=by rw[block_of_add];exact hb
    have HK:=Lib.hid hfl2
    clear hfl hfl2 ha hb hcs
    go_wp2_with fail
    refine(wcPending a wr B g v2 _ gc (ad.add (k*8)) cs hc2 (Apt.low hc2 hbk) hcl hAt hr (by have h1:=HL.out;rw[HT.out]at h1;have h2:=HK.out;simp only[List.length_append];omega)).mono ?_
    rintro e w3 ⟨rfl,v3,hc3,hf3⟩
    go_wp2_with fail
    go_roundw
    case rel=>
        refine⟨k+1,v3,by omega,by go_num,?_,hf2.trans hf3⟩
        rw[HX.out]
        simpa only[List.append_assoc] using hc3
    case measure=>simp[intOf];omega
  · have hd1:decide ((k:Int)<(n:Int))=false:=by simp;omega
    go_wp2_with fail
    go_end0
    refine⟨rfl,v2,?_,hf1.trans hf2⟩
    unfold encLs
    rw[HN.out,←flat_all encPn (k:=k) (by omega)]
    exact hc2
theorem wcRange:ElemW 136 RgRel 4 encRg:=by
 rintro a w B g v bs gc p _ hc hp-hA ⟨rfl,h1,h2,h3,h4⟩ hlen
 have A0:At w p (nmCells a.id):=hA.sub (a:=[]) (b:=[_]) (c:=[_,_,_])
 have A1:At w ⟨p.block,p.off+1,none⟩ (nmCells a.ep):=hA.sub (a:=[_]) (b:=[_]) (c:=[_,_])
 have A2:At w ⟨p.block,p.off+2,none⟩ [.float .f64 a.lo]:=hA.sub (a:=[_,_]) (b:=[_]) (c:=[_])
 have A3:At w ⟨p.block,p.off+3,none⟩ [.float .f64 a.hi]:=hA.sub (a:=[_,_,_]) (b:=[_]) (c:=[])
 have hl:(encRg a).length=(encI a.id).length+((encI a.ep).length+((encF64 a.lo).length+((encF64 a.hi).length))):=by unfold encRg;simp only[List.length_append]
 clear hA
 go_enter Tryz.func136,Tryz.ntmps136
 go_wp2_with fail
 refine(wcInt _ w B g v bs gc p _ hc hp rfl A0 ⟨rfl,h1⟩ (by omega)).mono ?_
 rintro e w1 ⟨rfl,v1,hc1,hf1⟩
 have hp1:=hf1.apt hp
 replace A1:=hf1.at_ (p:=⟨p.block,p.off+1,none⟩) hp A1
 replace A2:=hf1.at_ (p:=⟨p.block,p.off+2,none⟩) hp A2
 replace A3:=hf1.at_ (p:=⟨p.block,p.off+3,none⟩) hp A3
 go_wp2_with fail
 refine(wcInt _ w1 B g v1 _ gc ⟨p.block,p.off+1,none⟩ _ hc1 hp1 rfl A1 ⟨rfl,h2⟩ (by simp only[List.length_append];omega)).mono ?_
 rintro e w2 ⟨rfl,v2,hc2,hf2⟩
 have hp2:=hf2.apt hp1
 replace A2:=hf2.at_ (p:=⟨p.block,p.off+2,none⟩) hp1 A2
 replace A3:=hf2.at_ (p:=⟨p.block,p.off+3,none⟩) hp1 A3
 go_wp2_with fail
 refine(wcFloat _ w2 B g v2 _ gc ⟨p.block,p.off+2,none⟩ _ hc2 hp2 rfl A2 ⟨rfl,h3⟩ (by simp only[List.length_append];omega)).mono ?_
 rintro e w3 ⟨rfl,v3,hc3,hf3⟩
 have hp3:=hf3.apt hp2
 replace A3:=hf3.at_ (p:=⟨p.block,p.off+3,none⟩) hp2 A3
 go_wp2_with fail
 refine(wcFloat _ w3 B g v3 _ gc ⟨p.block,p.off+3,none⟩ _ hc3 hp3 rfl A3 ⟨rfl,h4⟩ (by simp only[List.length_append];omega)).mono ?_
 rintro e w4 ⟨rfl,v4,hc4,hf4⟩
 go_wp2
 go_end0
 refine⟨rfl,v4,?_,(((hf1).trans hf2).trans hf3).trans hf4⟩
 unfold encRg
 simpa only[List.append_assoc] using hc4
theorem wcState:ElemW 88 SttRel 12 encSt:=by
 rintro a w B g v bs gc p _ hc hp-hA ⟨v0,v0',rfl,hr,hs,ht,⟨A1',n1,c1',rfl,q1,q2,q3⟩,A2',n2,c2',rfl,r1,r2,r3⟩ hlen
 have A0:At w p [.int .i64 a.r.id,.int .i64 a.r.ep,.float .f64 a.r.lo,.float .f64 a.r.hi]:=hA.sub (a:=[]) (b:=[_,_,_,_]) (c:=[_,_,_,_,_,_,_,_])
 have A1:At w ⟨p.block,p.off+4,none⟩ [.int .i64 a.f.w,.int .i64 a.f.l,.int .i64 a.f.n]:=hA.sub (a:=[_,_,_,_]) (b:=[_,_,_]) (c:=[_,_,_,_,_])
 have A2:At w ⟨p.block,p.off+7,none⟩ [.int .i64 a.c.w,.int .i64 a.c.l,.int .i64 a.c.n]:=hA.sub (a:=[_,_,_,_,_,_,_]) (b:=[_,_,_]) (c:=[_,_])
 have A3:At w ⟨p.block,p.off+10,none⟩ [.slice A1' n1 c1']:=hA.sub (a:=[_,_,_,_,_,_,_,_,_,_]) (b:=[_]) (c:=[_])
 have A4:At w ⟨p.block,p.off+11,none⟩ [.slice A2' n2 c2']:=hA.sub (a:=[_,_,_,_,_,_,_,_,_,_,_]) (b:=[_]) (c:=[])
 have hl:(encSt a).length=(encRg a.r).length+((encSp a.f).length+((encSp a.c).length+((encLs encHs a.h).length+((encLs encPn a.p).length)))):=by unfold encSt;simp only[List.length_append]
 clear hA
 go_enter Tryz.func88,Tryz.ntmps88
 go_wp2_with fail
 refine(wcRange _ w B g v bs gc p _ hc hp rfl A0 ⟨rfl,hr⟩ (by omega)).mono ?_
 rintro e w1 ⟨rfl,v1,hc1,hf1⟩
 have hp1:=hf1.apt hp
 replace A1:=hf1.at_ (p:=⟨p.block,p.off+4,none⟩) hp A1
 replace A2:=hf1.at_ (p:=⟨p.block,p.off+7,none⟩) hp A2
 replace A3:=hf1.at_ (p:=⟨p.block,p.off+10,none⟩) hp A3
 replace q3:=q3.below HsRel.kept (hc.lo hf1)
 replace A4:=hf1.at_ (p:=⟨p.block,p.off+11,none⟩) hp A4
 replace r3:=r3.below PnRel.kept (hc.lo hf1)
 go_wp2_with fail
 refine(wcStamp _ w1 B g v1 _ gc ⟨p.block,p.off+4,none⟩ _ hc1 hp1 rfl A1 ⟨rfl,hs⟩ (by simp only[List.length_append];omega)).mono ?_
 rintro e w2 ⟨rfl,v2,hc2,hf2⟩
 have hp2:=hf2.apt hp1
 replace A2:=hf2.at_ (p:=⟨p.block,p.off+7,none⟩) hp1 A2
 replace A3:=hf2.at_ (p:=⟨p.block,p.off+10,none⟩) hp1 A3
 replace q3:=q3.below HsRel.kept (hc1.lo hf2)
 replace A4:=hf2.at_ (p:=⟨p.block,p.off+11,none⟩) hp1 A4
 replace r3:=r3.below PnRel.kept (hc1.lo hf2)
 go_wp2_with fail
 refine(wcStamp _ w2 B g v2 _ gc ⟨p.block,p.off+7,none⟩ _ hc2 hp2 rfl A2 ⟨rfl,ht⟩ (by simp only[List.length_append];omega)).mono ?_
 rintro e w3 ⟨rfl,v3,hc3,hf3⟩
 have hp3:=hf3.apt hp2
 replace A3:=hf3.at_ (p:=⟨p.block,p.off+10,none⟩) hp2 A3
 replace q3:=q3.below HsRel.kept (hc2.lo hf3)
 replace A4:=hf3.at_ (p:=⟨p.block,p.off+11,none⟩) hp2 A4
 replace r3:=r3.below PnRel.kept (hc2.lo hf3)
 go_wp2_with fail
 refine(wlHistory _ _ _ _ w3 B g v3 _ gc ⟨p.block,p.off+10,none⟩ hc3 hp3 A3.head (Nat.le_trans q1 q2) q3 (by simp only[List.length_append];omega)).mono ?_
 rintro e w4 ⟨rfl,v4,hc4,hf4⟩
 have hp4:=hf4.apt hp3
 replace A4:=hf4.at_ (p:=⟨p.block,p.off+11,none⟩) hp3 A4
 replace r3:=r3.below PnRel.kept (hc3.lo hf4)
 go_wp2_with fail
 refine(wlPending _ _ _ _ w4 B g v4 _ gc ⟨p.block,p.off+11,none⟩ hc4 hp4 A4.head (Nat.le_trans r1 r2) r3 (by simp only[List.length_append];omega)).mono ?_
 rintro e w5 ⟨rfl,v5,hc5,hf5⟩
 go_wp2
 go_end0
 refine⟨rfl,v5,?_,((((hf1).trans hf2).trans hf3).trans hf4).trans hf5⟩
 unfold encSt
 simpa only[List.append_assoc] using hc5
end Go.Proofs.YtcalkfgibflbnaaGreat
