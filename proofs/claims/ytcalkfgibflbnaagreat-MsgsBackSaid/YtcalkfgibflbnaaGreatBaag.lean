/- The walks of a coder that writes: writes, pairs, versions, lists. -/
import Derived.Test.YtcalkfgibflbnaaGreatBaae
namespace Go.Proofs.YtcalkfgibflbnaaGreat
set_option maxHeartbeats 6000000
set_option maxRecDepth 100000
set_option linter.unusedVariables false
open Go.RowKit Fl
attribute [local go_sem] dJ
theorem aaU:sK 90 aF 4 bP:=by
 rintro a w B g v bs gc p _ hc hp-hA ⟨rfl,hk,hv⟩ hlen;have A0:At w p (gQ a.key):=hA.sub (a:=[]) (b:=[_]) (c:=[_,_,_]);have A1:At w ⟨p.block,p.off+1,none⟩ a.v.cells:=hA.sub (a:=[_]) (b:=[_,_,_]) (c:=[]);have hl:(bP a).length=(bn a.key).length+(eY a.v).length:=by unfold bP;simp
 go_enter Tryz.func90,Tryz.ntmps90;go_wp2_with fail;refine(DT _ w B g v bs gc p _ hc hp rfl A0 ⟨rfl,hk⟩ byOmega).mono ?_;rintro e w1 ⟨rfl,v1,hc1,hf1⟩;have hp1:=hf1.bQ hp;have uQ:=hf1.at_ (p:=⟨p.block,p.off+1,none⟩) hp A1;go_wp2_with fail;refine(Ir _ w1 B g v1 _ gc ⟨p.block,p.off+1,none⟩ _ hc1 hp1 rfl uQ ⟨rfl,hv⟩ (by rw[aK];omega)).mono ?_;rintro e w2 ⟨rfl,v2,hc2,hf2⟩;go_wp2
 go_end0
 refine⟨rfl,v2,?_,hf1.trans hf2⟩;unfold bP;simpa only[List.append_assoc] using hc2
theorem aaV:sK 201 aF 4 bP:=by
 rintro a w B g v bs gc p _ hc hp-hA ⟨rfl,hk,hv⟩ hlen;have A0:At w p (gQ a.key):=hA.sub (a:=[]) (b:=[_]) (c:=[_,_,_]);have A1:At w ⟨p.block,p.off+1,none⟩ a.v.cells:=hA.sub (a:=[_]) (b:=[_,_,_]) (c:=[]);have hl:(bP a).length=(bn a.key).length+(eY a.v).length:=by unfold bP;simp
 go_enter Tryz.func201,Tryz.ntmps201;go_wp2_with fail;refine(DT _ w B g v bs gc p _ hc hp rfl A0 ⟨rfl,hk⟩ byOmega).mono ?_;rintro e w1 ⟨rfl,v1,hc1,hf1⟩;have hp1:=hf1.bQ hp;have uQ:=hf1.at_ (p:=⟨p.block,p.off+1,none⟩) hp A1;go_wp2_with fail;refine(Ir _ w1 B g v1 _ gc ⟨p.block,p.off+1,none⟩ _ hc1 hp1 rfl uQ ⟨rfl,hv⟩ (by rw[aK];omega)).mono ?_;rintro e w2 ⟨rfl,v2,hc2,hf2⟩;go_wp2
 go_end0
 refine⟨rfl,v2,?_,hf1.trans hf2⟩;unfold bP;simpa only[List.append_assoc] using hc2
theorem aaW:sK 193 fC 6 kE:=by
 rintro a w B g v bs gc p _ hc hp-hA ⟨rfl,hs,hv⟩ hlen;have A0:At w p [.int .i64 a.s.w,.int .i64 a.s.l,.int .i64 a.s.n]:=hA.sub (a:=[]) (b:=[_,_,_]) (c:=[_,_,_]);have A1:At w ⟨p.block,p.off+3,none⟩ a.v.cells:=hA.sub (a:=[_,_,_]) (b:=[_,_,_]) (c:=[]);have hl:(kE a).length=(aU a.s).length+(eY a.v).length:=by unfold kE;simp
 go_enter Tryz.func193,Tryz.ntmps193;go_wp2_with fail;refine(uP _ w B g v bs gc p _ hc hp rfl A0 ⟨rfl,hs⟩ byOmega).mono ?_;rintro e w1 ⟨rfl,v1,hc1,hf1⟩;have hp1:=hf1.bQ hp;have uQ:=hf1.at_ (p:=⟨p.block,p.off+3,none⟩) hp A1;go_wp2_with fail;refine(Ir _ w1 B g v1 _ gc ⟨p.block,p.off+3,none⟩ _ hc1 hp1 rfl uQ ⟨rfl,hv⟩ (by rw[aK];omega)).mono ?_;rintro e w2 ⟨rfl,v2,hc2,hf2⟩;go_wp2
 go_end0
 refine⟨rfl,v2,?_,hf1.trans hf2⟩;unfold kE;simpa only[List.append_assoc] using hc2
theorem MK (l:List Int) (A:Option Addr) (n c:Nat) (w:World) (B g:Nat) (v:Value) (bs:List UInt8) (gc:Nat) (p:Addr) (hc:CW w B g v bs gc) (hp:dA w g v p.block) (hA:w.cell? p=some (.slice A n c)) (hcm:n<=maxLen)
 (hS:Sl bK 1 w B A n l) (hlen:bs.length+(aH encI l).length+10<=1000000000000):
 Calls Tryz.prog 137 #[.pointer (some ⟨gc,0,none⟩),.pointer (some p),.func (.func 81) #[.pointer (some ⟨gc,0,none⟩)] #[]] w (jk w B g v bs gc (aH encI l)):=by
 unfold maxLen at hcm;have hln:l.length=n:=hS.1;have hle:l.length<=n:=byOmega;have hge:n<=l.length:=byOmega;have HL:=au hlen;have HN:=au hln;have hlt0:(aH encI l).length=(encI (n:Int)).length+(l.flatMap encI).length:=by unfold aH;rw[aK,hln]
 have HT:=au hlt0;have h0:bs.length+10<=1000000000000:=byOmega;have hn0:(0:Int)<=(n:Int):=byOmega;clear hlen hln hlt0;have c0:=hc.blk.cell 0;simp only[List.getElem?_toArray,getZero]at c0;go_enter Tryz.func137,Tryz.ntmps137;go_wp2_with fail;refine(rH g n v bs B w hc.wr hc.hB byOmega byOmega h0).mono ?_;rintro e w1 ⟨rfl,v1,hw1,hf1⟩;have hc1:=hc.step hw1 hf1;have hp1:=hf1.bQ hp;have hS1:=hS.below bK.kept (hc.lo hf1);have hA1:w1.cell? p=some (.slice A n c):=(World.cell?_of_block (w:=w) (w':=w1) (hf1.heap hp)).trans hA;clear hc hp hS hA c0 h0 hw1;have c0:=cl (hc1.blk.cell 0);go_wp2_with fail
 go_loopw [39] (fun i wr=>∃(k:Nat) (v2:Value),k<=n/\i=.int .i64 (k:Int)/\CW wr B g v2 (bs++(encI (n:Int)++(l.take k).flatMap encI)) gc/\dh w1 wr g v1 v2) (fun i _=>n-(intOf i).toNat)
 case atStart=>exact⟨0,v1,byOmega,rfl,by simpa using hc1,dh.refl _ _ _⟩
 case round=>
  obtain⟨k,v2,hk,rfl,hc2,hf2⟩:=hrel;have hp2:=hf2.bQ hp1;have hA2:wr.cell? p=some (.slice A n c):=(World.cell?_of_block (w:=w1) (w':=wr) (hf2.heap hp1)).trans hA1;have d0:=cl (hc2.blk.cell 0);by_cases hlt:k<n
  · have hS2:=hS1.below bK.kept (hc1.lo hf2);obtain⟨ad,cs,a,rfl,ha,hb,hcl,hcs,hr⟩:=hS2.at_ hlt;have hd1:decide ((k:Int)<(n:Int))=true:=ay;have hk0:(0:Int)<=(k:Int):=byOmega;have hk1:(k:Int)<(n:Int):=byOmega;have HX:=au (xQ encI ha);have hfl:=xR encI l (k+1);have jL:((l.take k).flatMap encI).length+(encI a).length<=(l.flatMap encI).length:=(by rw[HX.out,aK]at hfl;exact hfl);have hAt:At wr (ad.add k) cs:=fun j u hj=>by rw[oh];exact(by have h:=hcs j u hj;rwa [Nat.mul_one]at h)
    have hbk:(ad.add k).block<B:=(by rw[iW];exact hb);have HK:=au jL;clear hfl jL ha hb hcs;go_wp2_with fail;refine(kG a wr B g v2 _ gc (ad.add k) cs hc2 (dA.low hc2 hbk) hcl hAt hr (by have h1:=HL.out;rw[HT.out]at h1;have h2:=HK.out;simp only[aK];omega)).mono ?_;rintro e w3 ⟨rfl,v3,hc3,hf3⟩;go_wp2_with fail;go_roundw
    case rel=>
        refine⟨k+1,v3,byOmega,by go_num,?_,hf2.trans hf3⟩;rw[HX.out];simpa only[List.append_assoc] using hc3
    case measure=>simp[intOf];omega
  · have hd1:decide ((k:Int)<(n:Int))=false:=ay;go_wp2_with fail
    go_end0
    refine⟨rfl,v2,?_,hf1.trans hf2⟩;unfold aH;rw[HN.out,<-xU encI (k:=k) byOmega];exact hc2
theorem RX (l:List ByteArray) (A:Option Addr) (n c:Nat) (w:World) (B g:Nat) (v:Value) (bs:List UInt8) (gc:Nat) (p:Addr) (hc:CW w B g v bs gc) (hp:dA w g v p.block) (hA:w.cell? p=some (.slice A n c)) (hcm:n<=maxLen)
 (hS:Sl aO 1 w B A n l) (hlen:bs.length+(aH bn l).length+10<=1000000000000):
 Calls Tryz.prog 131 #[.pointer (some ⟨gc,0,none⟩),.pointer (some p),.func (.func 132) #[.pointer (some ⟨gc,0,none⟩)] #[]] w (jk w B g v bs gc (aH bn l)):=by
 unfold maxLen at hcm;have hln:l.length=n:=hS.1;have hle:l.length<=n:=byOmega;have hge:n<=l.length:=byOmega;have HL:=au hlen;have HN:=au hln;have hlt0:(aH bn l).length=(encI (n:Int)).length+(l.flatMap bn).length:=by unfold aH;rw[aK,hln]
 have HT:=au hlt0;have h0:bs.length+10<=1000000000000:=byOmega;have hn0:(0:Int)<=(n:Int):=byOmega;clear hlen hln hlt0;have c0:=hc.blk.cell 0;simp only[List.getElem?_toArray,getZero]at c0;go_enter Tryz.func131,Tryz.ntmps131;go_wp2_with fail;refine(rH g n v bs B w hc.wr hc.hB byOmega byOmega h0).mono ?_;rintro e w1 ⟨rfl,v1,hw1,hf1⟩;have hc1:=hc.step hw1 hf1;have hp1:=hf1.bQ hp;have hS1:=hS.below aO.kept (hc.lo hf1);have hA1:w1.cell? p=some (.slice A n c):=(World.cell?_of_block (w:=w) (w':=w1) (hf1.heap hp)).trans hA;clear hc hp hS hA c0 h0 hw1;have c0:=cl (hc1.blk.cell 0);go_wp2_with fail
 go_loopw [39] (fun i wr=>∃(k:Nat) (v2:Value),k<=n/\i=.int .i64 (k:Int)/\CW wr B g v2 (bs++(encI (n:Int)++(l.take k).flatMap bn)) gc/\dh w1 wr g v1 v2) (fun i _=>n-(intOf i).toNat)
 case atStart=>exact⟨0,v1,byOmega,rfl,by simpa using hc1,dh.refl _ _ _⟩
 case round=>
  obtain⟨k,v2,hk,rfl,hc2,hf2⟩:=hrel;have hp2:=hf2.bQ hp1;have hA2:wr.cell? p=some (.slice A n c):=(World.cell?_of_block (w:=w1) (w':=wr) (hf2.heap hp1)).trans hA1;have d0:=cl (hc2.blk.cell 0);by_cases hlt:k<n
  · have hS2:=hS1.below aO.kept (hc1.lo hf2);obtain⟨ad,cs,a,rfl,ha,hb,hcl,hcs,hr⟩:=hS2.at_ hlt;have hd1:decide ((k:Int)<(n:Int))=true:=ay;have hk0:(0:Int)<=(k:Int):=byOmega;have hk1:(k:Int)<(n:Int):=byOmega;have HX:=au (xQ bn ha);have hfl:=xR bn l (k+1);have jL:((l.take k).flatMap bn).length+(bn a).length<=(l.flatMap bn).length:=(by rw[HX.out,aK]at hfl;exact hfl);have hAt:At wr (ad.add k) cs:=fun j u hj=>by rw[oh];exact(by have h:=hcs j u hj;rwa [Nat.mul_one]at h)
    have hbk:(ad.add k).block<B:=(by rw[iW];exact hb);have HK:=au jL;clear hfl jL ha hb hcs;go_wp2_with fail;refine(DT a wr B g v2 _ gc (ad.add k) cs hc2 (dA.low hc2 hbk) hcl hAt hr (by have h1:=HL.out;rw[HT.out]at h1;have h2:=HK.out;simp only[aK];omega)).mono ?_;rintro e w3 ⟨rfl,v3,hc3,hf3⟩;go_wp2_with fail;go_roundw
    case rel=>
        refine⟨k+1,v3,byOmega,by go_num,?_,hf2.trans hf3⟩;rw[HX.out];simpa only[List.append_assoc] using hc3
    case measure=>simp[intOf];omega
  · have hd1:decide ((k:Int)<(n:Int))=false:=ay;go_wp2_with fail
    go_end0
    refine⟨rfl,v2,?_,hf1.trans hf2⟩;unfold aH;rw[HN.out,<-xU bn (k:=k) byOmega];exact hc2
theorem IG (l:List Wt) (A:Option Addr) (n c:Nat) (w:World) (B g:Nat) (v:Value) (bs:List UInt8) (gc:Nat) (p:Addr) (hc:CW w B g v bs gc) (hp:dA w g v p.block) (hA:w.cell? p=some (.slice A n c)) (hcm:n<=maxLen)
 (hS:Sl aF 4 w B A n l) (hlen:bs.length+(aH bP l).length+10<=1000000000000):
 Calls Tryz.prog 89 #[.pointer (some ⟨gc,0,none⟩),.pointer (some p),.func (.func 90) #[.pointer (some ⟨gc,0,none⟩)] #[]] w (jk w B g v bs gc (aH bP l)):=by
 unfold maxLen at hcm;have hln:l.length=n:=hS.1;have hle:l.length<=n:=byOmega;have hge:n<=l.length:=byOmega;have HL:=au hlen;have HN:=au hln;have hlt0:(aH bP l).length=(encI (n:Int)).length+(l.flatMap bP).length:=by unfold aH;rw[aK,hln]
 have HT:=au hlt0;have h0:bs.length+10<=1000000000000:=byOmega;have hn0:(0:Int)<=(n:Int):=byOmega;clear hlen hln hlt0;have c0:=hc.blk.cell 0;simp only[List.getElem?_toArray,getZero]at c0;go_enter Tryz.func89,Tryz.ntmps89;go_wp2_with fail;refine(rH g n v bs B w hc.wr hc.hB byOmega byOmega h0).mono ?_;rintro e w1 ⟨rfl,v1,hw1,hf1⟩;have hc1:=hc.step hw1 hf1;have hp1:=hf1.bQ hp;have hS1:=hS.below aF.kept (hc.lo hf1);have hA1:w1.cell? p=some (.slice A n c):=(World.cell?_of_block (w:=w) (w':=w1) (hf1.heap hp)).trans hA;clear hc hp hS hA c0 h0 hw1;have c0:=cl (hc1.blk.cell 0);go_wp2_with fail
 go_loopw [39] (fun i wr=>∃(k:Nat) (v2:Value),k<=n/\i=.int .i64 (k:Int)/\CW wr B g v2 (bs++(encI (n:Int)++(l.take k).flatMap bP)) gc/\dh w1 wr g v1 v2) (fun i _=>n-(intOf i).toNat)
 case atStart=>exact⟨0,v1,byOmega,rfl,by simpa using hc1,dh.refl _ _ _⟩
 case round=>
  obtain⟨k,v2,hk,rfl,hc2,hf2⟩:=hrel;have hp2:=hf2.bQ hp1;have hA2:wr.cell? p=some (.slice A n c):=(World.cell?_of_block (w:=w1) (w':=wr) (hf2.heap hp1)).trans hA1;have d0:=cl (hc2.blk.cell 0);by_cases hlt:k<n
  · have hS2:=hS1.below aF.kept (hc1.lo hf2);obtain⟨ad,cs,a,rfl,ha,hb,hcl,hcs,hr⟩:=hS2.at_ hlt;have hd1:decide ((k:Int)<(n:Int))=true:=ay;have hk0:(0:Int)<=(k:Int):=byOmega;have hk1:(k:Int)<(n:Int):=byOmega;have HX:=au (xQ bP ha);have hfl:=xR bP l (k+1);have jL:((l.take k).flatMap bP).length+(bP a).length<=(l.flatMap bP).length:=(by rw[HX.out,aK]at hfl;exact hfl);have hAt:At wr (ad.add (k*4)) cs:=fun j u hj=>by rw[oh];exact hcs j u hj
    have hbk:(ad.add (k*4)).block<B:=(by rw[iW];exact hb);have HK:=au jL;clear hfl jL ha hb hcs;go_wp2_with fail;refine(aaU a wr B g v2 _ gc (ad.add (k*4)) cs hc2 (dA.low hc2 hbk) hcl hAt hr (by have h1:=HL.out;rw[HT.out]at h1;have h2:=HK.out;simp only[aK];omega)).mono ?_;rintro e w3 ⟨rfl,v3,hc3,hf3⟩;go_wp2_with fail;go_roundw
    case rel=>
        refine⟨k+1,v3,byOmega,by go_num,?_,hf2.trans hf3⟩;rw[HX.out];simpa only[List.append_assoc] using hc3
    case measure=>simp[intOf];omega
  · have hd1:decide ((k:Int)<(n:Int))=false:=ay;go_wp2_with fail
    go_end0
    refine⟨rfl,v2,?_,hf1.trans hf2⟩;unfold aH;rw[HN.out,<-xU bP (k:=k) byOmega];exact hc2
theorem aaX (l:List Wt) (A:Option Addr) (n c:Nat) (w:World) (B g:Nat) (v:Value) (bs:List UInt8) (gc:Nat) (p:Addr) (hc:CW w B g v bs gc) (hp:dA w g v p.block) (hA:w.cell? p=some (.slice A n c)) (hcm:n<=maxLen)
 (hS:Sl aF 4 w B A n l) (hlen:bs.length+(aH bP l).length+10<=1000000000000):
 Calls Tryz.prog 200 #[.pointer (some ⟨gc,0,none⟩),.pointer (some p),.func (.func 201) #[.pointer (some ⟨gc,0,none⟩)] #[]] w (jk w B g v bs gc (aH bP l)):=by
 unfold maxLen at hcm;have hln:l.length=n:=hS.1;have hle:l.length<=n:=byOmega;have hge:n<=l.length:=byOmega;have HL:=au hlen;have HN:=au hln;have hlt0:(aH bP l).length=(encI (n:Int)).length+(l.flatMap bP).length:=by unfold aH;rw[aK,hln]
 have HT:=au hlt0;have h0:bs.length+10<=1000000000000:=byOmega;have hn0:(0:Int)<=(n:Int):=byOmega;clear hlen hln hlt0;have c0:=hc.blk.cell 0;simp only[List.getElem?_toArray,getZero]at c0;go_enter Tryz.func200,Tryz.ntmps200;go_wp2_with fail;refine(rH g n v bs B w hc.wr hc.hB byOmega byOmega h0).mono ?_;rintro e w1 ⟨rfl,v1,hw1,hf1⟩;have hc1:=hc.step hw1 hf1;have hp1:=hf1.bQ hp;have hS1:=hS.below aF.kept (hc.lo hf1);have hA1:w1.cell? p=some (.slice A n c):=(World.cell?_of_block (w:=w) (w':=w1) (hf1.heap hp)).trans hA;clear hc hp hS hA c0 h0 hw1;have c0:=cl (hc1.blk.cell 0);go_wp2_with fail
 go_loopw [39] (fun i wr=>∃(k:Nat) (v2:Value),k<=n/\i=.int .i64 (k:Int)/\CW wr B g v2 (bs++(encI (n:Int)++(l.take k).flatMap bP)) gc/\dh w1 wr g v1 v2) (fun i _=>n-(intOf i).toNat)
 case atStart=>exact⟨0,v1,byOmega,rfl,by simpa using hc1,dh.refl _ _ _⟩
 case round=>
  obtain⟨k,v2,hk,rfl,hc2,hf2⟩:=hrel;have hp2:=hf2.bQ hp1;have hA2:wr.cell? p=some (.slice A n c):=(World.cell?_of_block (w:=w1) (w':=wr) (hf2.heap hp1)).trans hA1;have d0:=cl (hc2.blk.cell 0);by_cases hlt:k<n
  · have hS2:=hS1.below aF.kept (hc1.lo hf2);obtain⟨ad,cs,a,rfl,ha,hb,hcl,hcs,hr⟩:=hS2.at_ hlt;have hd1:decide ((k:Int)<(n:Int))=true:=ay;have hk0:(0:Int)<=(k:Int):=byOmega;have hk1:(k:Int)<(n:Int):=byOmega;have HX:=au (xQ bP ha);have hfl:=xR bP l (k+1);have jL:((l.take k).flatMap bP).length+(bP a).length<=(l.flatMap bP).length:=(by rw[HX.out,aK]at hfl;exact hfl);have hAt:At wr (ad.add (k*4)) cs:=fun j u hj=>by rw[oh];exact hcs j u hj
    have hbk:(ad.add (k*4)).block<B:=(by rw[iW];exact hb);have HK:=au jL;clear hfl jL ha hb hcs;go_wp2_with fail;refine(aaV a wr B g v2 _ gc (ad.add (k*4)) cs hc2 (dA.low hc2 hbk) hcl hAt hr (by have h1:=HL.out;rw[HT.out]at h1;have h2:=HK.out;simp only[aK];omega)).mono ?_;rintro e w3 ⟨rfl,v3,hc3,hf3⟩;go_wp2_with fail;go_roundw
    case rel=>
        refine⟨k+1,v3,byOmega,by go_num,?_,hf2.trans hf3⟩;rw[HX.out];simpa only[List.append_assoc] using hc3
    case measure=>simp[intOf];omega
  · have hd1:decide ((k:Int)<(n:Int))=false:=ay;go_wp2_with fail
    go_end0
    refine⟨rfl,v2,?_,hf1.trans hf2⟩;unfold aH;rw[HN.out,<-xU bP (k:=k) byOmega];exact hc2
theorem aaY (l:List Vn) (A:Option Addr) (n c:Nat) (w:World) (B g:Nat) (v:Value) (bs:List UInt8) (gc:Nat) (p:Addr) (hc:CW w B g v bs gc) (hp:dA w g v p.block) (hA:w.cell? p=some (.slice A n c)) (hcm:n<=maxLen)
 (hS:Sl fC 6 w B A n l) (hlen:bs.length+(aH kE l).length+10<=1000000000000):
 Calls Tryz.prog 192 #[.pointer (some ⟨gc,0,none⟩),.pointer (some p),.func (.func 193) #[.pointer (some ⟨gc,0,none⟩)] #[]] w (jk w B g v bs gc (aH kE l)):=by
 unfold maxLen at hcm;have hln:l.length=n:=hS.1;have hle:l.length<=n:=byOmega;have hge:n<=l.length:=byOmega;have HL:=au hlen;have HN:=au hln;have hlt0:(aH kE l).length=(encI (n:Int)).length+(l.flatMap kE).length:=by unfold aH;rw[aK,hln]
 have HT:=au hlt0;have h0:bs.length+10<=1000000000000:=byOmega;have hn0:(0:Int)<=(n:Int):=byOmega;clear hlen hln hlt0;have c0:=hc.blk.cell 0;simp only[List.getElem?_toArray,getZero]at c0;go_enter Tryz.func192,Tryz.ntmps192;go_wp2_with fail;refine(rH g n v bs B w hc.wr hc.hB byOmega byOmega h0).mono ?_;rintro e w1 ⟨rfl,v1,hw1,hf1⟩;have hc1:=hc.step hw1 hf1;have hp1:=hf1.bQ hp;have hS1:=hS.below fC.kept (hc.lo hf1);have hA1:w1.cell? p=some (.slice A n c):=(World.cell?_of_block (w:=w) (w':=w1) (hf1.heap hp)).trans hA;clear hc hp hS hA c0 h0 hw1;have c0:=cl (hc1.blk.cell 0);go_wp2_with fail
 go_loopw [39] (fun i wr=>∃(k:Nat) (v2:Value),k<=n/\i=.int .i64 (k:Int)/\CW wr B g v2 (bs++(encI (n:Int)++(l.take k).flatMap kE)) gc/\dh w1 wr g v1 v2) (fun i _=>n-(intOf i).toNat)
 case atStart=>exact⟨0,v1,byOmega,rfl,by simpa using hc1,dh.refl _ _ _⟩
 case round=>
  obtain⟨k,v2,hk,rfl,hc2,hf2⟩:=hrel;have hp2:=hf2.bQ hp1;have hA2:wr.cell? p=some (.slice A n c):=(World.cell?_of_block (w:=w1) (w':=wr) (hf2.heap hp1)).trans hA1;have d0:=cl (hc2.blk.cell 0);by_cases hlt:k<n
  · have hS2:=hS1.below fC.kept (hc1.lo hf2);obtain⟨ad,cs,a,rfl,ha,hb,hcl,hcs,hr⟩:=hS2.at_ hlt;have hd1:decide ((k:Int)<(n:Int))=true:=ay;have hk0:(0:Int)<=(k:Int):=byOmega;have hk1:(k:Int)<(n:Int):=byOmega;have HX:=au (xQ kE ha);have hfl:=xR kE l (k+1);have jL:((l.take k).flatMap kE).length+(kE a).length<=(l.flatMap kE).length:=(by rw[HX.out,aK]at hfl;exact hfl);have hAt:At wr (ad.add (k*6)) cs:=fun j u hj=>by rw[oh];exact hcs j u hj
    have hbk:(ad.add (k*6)).block<B:=(by rw[iW];exact hb);have HK:=au jL;clear hfl jL ha hb hcs;go_wp2_with fail;refine(aaW a wr B g v2 _ gc (ad.add (k*6)) cs hc2 (dA.low hc2 hbk) hcl hAt hr (by have h1:=HL.out;rw[HT.out]at h1;have h2:=HK.out;simp only[aK];omega)).mono ?_;rintro e w3 ⟨rfl,v3,hc3,hf3⟩;go_wp2_with fail;go_roundw
    case rel=>
        refine⟨k+1,v3,byOmega,by go_num,?_,hf2.trans hf3⟩;rw[HX.out];simpa only[List.append_assoc] using hc3
    case measure=>simp[intOf];omega
  · have hd1:decide ((k:Int)<(n:Int))=false:=ay;go_wp2_with fail
    go_end0
    refine⟨rfl,v2,?_,hf1.trans hf2⟩;unfold aH;rw[HN.out,<-xU kE (k:=k) byOmega];exact hc2
