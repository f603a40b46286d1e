/- The document's bytes of a message as they grow, and of its lists. -/
import Derived.Test.YtcalkfgibflbnaaGreatDacg
import Derived.Test.YtcalkfgibflbnaaGreatDaeb
import Derived.Test.YtcalkfgibflbnaaGreatDaec
namespace Go.Proofs.YtcalkfgibflbnaaGreat
set_option maxHeartbeats 4000000
set_option maxRecDepth 100000
set_option linter.unusedVariables false
open Go.RowKit Fl
attribute [local go_sem] run_store_float
theorem xSeens (A:Option Addr) (n c:Nat) (l:List Sn) (w:World) (h:Sl SnRel 7 w w.heap.size A n l) (hn:n≤maxLen) (hlen:(encLs encSn l).length≤1000000000000):
 Calls Tryz.prog 148 #[.slice A n c] w (RowPost w (encLs encSn l)):=by
 unfold maxLen at hn
 have hln:l.length=n:=h.1
 have hle:l.length≤n:=by omega
 have hge:n≤l.length:=by omega
 have e0:encI (n:Int)++l.flatMap encSn=encLs encSn l:=by unfold encLs;rw[hln]
 generalize encLs encSn l=T at*
 clear hln
 go_enter Tryz.func148,Tryz.ntmps148
 go_wp2_with fail
 refine(BW.fst (Below.refl w.heap.size w) e0 hlen fun _=>xint (n:Int) _ (by omega) (by omega)).mono ?_
 rintro e w1 ⟨A0,m0,c0,P0,rfl,b0⟩
 clear e0 hlen
 go_wp2_with fail
 go_loopw [3,4] (fun out i wr=>∃(k:Nat) (A0:Option Addr) (m0 c0:Nat) (P0:List UInt8),k≤n∧i=.int .i64 (k:Int)∧out=.slice A0 m0 c0∧BW w T ((l.drop k).flatMap encSn) P0 A0 m0 c0 wr) (fun _ i _=>n-(intOf i).toNat)
 case atStart=>exact⟨0,A0,m0,c0,P0,by omega,rfl,rfl,b0⟩
 case round=>
  clear b0
  obtain⟨k,A0,m0,c0,P0,hk,rfl,rfl,b⟩:=hrel
  by_cases hlt:k<n
  · obtain⟨ad,a,rfl,hl,hbk,hok,C0,C1,C2,C3,C4,C5,C6⟩:=h.sn hlt
    have hd1:decide ((k:Int)<(n:Int))=true:=by simp;omega
    have hk0:(0:Int)≤(k:Int):=by omega
    have hk1:(k:Int)<(n:Int):=by omega
    replace b:=b.as (suf':=encKy a.key++(encVl a.v++(encSp a.s++(l.drop (k+1)).flatMap encSn))) (by rw[flat_drop hl];simp only[encSn,List.append_assoc])
    clear hl
    have x0:=(b.r.2.cell (p:=(ad.add (k*7))) hbk).trans C0
    go_wp2_with fail
    refine(b.call fun hl=>xtext a.key _ (by have e:a.key.size=a.key.data.toList.length:=(Array.length_toList (xs:=a.key.data)).symm;unfold encKy encT at hl;rw[List.length_append]at hl;omega)).mono ?_
    rintro e w2 ⟨A5,n5,c5,rfl,b2⟩
    go_wp2_with (at_builtin;refine b2.app rfl _ _ rfl rfl rfl ?_;intro A0 m0 c0 P0 w3 b;have x1:=(b.r.2.cell (p:=⟨(ad.add (k*7)).block,(ad.add (k*7)).off+1,none⟩) hbk).trans C1;have x2:=(b.r.2.cell (p:=⟨(ad.add (k*7)).block,(ad.add (k*7)).off+2,none⟩) hbk).trans C2;have x3:=(b.r.2.cell (p:=⟨(ad.add (k*7)).block,(ad.add (k*7)).off+3,none⟩) hbk).trans C3)
    clear b2 x0
    go_wp2_with fail
    refine(b.call fun hl=>xPut a.v _ hok.2.1 hl).mono ?_
    rintro e w4 ⟨A5,n5,c5,rfl,b2⟩
    go_wp2_with (at_builtin;refine b2.app rfl _ _ rfl rfl rfl ?_;intro A0 m0 c0 P0 w5 b;have x4:=(b.r.2.cell (p:=⟨(ad.add (k*7)).block,(ad.add (k*7)).off+4,none⟩) hbk).trans C4;have x5:=(b.r.2.cell (p:=⟨(ad.add (k*7)).block,(ad.add (k*7)).off+5,none⟩) hbk).trans C5;have x6:=(b.r.2.cell (p:=⟨(ad.add (k*7)).block,(ad.add (k*7)).off+6,none⟩) hbk).trans C6)
    clear b2 x1 x2 x3
    go_wp2_with fail
    refine(b.call fun hl=>xStamp a.s _ hok.2.2).mono ?_
    rintro e w6 ⟨A5,n5,c5,rfl,b2⟩
    go_wp2_with (at_builtin;refine b2.app rfl _ _ rfl rfl rfl ?_;intro A0 m0 c0 P0 w7 b)
    clear b2
    go_roundw
    case rel=>exact⟨k+1,_,_,_,_,by omega,by go_num,rfl,b⟩
    case measure=>simp[intOf];omega
  · have hd1:decide ((k:Int)<(n:Int))=false:=by simp;omega
    go_wp2_with fail
    go_ret
    rw[List.drop_of_length_le (by omega)]at b
    exact b.post
theorem xRanges (A:Option Addr) (n c:Nat) (l:List Rg) (w:World) (h:Sl RgRel 4 w w.heap.size A n l) (hn:n≤maxLen) (hlen:(encLs encRg l).length≤1000000000000):
 Calls Tryz.prog 149 #[.slice A n c] w (RowPost w (encLs encRg l)):=by
 unfold maxLen at hn
 have hln:l.length=n:=h.1
 have hle:l.length≤n:=by omega
 have hge:n≤l.length:=by omega
 have e0:encI (n:Int)++l.flatMap encRg=encLs encRg l:=by unfold encLs;rw[hln]
 generalize encLs encRg l=T at*
 clear hln
 go_enter Tryz.func149,Tryz.ntmps149
 go_wp2_with fail
 refine(BW.fst (Below.refl w.heap.size w) e0 hlen fun _=>xint (n:Int) _ (by omega) (by omega)).mono ?_
 rintro e w1 ⟨A0,m0,c0,P0,rfl,b0⟩
 clear e0 hlen
 go_wp2_with fail
 go_loopw [3,4] (fun out i wr=>∃(k:Nat) (A0:Option Addr) (m0 c0:Nat) (P0:List UInt8),k≤n∧i=.int .i64 (k:Int)∧out=.slice A0 m0 c0∧BW w T ((l.drop k).flatMap encRg) P0 A0 m0 c0 wr) (fun _ i _=>n-(intOf i).toNat)
 case atStart=>exact⟨0,A0,m0,c0,P0,by omega,rfl,rfl,b0⟩
 case round=>
  clear b0
  obtain⟨k,A0,m0,c0,P0,hk,rfl,rfl,b⟩:=hrel
  by_cases hlt:k<n
  · obtain⟨ad,a,rfl,hl,hbk,hok,C0,C1,C2,C3⟩:=h.rg hlt
    have hd1:decide ((k:Int)<(n:Int))=true:=by simp;omega
    have hk0:(0:Int)≤(k:Int):=by omega
    have hk1:(k:Int)<(n:Int):=by omega
    replace b:=b.as (suf':=encRg a++(l.drop (k+1)).flatMap encRg) (by rw[flat_drop hl])
    clear hl
    have x0:=(b.r.2.cell (p:=(ad.add (k*4))) hbk).trans C0
    have x1:=(b.r.2.cell (p:=⟨(ad.add (k*4)).block,(ad.add (k*4)).off+1,none⟩) hbk).trans C1
    have x2:=(b.r.2.cell (p:=⟨(ad.add (k*4)).block,(ad.add (k*4)).off+2,none⟩) hbk).trans C2
    have x3:=(b.r.2.cell (p:=⟨(ad.add (k*4)).block,(ad.add (k*4)).off+3,none⟩) hbk).trans C3
    go_wp2_with fail
    refine(b.call fun hl=>xRange a _ hok).mono ?_
    rintro e w2 ⟨A5,n5,c5,rfl,b2⟩
    go_wp2_with (at_builtin;refine b2.app rfl _ _ rfl rfl rfl ?_;intro A0 m0 c0 P0 w3 b)
    clear b2
    go_roundw
    case rel=>exact⟨k+1,_,_,_,_,by omega,by go_num,rfl,b⟩
    case measure=>simp[intOf];omega
  · have hd1:decide ((k:Int)<(n:Int))=false:=by simp;omega
    go_wp2_with fail
    go_ret
    rw[List.drop_of_length_le (by omega)]at b
    exact b.post
theorem xRecs (A:Option Addr) (n c:Nat) (l:List Rc) (w:World) (hpl:∀r∈l,RcPl r) (h:Sl RmRel 29 w w.heap.size A n l) (hn:n≤maxLen) (hlen:(encLs encRm l).length≤1000000000000):
 Calls Tryz.prog 93 #[.slice A n c] w (RowPost w (encLs encRm l)):=by
 unfold maxLen at hn
 have hln:l.length=n:=h.1
 have hle:l.length≤n:=by omega
 have hge:n≤l.length:=by omega
 have e0:encI (n:Int)++l.flatMap encRm=encLs encRm l:=by unfold encLs;rw[hln]
 generalize encLs encRm l=T at*
 clear hln
 go_enter Tryz.func93,Tryz.ntmps93
 go_wp2_with fail
 refine(BW.fst (Below.refl w.heap.size w) e0 hlen fun _=>xint (n:Int) _ (by omega) (by omega)).mono ?_
 rintro e w1 ⟨A0,m0,c0,P0,rfl,b0⟩
 clear e0 hlen
 go_wp2_with fail
 go_loopw [3,4] (fun out i wr=>∃(k:Nat) (A0:Option Addr) (m0 c0:Nat) (P0:List UInt8),k≤n∧i=.int .i64 (k:Int)∧out=.slice A0 m0 c0∧BW w T ((l.drop k).flatMap encRm) P0 A0 m0 c0 wr) (fun _ i _=>n-(intOf i).toNat)
 case atStart=>exact⟨0,A0,m0,c0,P0,by omega,rfl,rfl,b0⟩
 case round=>
  clear b0
  obtain⟨k,A0,m0,c0,P0,hk,rfl,rfl,b⟩:=hrel
  by_cases hlt:k<n
  · obtain⟨ad,a,g,q,o,rfl,hl,ea,hq,hrg,ok,cp,lo⟩:=h.rm2 hlt
    have pl:=hpl a (List.mem_of_getElem? hl)
    have hol:(encOut a).length≤2000000:=by
        have:=pl.e
        unfold encOut
        split
        · exact this
        · exact Nat.zero_le _
    have hd1:decide ((k:Int)<(n:Int))=true:=by simp;omega
    have hk0:(0:Int)≤(k:Int):=by omega
    have hk1:(k:Int)<(n:Int):=by omega
    replace b:=b.as (suf':=encRm a++(l.drop (k+1)).flatMap encRm) (by rw[flat_drop hl])
    clear hl
    have lo2:=(lo.below b.r.2).more b.r.2.size
    have hg2:=rangeAt_below hrg b.r.2 hq
    go_wp2_with (guard_target=~ wpList _ _ _ _ _ _;refine wpList_load_mid rfl 69 _ rfl q o (by kernel_rfl) (a.vals g).toList _ hg2 rfl rfl (by kernel_rfl) ?_)
    refine(xEncode a g _ ok lo2.into (pl.sm lo2) (by have:=pl.e;omega)).mono ?_
    rintro e w2 ⟨A2,c2,rfl,-,-,o2,hb2⟩
    replace b:=b.below hb2
    have hcv:=run_conv_reads (P:=Tryz.prog) w2 49 9 5 Tryz.underlying49 Tryz.underlying5 Tryz.underlying9 (c:=c2) (Reads.of_own o2)
    go_wp2_with fail
    refine(b.call fun hl=>xtext ⟨(encOut a).toArray⟩ _ (by show (encOut a).toArray.size≤_;simp;have:=hol;omega)).mono ?_
    rintro e w4 ⟨A5,n5,c5,rfl,b2⟩
    go_wp2_with (at_builtin;refine b2.app rfl _ _ rfl rfl rfl ?_;intro A0 m0 c0 P0 w5 b)
    clear b2 hcv
    go_roundw
    case rel=>exact⟨k+1,_,_,_,_,by omega,by go_num,rfl,b⟩
    case measure=>simp[intOf];omega
  · have hd1:decide ((k:Int)<(n:Int))=false:=by simp;omega
    go_wp2_with fail
    go_ret
    rw[List.drop_of_length_le (by omega)]at b
    exact b.post
end Go.Proofs.YtcalkfgibflbnaaGreat
