/- The walk of the document's bytes of a state. -/
import Derived.Test.YtcalkfgibflbnaaGreatDace
namespace Go.Proofs.YtcalkfgibflbnaaGreat
set_option linter.unusedVariables false
open Go.RowKit Fl
attribute [local go_sem] run_store_float
set_option maxRecDepth 100000 in
set_option maxHeartbeats 16000000 in
theorem xState (s:Stt) (A1 A2:Option Addr) (n1 n2 c1 c2:Nat) (w:World) (hr:s.r.ok) (hf:s.f.ok) (hc:s.c.ok) (h1:Sl HsRel 2 w w.heap.size A1 n1 s.h) (h2:Sl PnRel 8 w w.heap.size A2 n2 s.p) (hn1:n1≤maxLen) (hn2:n2≤maxLen) (hlen:(encSt s).length≤1000000000000):
 Calls Tryz.prog 94 #[.agg (s.arr (.slice A1 n1 c1) (.slice A2 n2 c2))] w (RowPost w (encSt s)):=by
 have hl1:s.h.length=n1:=h1.1
 have hl2:s.p.length=n2:=h2.1
 have hg1:s.h.length≤n1:=by omega
 have hg2:s.p.length≤n2:=by omega
 unfold maxLen at hn1 hn2
 obtain⟨T,hT⟩:∃T,encSt s=T:=⟨_,rfl⟩
 rw[hT]at hlen ⊢
 have e0:encRg s.r++(encSp s.f++(encSp s.c++(encI (n1:Int)++(s.h.flatMap encHs++(encI (n2:Int)++(s.p.flatMap encPn++[]))))))=T:=by rw[←hT];unfold encSt encLs;rw[hl1,hl2];simp only[List.append_assoc,List.append_nil]
 have hX:Below w.heap.size w (w.alloc (.cells (s.arr (.slice A1 n1 c1) (.slice A2 n2 c2)) 39)):=by go_grown
 have BX:Blk (w.alloc (.cells (s.arr (.slice A1 n1 c1) (.slice A2 n2 c2)) 39)) w.heap.size 39 (s.arr (.slice A1 n1 c1) (.slice A2 n2 c2)):=Blk.new _ _ _
 clear hT hl1 hl2
 go_enter Tryz.func94,Tryz.ntmps94
 go_upto_region 1 with fail
 generalize (w.alloc (.cells (s.arr (.slice A1 n1 c1) (.slice A2 n2 c2)) 39))=X at*
 have K:=BX
 go_wp2_with (guard_target=~ wpList _ _ _ _ _ _;refine wpList_load_mid rfl 35 _ rfl w.heap.size 0 (by kernel_rfl) ([.int .i64 s.r.id,.int .i64 s.r.ep,.float .f64 s.r.lo,.float .f64 s.r.hi]) _ (K.rng 0 ([.int .i64 s.r.id,.int .i64 s.r.ep,.float .f64 s.r.lo,.float .f64 s.r.hi])) rfl rfl (by kernel_rfl) ?_)
 refine(BW.fst (Below.refl _ _) e0 hlen fun hl=>xRange s.r _ hr).mono ?_
 rintro e w1 ⟨A0,m0,c0,P0,rfl,b⟩
 replace K:=b.blk BX
 clear e0 hlen
 go_wp2_with (guard_target=~ wpList _ _ _ _ _ _;refine wpList_load_mid rfl 26 _ rfl w.heap.size 4 (by kernel_rfl) ([.int .i64 s.f.w,.int .i64 s.f.l,.int .i64 s.f.n]) _ (K.rng 4 ([.int .i64 s.f.w,.int .i64 s.f.l,.int .i64 s.f.n])) rfl rfl (by kernel_rfl) ?_)
 refine(b.call fun hl=>xStamp s.f _ hf).mono ?_
 rintro e w4 ⟨A5,n5,c5,rfl,b2⟩
 go_wp2_with (first|(at_builtin;refine b2.app rfl _ _ rfl rfl rfl ?_;clear b K;intro A0 m0 c0 P0 w5 b;have K:=b.blk BX)|(guard_target=~ wpList _ _ _ _ _ _;refine wpList_load_mid rfl 26 _ rfl w.heap.size 7 (by kernel_rfl) ([.int .i64 s.c.w,.int .i64 s.c.l,.int .i64 s.c.n]) _ (K.rng 7 ([.int .i64 s.c.w,.int .i64 s.c.l,.int .i64 s.c.n])) rfl rfl (by kernel_rfl) ?_))
 refine(b.call fun hl=>xStamp s.c _ hc).mono ?_
 rintro e w6 ⟨A5,n5,c5,rfl,b2⟩
 go_wp2_with (at_builtin;refine b2.app rfl _ _ rfl rfl rfl ?_;clear b K;intro A0 m0 c0 P0 w7 b;have K:=b.blk BX;have x1:=cl (K.cell 10))
 refine(b.call fun hl=>xint (n1:Int) _ (by omega) (by omega)).mono ?_
 rintro e w8 ⟨A5,n5,c5,rfl,b2⟩
 go_wp2_with (at_builtin;refine b2.app rfl _ _ rfl rfl rfl ?_;clear b K;intro A0 m0 c0 P0 w9 b;have K:=b.blk BX;have y10:=cl (K.cell 10))
 go_loopw [3,4] (fun out i wr=>∃(k:Nat) (A0:Option Addr) (m0 c0:Nat) (P0:List UInt8),k≤n1∧i=.int .i64 (k:Int)∧out=.slice A0 m0 c0∧BW X T ((s.h.drop k).flatMap encHs++(encI (n2:Int)++(s.p.flatMap encPn++[]))) P0 A0 m0 c0 wr) (fun _ i _=>n1-(intOf i).toNat)
 case atStart=>exact⟨0,_,_,_,_,by omega,rfl,rfl,b⟩
 case round=>
  clear b K y10
  obtain⟨k,A0,m0,c0,P0,hk,rfl,rfl,b⟩:=hrel
  have K:=b.blk BX
  have y10:=cl (K.cell 10)
  have hwr:=hX.trans (b.hb.mono hX.size)
  by_cases hlt:k<n1
  · obtain⟨ad,a,A',n',c',rfl,hl,hbk,hks,D0,D1,hnc,hcm,hS⟩:=h1.hs hlt
    replace D0:=(hwr.cell hbk).trans D0
    replace D1:=(hwr.cell (p:=⟨_,_,none⟩) hbk).trans D1
    have hd1:decide ((k:Int)<(n1:Int))=true:=by simp;omega
    have hk0:(0:Int)≤(k:Int):=by omega
    have hk1:(k:Int)<(n1:Int):=by omega
    have hln':a.vs.length=n':=hS.1
    have hgn':a.vs.length≤n':=by omega
    unfold maxLen at hcm
    have hn'1:n'≤9223372036854775807:=by omega
    have bA:=b.as (suf':=encKy a.key++(encI (n':Int)++(a.vs.flatMap encVn++((s.h.drop (k+1)).flatMap encHs++(encI (n2:Int)++(s.p.flatMap encPn++[])))))) (by rw[flat_drop hl];simp only[encHs,encLs,hln',List.append_assoc])
    have hA:Below wr.heap.size wr (wr.alloc (.cells #[.string a.key,.slice A' n' c'] 158)):=by go_grown
    have kH:Blk (wr.alloc (.cells #[.string a.key,.slice A' n' c'] 158)) wr.heap.size 158 #[.string a.key,.slice A' n' c']:=Blk.new _ _ _
    have lH:wr.heap.size<wr.heap.size+1:=by omega
    clear b hl hln' K
    have b:BB X T _ P0 A0 m0 c0 _ wr.heap.size 158 #[.string a.key,.slice A' n' c']:=⟨bA.below hA,by decide,kH⟩
    clear bA hA kH
    go_wp2_with fail
    refine(b.call fun hl=>xtext a.key _ (by have e:a.key.size=a.key.data.toList.length:=(Array.length_toList (xs:=a.key.data)).symm;unfold encKy encT at hl;rw[List.length_append]at hl;omega)).mono ?_
    rintro e u1 ⟨A5,n5,c5,rfl,b2⟩
    go_wp2_with (at_builtin;refine b2.app rfl _ _ rfl rfl rfl ?_;clear b;intro A0 m0 c0 P0 u2 b;have z1:=cl (b.k.cell 1))
    refine(b.call fun hl=>xint (n':Int) _ (by omega) (by omega)).mono ?_
    rintro e u3 ⟨A5,n5,c5,rfl,b2⟩
    go_wp2_with (at_builtin;refine b2.app rfl _ _ rfl rfl rfl ?_;clear b;intro A0 m0 c0 P0 u4 b;have z2:=cl (b.k.cell 1))
    clear z1 b2
    obtain⟨wo,rfl⟩:∃wo:World,wo=wr:=⟨_,rfl⟩
    go_loopw [3,6] (fun out i wr=>∃(k2:Nat) (A0:Option Addr) (m0 c0:Nat) (P0:List UInt8),k2≤n'∧i=.int .i64 (k2:Int)∧out=.slice A0 m0 c0∧BB X T ((a.vs.drop k2).flatMap encVn++((s.h.drop (k+1)).flatMap encHs++(encI (n2:Int)++(s.p.flatMap encPn++[])))) P0 A0 m0 c0 wr wo.heap.size 158 #[.string a.key,.slice A' n' c']) (fun _ i _=>n'-(intOf i).toNat)
    case atStart=>exact⟨0,_,_,_,_,by omega,rfl,rfl,b⟩
    case round=>
        clear b z2
        obtain⟨k2,A0,m0,c0,P0,hk2,rfl,rfl,b⟩:=hrel
        have z2:=cl (b.k.cell 1)
        by_cases hlt2:k2<n'
        · obtain⟨ad',a',rfl,hl,hbk2,hok,C0,C1,C2,C3,C4,C5⟩:=hS.vn hlt2
          have hd2:decide ((k2:Int)<(n':Int))=true:=by simp;omega
          have hk3:(0:Int)≤(k2:Int):=by omega
          have hk4:(k2:Int)<(n':Int):=by omega
          replace b:BB X T (encSp a'.s++(encVl a'.v++((a.vs.drop (k2+1)).flatMap encVn++((s.h.drop (k+1)).flatMap encHs++(encI (n2:Int)++(s.p.flatMap encPn++[])))))) P0 A0 m0 c0 wr _ _ _:=⟨b.b.as (by rw[flat_drop hl];simp only[encVn,List.append_assoc]),b.d,b.k⟩
          clear hl
          have x0:=((hX.trans (b.b.hb.mono hX.size)).cell (p:=(ad'.add (k2*6))) hbk2).trans C0
          have x1:=((hX.trans (b.b.hb.mono hX.size)).cell (p:=⟨(ad'.add (k2*6)).block,(ad'.add (k2*6)).off+1,none⟩) hbk2).trans C1
          have x2:=((hX.trans (b.b.hb.mono hX.size)).cell (p:=⟨(ad'.add (k2*6)).block,(ad'.add (k2*6)).off+2,none⟩) hbk2).trans C2
          go_wp2_with fail
          refine(b.call fun hl=>xStamp a'.s _ hok.1).mono ?_
          rintro e u5 ⟨A5,n5,c5,rfl,b2⟩
          go_wp2_with (at_builtin;refine b2.app rfl _ _ rfl rfl rfl ?_;clear b;intro A0 m0 c0 P0 u6 b;have z3:=cl (b.k.cell 1);have x3:=((hX.trans (b.b.hb.mono hX.size)).cell (p:=⟨(ad'.add (k2*6)).block,(ad'.add (k2*6)).off+3,none⟩) hbk2).trans C3;have x4:=((hX.trans (b.b.hb.mono hX.size)).cell (p:=⟨(ad'.add (k2*6)).block,(ad'.add (k2*6)).off+4,none⟩) hbk2).trans C4;have x5:=((hX.trans (b.b.hb.mono hX.size)).cell (p:=⟨(ad'.add (k2*6)).block,(ad'.add (k2*6)).off+5,none⟩) hbk2).trans C5)
          refine(b.call fun hl=>xPut a'.v _ hok.2 hl).mono ?_
          rintro e u7 ⟨A5,n5,c5,rfl,b2⟩
          go_wp2_with (at_builtin;refine b2.app rfl _ _ rfl rfl rfl ?_;clear b;intro A0 m0 c0 P0 u8 b)
          go_roundw
          case rel=>exact⟨k2+1,_,_,_,_,by omega,by go_num,rfl,b⟩
          case measure=>simp[intOf];omega
        · have hd2:decide ((k2:Int)<(n':Int))=false:=by simp;omega
          rw[List.drop_of_length_le (by omega:a.vs.length≤k2)]at b
          go_wp2_with fail
          go_roundw
          case rel=>exact⟨k+1,_,_,_,_,by omega,by go_num,rfl,b.b⟩
          case measure=>simp[intOf];omega
  · have hd1:decide ((k:Int)<(n1:Int))=false:=by simp;omega
    rw[List.drop_of_length_le (by omega:s.h.length≤k)]at b
    replace b:BW X T (encI (n2:Int)++(s.p.flatMap encPn++[])) P0 A0 m0 c0 wr:=b
    have y11:=cl (K.cell 11)
    clear hwr
    go_wp2_with fail
    refine(b.call fun hl=>xint (n2:Int) _ (by omega) (by omega)).mono ?_
    rintro e u1 ⟨A5,n5,c5,rfl,b2⟩
    go_wp2_with (at_builtin;refine b2.app rfl _ _ rfl rfl rfl ?_;clear b K;intro A0 m0 c0 P0 u2 b;have K:=b.blk BX;have z11:=cl (K.cell 11))
    clear b2
    go_loopw [3,7] (fun out i wr=>∃(k:Nat) (A0:Option Addr) (m0 c0:Nat) (P0:List UInt8),k≤n2∧i=.int .i64 (k:Int)∧out=.slice A0 m0 c0∧BW X T ((s.p.drop k).flatMap encPn++[]) P0 A0 m0 c0 wr) (fun _ i _=>n2-(intOf i).toNat)
    case atStart=>exact⟨0,_,_,_,_,by omega,rfl,rfl,b⟩
    case round=>
        clear b K z11 y11 y10
        obtain⟨k3,A0,m0,c0,P0,hk3,rfl,rfl,b⟩:=hrel
        have K:=b.blk BX
        have y11:=cl (K.cell 11)
        have hwr:=hX.trans (b.hb.mono hX.size)
        by_cases hlt:k3<n2
        · obtain⟨ad,a,A3,n3,c3,A4,n4,c4,rfl,hl,hbk,hta,hsa,D0,D1,D2,D3,D4,D5,D6,D7,hq1,hq2,hS3,hq3,hq4,hS4⟩:=h2.pn hlt
          have x0:=(hwr.cell (p:=(ad.add (k3*8))) hbk).trans D0
          have x1:=(hwr.cell (p:=⟨(ad.add (k3*8)).block,(ad.add (k3*8)).off+1,none⟩) hbk).trans D1
          have x2:=(hwr.cell (p:=⟨(ad.add (k3*8)).block,(ad.add (k3*8)).off+2,none⟩) hbk).trans D2
          have x3:=(hwr.cell (p:=⟨(ad.add (k3*8)).block,(ad.add (k3*8)).off+3,none⟩) hbk).trans D3
          have x4:=(hwr.cell (p:=⟨(ad.add (k3*8)).block,(ad.add (k3*8)).off+4,none⟩) hbk).trans D4
          have x5:=(hwr.cell (p:=⟨(ad.add (k3*8)).block,(ad.add (k3*8)).off+5,none⟩) hbk).trans D5
          have x6:=(hwr.cell (p:=⟨(ad.add (k3*8)).block,(ad.add (k3*8)).off+6,none⟩) hbk).trans D6
          have x7:=(hwr.cell (p:=⟨(ad.add (k3*8)).block,(ad.add (k3*8)).off+7,none⟩) hbk).trans D7
          have hd1:decide ((k3:Int)<(n2:Int))=true:=by simp;omega
          have hk0:(0:Int)≤(k3:Int):=by omega
          have hk1:(k3:Int)<(n2:Int):=by omega
          have bA:=b.as (suf':=encTx a.t++(encSp a.s++(encLs encKy a.r++(encLs encWt a.w++((s.p.drop (k3+1)).flatMap encPn++[]))))) (by rw[flat_drop hl];simp only[encPn,List.append_assoc])
          have hA:Below wr.heap.size wr (wr.alloc (.cells #[.int .i64 a.t.c,.int .i64 a.t.l,.int .i64 a.t.s,.int .i64 a.s.w,.int .i64 a.s.l,.int .i64 a.s.n,.slice A3 n3 c3,.slice A4 n4 c4] 162)):=by go_grown
          have kP:Blk (wr.alloc (.cells #[.int .i64 a.t.c,.int .i64 a.t.l,.int .i64 a.t.s,.int .i64 a.s.w,.int .i64 a.s.l,.int .i64 a.s.n,.slice A3 n3 c3,.slice A4 n4 c4] 162)) wr.heap.size 162 #[.int .i64 a.t.c,.int .i64 a.t.l,.int .i64 a.t.s,.int .i64 a.s.w,.int .i64 a.s.l,.int .i64 a.s.n,.slice A3 n3 c3,.slice A4 n4 c4]:=Blk.new _ _ _
          have lH:wr.heap.size<wr.heap.size+1:=by omega
          clear b hl K
          have b:BB X T _ P0 A0 m0 c0 _ wr.heap.size 162 #[.int .i64 a.t.c,.int .i64 a.t.l,.int .i64 a.t.s,.int .i64 a.s.w,.int .i64 a.s.l,.int .i64 a.s.n,.slice A3 n3 c3,.slice A4 n4 c4]:=⟨bA.below hA,by decide,kP⟩
          clear bA hA kP
          go_wp2_with fail
          refine(b.call fun hl=>xTxn a.t _ hta).mono ?_
          rintro e u3 ⟨A5,n5,c5,rfl,b2⟩
          go_wp2_with (at_builtin;refine b2.app rfl _ _ rfl rfl rfl ?_;clear b;intro A0 m0 c0 P0 u4 b;have z3:=cl (b.k.cell 3);have z4:=cl (b.k.cell 4);have z5:=cl (b.k.cell 5))
          refine(b.call fun hl=>xStamp a.s _ hsa).mono ?_
          rintro e u5 ⟨A5,n5,c5,rfl,b2⟩
          go_wp2_with (at_builtin;refine b2.app rfl _ _ rfl rfl rfl ?_;clear b;intro A0 m0 c0 P0 u6 b;have z6:=cl (b.k.cell 6))
          refine(b.call fun hl=>xTexts A3 n3 c3 a.r _ ((hS3.below KyRel.kept (hX.trans (b.b.hb.mono hX.size))).more KyRel.kept (hX.trans (b.b.hb.mono hX.size)).size) (Nat.le_trans hq1 hq2) hl).mono ?_
          rintro e u7 ⟨A5,n5,c5,rfl,b2⟩
          go_wp2_with (at_builtin;refine b2.app rfl _ _ rfl rfl rfl ?_;clear b;intro A0 m0 c0 P0 u8 b;have z7:=cl (b.k.cell 7))
          refine(b.call fun hl=>xWrites A4 n4 c4 a.w _ ((hS4.below WtRel.kept (hX.trans (b.b.hb.mono hX.size))).more WtRel.kept (hX.trans (b.b.hb.mono hX.size)).size) (Nat.le_trans hq3 hq4) hl).mono ?_
          rintro e u9 ⟨A5,n5,c5,rfl,b2⟩
          go_wp2_with (at_builtin;refine b2.app rfl _ _ rfl rfl rfl ?_;clear b;intro A0 m0 c0 P0 u10 b)
          go_roundw
          case rel=>exact⟨k3+1,_,_,_,_,by omega,by go_num,rfl,b.b⟩
          case measure=>simp[intOf];omega
        · have hd1:decide ((k3:Int)<(n2:Int))=false:=by simp;omega
          rw[List.drop_of_length_le (by omega:s.p.length≤k3)]at b
          go_wp2_with fail
          go_ret
          exact RowPost.down hX b.post
end Go.Proofs.YtcalkfgibflbnaaGreat
