/- The walk of recs.Decode: any bytes. -/
import Derived.Test.YthdmanadhbpogaaGreatJaab
import Derived.Test.YthdmanadhbpogaaGreatJabi
import Derived.Test.YthdmanadhbpogaaGreatJadb
namespace Go.Proofs.YthdmanadhbpogaaGreat
set_option maxHeartbeats 4000000
set_option maxRecDepth 100000
set_option linter.unusedVariables false
open Go.RowKit Fl
attribute [local go_sem] run_store_float
theorem assert_stop (t:TypeId) (w:World):(Instr.typeAssert (.iface 114 (.agg #[])) t 114 true).run Tryz.prog w=.ok (.tuple #[.agg #[],.bool true]) w:=by
 simp[go_sem,Instr.typeAssert]
abbrev stopE (r:Bool):PanicEntry:={v:=.iface 114 (.agg #[]),recovered:=r}
theorem catch_stop (g k:Nat) (cs:Array Value) (x:Int) (w:World) (hb:Blk w g 38 cs) (hcs:cs.size=29) (hk:Blk w k 42 #[.int .i64 x]) (hne:g≠k):
 CallsD Tryz.prog 64 #[.pointer (some ⟨g,0,none⟩),.pointer (some ⟨k,0,none⟩)] (.panicking [stopE false]) w fun e u' w'=>e=.returned (.tuple #[])∧u'=.panicking [stopE true]∧Blk w' g 38 zRec∧Blk w' k 42 #[.int .i64 4]∧Two2 w w' g k:=by
 have hta:=assert_stop
 refine callsD_of_wpS Tryz.func64 rfl fun c₀ cs' hu=>?_
 apply wpS_seq
 apply wpS_region
 simp[wpOpsS,go_sem,recoverD,hu,Tryz.ntmps64,Exit.thenS]
 refine wpS_of_wp ?_
 have hX:Below w.heap.size w (w.alloc (.cells #[] 114)):=by go_grown
 have hb1:=hb.below hX hb.lt
 have hk1:=hk.below hX hk.lt
 go_wp2_with (first
  |(guard_target=~ wpList _ _ _ _ _ _;refine wpList_store_row rfl 38 _ _ rfl g zRec (by kernel_rfl) (by kernel_rfl) _ _ hb1 (by kernel_rfl) (by rw[hcs];rfl) (by kernel_rfl) ?_
    obtain⟨W5,hW5⟩:∃W5:World,W5=(w.alloc (.cells #[] 114)).setRow g zRec:=⟨_,rfl⟩
    rw[←hW5]
    have B5:Blk W5 g 38 zRec:=by rw[hW5];exact hb1.setRow _
    have E5:Blk W5 k 42 #[.int .i64 x]:=by rw[hW5];exact hk1.setRow_far _ (by omega)
    have z5:=cl (E5.cell 0)
    have f5:W5.frozen? ⟨k,0,none⟩=false:=E5.frozen 0
    have HW:=Lib.hid hW5
    clear hW5))
 refine⟨rfl,.panicking [stopE true],rfl,.tuple #[],by simp[results,Tryz.results64],rfl,rfl,?_,E5.set_ 0 (.int .i64 4),?_⟩
 · exact B5.far (p:=⟨k,0,none⟩) hne _
 · refine⟨?_,?_,?_,?_,fun j hj h1 h2=>?_⟩
   all_goals rw[HW.out]
   · rfl
   · rfl
   · rfl
   · show w.heap.size≤(((w.alloc (.cells #[] 114)).setRow g zRec).setCell ⟨k,0,none⟩ (.int .i64 4)).heap.size
     simp[World.setRow,World.setCell]
   · rw[Below.heap_setCell _ _ _ _ h2]
     have h3:((w.alloc (.cells #[] 114)).setRow g zRec).heap[j]?=(w.alloc (.cells #[] 114)).heap[j]?:=by
        simp[World.setRow,Array.getElem?_modify,Ne.symm h1]
     rw[h3]
     exact hX.block j hj
abbrev zRc:Rc:=⟨0,zTx,zSp,zSp,false,0,0,[],[],[],[],zSt⟩
def decE (l:List UInt8):Int:=
 if 262144<l.length then 4 else if (rRc l ⟨0,0,0⟩).2.e≠0 then 4 else if (rEnd l (rRc l ⟨0,0,0⟩).2).1≠0 then 4 else if encE (rRc l ⟨0,0,0⟩).1≠0 then 4 else if encOut (rRc l ⟨0,0,0⟩).1≠l then 4 else 0
def decR (l:List UInt8):Rc:=if decE l=0 then (rRc l ⟨0,0,0⟩).1 else zRc
def RecE (w:World) (r:Rc) (er:Int):Ending→World→Prop:=fun e w'=>∃h:Hds,e=.returned (.tuple #[.agg (r.vals h),.int .i64 er])∧r.ok∧h.caps∧RcIn w' r h∧Below w.heap.size w w'
theorem zRc_ok:zRc.ok:=⟨i64z,zTx_ok,zSp_ok,zSp_ok,i64z,(by show 0<_;omega),zRg_ok,zSp_ok,zSp_ok⟩
theorem RecE.zero {w w':World} {e:Ending} (er:Int) (he:e=.returned (.tuple #[.agg zRec,.int .i64 er])) (hb:Below w.heap.size w w'):RecE w zRc er e w':=
 ⟨⟨Hd.nil,Hd.nil,Hd.nil,Hd.nil,Hd.nil,Hd.nil⟩,he,zRc_ok,⟨capZ,capZ,capZ,capZ,capZ,capZ⟩,⟨Sl.nil,Sl.nil,Sl.nil,Sl.nil,Sl.nil,Sl.nil,Nat.zero_le _,Nat.zero_le _,Nat.zero_le _,Nat.zero_le _,Nat.zero_le _,Nat.zero_le _⟩,hb⟩
theorem RcLo.in {K:Nat→Bool} {w:World} {r:Rc} {h:Hds} (i:RcLo (only K w) w.heap.size r h):RcIn w r h:=by
 have hk:∀p u,p.block<w.heap.size→(only K w).cell? p=some u→w.cell? p=some u:=fun p u _ hc=>(only_cell hc).2
 exact⟨i.rd.mono KyRel.mono hk,i.wr.mono WtRel.mono hk,i.ps.mono NmRel.mono hk,i.pr.mono WtRel.mono hk,i.hs.mono HsRel.mono hk,i.pn.mono PnRel.mono hk,i.na,i.nb,i.nc,i.nd,i.ne,i.nf⟩
theorem RcLo.stay {K:Nat→Bool} {w w':World} {N:Nat} {r:Rc} {h:Hds} (i:RcLo (only K w) N r h) (hb:∀k,K k=true→w'.heap[k]?=w.heap[k]?) (hN:N≤w'.heap.size):RcIn w' r h:=by
 have hs:∀p:Addr,p.block<N→(only K w').cell? p=(only K w).cell? p:=fun p _=>only_same hb p
 have j:RcLo (only K w') w'.heap.size r h:=
  RcLo.more ⟨i.rd.keep KyRel.kept hs,i.wr.keep WtRel.kept hs,i.ps.keep NmRel.kept hs,i.pr.keep WtRel.kept hs,i.hs.keep HsRel.kept hs,i.pn.keep PnRel.kept hs,i.na,i.nb,i.nc,i.nd,i.ne,i.nf⟩ hN
 exact j.in
theorem decode_any (A:Option Addr) (n c:Nat) (l:List UInt8) (w:World) (h:Reads w w.heap.size 1 A n (bytesV l)) (hsm:n≤1000000000000):
 Calls Tryz.prog 23 #[.slice A n c] w (RecE w (decR l) (decE l)):=by
 have hmf:∀(fn:Fn) (first cap:Array Value) (w:World),(Instr.makeFunc fn first cap).run Tryz.prog w=.ok (.func fn first cap) w:=fun _ _ _ _=>rfl
 have hll:l.length=n:=by have:=h.1;simpa using this
 have HE:=Lib.hid (show decE l=if 262144<l.length then 4 else if (rRc l ⟨0,0,0⟩).2.e≠0 then 4 else if (rEnd l (rRc l ⟨0,0,0⟩).2).1≠0 then 4 else if encE (rRc l ⟨0,0,0⟩).1≠0 then 4 else if encOut (rRc l ⟨0,0,0⟩).1≠l then 4 else 0 from rfl)
 have HR:=Lib.hid (show decR l=if decE l=0 then (rRc l ⟨0,0,0⟩).1 else zRc from rfl)
 generalize decE l=dE at*
 generalize decR l=dR at*
 go_enter_defers Tryz.func23,Tryz.ntmps23
 have B0:Blk ((w.alloc (.cells zRec 38)).alloc (.cells #[.int .i64 0] 42)) w.heap.size 38 zRec:=(Blk.new _ _ _).alloc _
 have E0:Blk ((w.alloc (.cells zRec 38)).alloc (.cells #[.int .i64 0] 42)) (w.heap.size+1) 42 #[.int .i64 0]:=Blk.new' _ _ (by simp)
 have hX:Below w.heap.size w ((w.alloc (.cells zRec 38)).alloc (.cells #[.int .i64 0] 42)):=by go_grown
 have hXs:w.heap.size+1<(((w.alloc (.cells zRec 38)).alloc (.cells #[.int .i64 0] 42))).heap.size:=by simp
 by_cases hn:262144<n
 · have hd0:decide ((n:Int)>262144)=true:=by simp;omega
   have hd1:262144<(n:Int):=by omega
   have hE4:dE=4:=by rw[HE.out,if_pos (by omega)]
   have hR4:dR=zRc:=by rw[HR.out,if_neg (by omega)]
   subst hE4 hR4
   clear h HE HR
   go_wp2_with (first
    |(guard_target=~ wpList _ _ _ _ _ _;refine wpList_store_row rfl 38 _ _ rfl w.heap.size zRec (by kernel_rfl) (by kernel_rfl) _ _ B0 (by kernel_rfl) (by kernel_rfl) (by kernel_rfl) ?_
      obtain⟨W5,hW5⟩:∃W5:World,W5=((w.alloc (.cells zRec 38)).alloc (.cells #[.int .i64 0] 42)).setRow w.heap.size zRec:=⟨_,rfl⟩
      rw[←hW5]
      have B5:Blk W5 w.heap.size 38 zRec:=by rw[hW5];exact B0.setRow _
      have E5:Blk W5 (w.heap.size+1) 42 #[.int .i64 0]:=by rw[hW5];exact E0.setRow_far _ (by omega)
      have hX5:Below w.heap.size w W5:=by rw[hW5];exact below_setRow hX (Nat.le_refl _) _
      have z5:=cl (E5.cell 0)
      have f5:W5.frozen? ⟨w.heap.size+1,0,none⟩=false:=E5.frozen 0
      clear hW5))
   have B6:=B5.far (p:=⟨w.heap.size+1,0,none⟩) (by simp) (.int .i64 4)
   have E6:=E5.set_ 0 (.int .i64 4)
   have hX6:=hX5.setCell (p:=⟨w.heap.size+1,0,none⟩) (by simp) (.int .i64 4)
   refine leaves_cons (f:=64) (args:=#[.pointer (some ⟨w.heap.size,0,none⟩),.pointer (some ⟨w.heap.size+1,0,none⟩)]) (by simp) (by simp[go_sem]) ?_
   refine(catch_idle _ _ _).mono ?_
   rintro e u w7 ⟨rfl,rfl,rfl⟩
   exact decode_door rfl rfl rfl B6 E6 (by kernel_rfl) (RecE.zero 4 rfl hX6)
 · have hd0:decide ((n:Int)>262144)=false:=by simp;omega
   have hRX:=(h.below hX).more hX.size
   go_wp2_with fail
   refine(wRNew A n c l _ hRX hsm).mono ?_
   rintro e w1 ⟨A1,n1,c1,rfl,hz,hge,hrd,had,hb1⟩
   have B1:=B0.below hb1 B0.lt
   have E1:=E0.below hb1 E0.lt
   have hX1:=hX.trans (hb1.mono hX.size)
   have hR:=h
   clear B0 E0 hb1 hX hRX h
   obtain⟨g,hg⟩:∃g,g=w1.heap.size-1:=⟨_,rfl⟩
   rw[←hg]at hge hrd ⊢
   have hgl:g<w1.heap.size:=by omega
   have HG:=Lib.hid hg
   clear hg
   have hD:Below w1.heap.size w1 (w1.alloc (.cells #[.pointer none,.pointer (some ⟨g,0,none⟩)] 109)):=by go_grown
   have hbg:w.heap.size≠g:=by omega
   have hbc:w.heap.size≠w1.heap.size:=by omega
   have hC:CR (w1.alloc (.cells #[.pointer none,.pointer (some ⟨g,0,none⟩)] 109)) g A1 n1 c1 l ⟨0,0,0⟩ w1.heap.size:=
    ⟨hrd.below hD,Blk.new _ _ _,by omega,fun a ha hn=>by
        obtain⟨ad,e,hlt,_⟩:=hrd.reads.2 hn
        rw[ha]at e
        obtain rfl:=Option.some.inj e
        omega⟩
   have B2:=B1.below hD B1.lt
   have E2:=E1.below hD E1.lt
   have hX2:=hX1.trans (hD.mono hX1.size)
   have DD:Dst (w1.alloc (.cells #[.pointer none,.pointer (some ⟨g,0,none⟩)] 109)) A1 n1 g w1.heap.size w.heap.size 38 zRec 0 []:=⟨B2,has_of rfl,hbg,hbc,fun a ha _=>by have:=had a ha;omega⟩
   have hgY:g<(w1.alloc (.cells #[.pointer none,.pointer (some ⟨g,0,none⟩)] 109)).heap.size:=by simp;omega
   have hWW:w.heap.size≤g:=by omega
   have hE3:w.heap.size+1≠g:=by omega
   have hW:=walkR_any _ g A1 n1 c1 l ⟨0,0,0⟩ w1.heap.size w.heap.size hC rfl DD
   have hcnt:=rRc_cnt l ⟨0,0,0⟩
   have henc:=rRc_enc l ⟨0,0,0⟩ (Nat.zero_le _)
   generalize rRc l ⟨0,0,0⟩=x at*
   obtain⟨r,s1⟩:=x
   simp only at henc
   clear B1 E1 hX1 hD had hge hrd hXs B2 DD hC
   go_wp2_with fail
   refine hW.mono ?_
   rintro e w2 ⟨hC2,t2,⟨e2,rfl,vs,l2,k2,n2⟩|⟨e2,rfl,cs2,l2,k2⟩⟩
   rotate_left
   · have E3:Blk w2 (w.heap.size+1) 42 #[.int .i64 0]:=(t2.block _ E2.lt hE3 (by omega)).trans E2
     have hX3:Below w.heap.size w w2:=hX2.trans (t2.below hWW (Nat.le_refl _) hX2.size)
     have hE4:dE=4:=by rw[HE.out,if_neg (by omega),if_pos e2]
     have hR4:dR=zRc:=by rw[HR.out,if_neg (by omega)]
     subst hE4 hR4
     show Leaves _ _ _ _ _ _ _
     refine leaves_cons (f:=64) (args:=#[.pointer (some ⟨w.heap.size,0,none⟩),.pointer (some ⟨w.heap.size+1,0,none⟩)]) (by simp) (by simp[go_sem]) ?_
     refine(catch_stop w.heap.size (w.heap.size+1) cs2 0 w2 k2 (l2.trans rfl) E3 (by omega)).mono ?_
     rintro e u w7 ⟨rfl,rfl,B7,E7,t7⟩
     exact decode_door rfl rfl rfl B7 E7 (by kernel_rfl) (RecE.zero 4 rfl (hX3.trans (t7.below (Nat.le_refl _) (by omega) hX3.size)))
   have E3:Blk w2 (w.heap.size+1) 42 #[.int .i64 0]:=(t2.block _ E2.lt hE3 (by omega)).trans E2
   have hX3:Below w.heap.size w w2:=hX2.trans (t2.below hWW (Nat.le_refl _) hX2.size)
   obtain⟨hd,rfl,rok,rcp,rlo⟩:=n2
   rw[put_all _ zRec (by rfl),Array.toArray_toList]at k2
   have rin:=rlo.in
   have rsm:RcSm r hd:=hcnt.sm (by omega) rin.rd.1 rin.wr.1 rin.ps.1 rin.pr.1
   have rlen:(encRc r).length≤n:=by
    have h2:=congrArg List.length (henc e2).2
    rw[List.take_zero,List.nil_append,List.length_take]at h2
    omega
   have hE:=wREnd g A1 n1 c1 l s1 w2 hC2.rd
   have hlow:=Lib.hid E2.lt
   have HE':=Lib.hid (show dE=if (rEnd l s1).1≠0 then 4 else if encE r≠0 then 4 else if encOut r≠l then 4 else 0 by rw[HE.out,if_neg (by omega),if_neg (by simp;exact e2)])
   clear hW E2 hX2 t2 hz hcnt henc HE l2
   have RL:=Lib.hid rlo
   clear rlo
   go_wp2_with fail
   refine hE.mono ?_
   rintro e w3 ⟨rfl,q,rfl⟩
   have hQ:Below w2.heap.size w2 (w2.drewN q):=belowN _
   have B4:=k2.below hQ k2.lt
   have E4:=E3.below hQ E3.lt
   have hX4:=hX3.trans (hQ.mono hX3.size)
   have rin4:=rin.below hQ
   have hR4:=(hR.below hX4).more hX4.size
   have z4:=cl (E4.cell 0)
   clear hE hC2 k2 E3 hX3 hQ hR rin
   by_cases he1:(rEnd l s1).1=0
   · have hb1:((rEnd l s1).1==0)=true:=by simp[he1]
     have hN:=encode_any r hd (w2.drewN q) rok rin4 rcp rsm (by omega)
     have hEq:∀(W:World) (A5:Option Addr) (c5:Nat),Reads W W.heap.size 1 A5 (encOut r).length (bytesV (encOut r))→Reads W W.heap.size 1 A n (bytesV l)→Calls Tryz.prog 65 #[.slice A5 (encOut r).length c5,.slice A n c] W fun e w'=>e=.returned (.bool (encOut r==l))∧W=w':=fun W A5 c5 h1 h2=>bequal W h1 h2
     go_wp2_with (first
        |(guard_target=~ wpList _ _ _ _ _ _;refine wpList_load_row rfl 38 _ rfl w.heap.size (by kernel_rfl) _ _ (0,0) _ B4 rfl rfl (by kernel_rfl) ?_)
        |fail)
     refine hN.mono ?_
     rintro e w4 ⟨A5,c5,rfl,hq5,hm5,hown5,hb5⟩
     have B5:=B4.below hb5 B4.lt
     have E5:=E4.below hb5 E4.lt
     have hX5:=hX4.trans (hb5.mono hX4.size)
     have hR5:=(hR4.below hb5).more hb5.size
     have HB5:=Lib.hid hb5
     have hO5:Reads w4 w4.heap.size 1 A5 (encOut r).length (bytesV (encOut r)):=Reads.of_own hown5
     have z5:=cl (E5.cell 0)
     have hq:=hEq w4 A5 c5 hO5 hR5
     clear hown5 hb5 hR4 hN hEq B4 E4 z4 hX4 rin4
     by_cases he2:encE r=0
     · have hb2:(encE r==0)=true:=by simp[he2]
       go_wp2_with fail
       refine hq.mono ?_
       rintro e w5 ⟨rfl,rfl⟩
       by_cases he3:encOut r=l
       · have hb3:(encOut r==l)=true:=by simp[he3]
         have hE0:dE=0:=by rw[HE'.out,if_neg (by omega),if_neg (by omega),if_neg (by simp[he3])]
         have hR0:dR=r:=by rw[HR.out,if_pos hE0]
         subst hE0 hR0
         go_wp2_with (first
          |(guard_target=~ wpList _ _ _ _ _ _;refine wpList_load_row rfl 38 _ rfl w.heap.size (by kernel_rfl) _ _ (0,0) _ B5 rfl rfl (by kernel_rfl) ?_)
          |(guard_target=~ wpList _ _ _ _ _ _;refine wpList_store_row rfl 38 _ _ rfl w.heap.size (dR.vals hd) (by kernel_rfl) (by kernel_rfl) _ _ B5 (by kernel_rfl) (by kernel_rfl) (by kernel_rfl) ?_
            obtain⟨W6,hW6⟩:∃W6:World,W6=w4.setRow w.heap.size (dR.vals hd):=⟨_,rfl⟩
            rw[←hW6]
            have B6:Blk W6 w.heap.size 38 (dR.vals hd):=by rw[hW6];exact B5.setRow _
            have E6:Blk W6 (w.heap.size+1) 42 #[.int .i64 0]:=by rw[hW6];exact E5.setRow_far _ (by omega)
            have hX6:Below w.heap.size w W6:=by rw[hW6];exact below_setRow hX5 (Nat.le_refl _) _
            have hS6:∀k,k≠w.heap.size→W6.heap[k]?=w4.heap[k]?:=fun k hk=>by rw[hW6];simp[World.setRow,Array.getElem?_modify,Ne.symm hk]
            have hZ6:w4.heap.size≤W6.heap.size:=by rw[hW6];simp[World.setRow]
            have z6:=cl (E6.cell 0)
            have f6:W6.frozen? ⟨w.heap.size+1,0,none⟩=false:=E6.frozen 0
            clear hW6))
         have B7:=B6.far (p:=⟨w.heap.size+1,0,none⟩) (by simp) (.int .i64 0)
         have E7:=E6.set_ 0 (.int .i64 0)
         have hX7:=hX6.setCell (p:=⟨w.heap.size+1,0,none⟩) (by simp) (.int .i64 0)
         have rin7:RcIn (W6.setCell ⟨w.heap.size+1,0,none⟩ (.int .i64 0)) dR hd:=RL.out.stay (fun k hk=>by
          rw[rng_iff]at hk
          have h1:=hlow.out
          rw[Below.heap_setCell _ _ _ _ (by simp;omega),hS6 k (by omega)]
          exact HB5.out.block k hk.2) (by have:=HB5.out.size;have hz:(w2.drewN q).heap.size=w2.heap.size:=rfl;simp only[World.size_setCell];omega)
         refine leaves_cons (f:=64) (args:=#[.pointer (some ⟨w.heap.size,0,none⟩),.pointer (some ⟨w.heap.size+1,0,none⟩)]) (by simp) (by simp[go_sem]) ?_
         refine(catch_idle _ _ _).mono ?_
         rintro e u w7 ⟨rfl,rfl,rfl⟩
         exact decode_door rfl rfl rfl B7 E7 (by kernel_rfl) ⟨hd,rfl,rok,rcp,rin7,hX7⟩
       · have hb3:(encOut r==l)=false:=by simp[he3]
         have hE4:dE=4:=by rw[HE'.out,if_neg (by omega),if_neg (by omega),if_pos he3]
         have hR4:dR=zRc:=by rw[HR.out,if_neg (by omega)]
         subst hE4 hR4
         go_wp2_with (first
         |(guard_target=~ wpList _ _ _ _ _ _;refine wpList_store_row rfl 38 _ _ rfl w.heap.size zRec (by kernel_rfl) (by kernel_rfl) _ _ B5 (by kernel_rfl) (by kernel_rfl) (by kernel_rfl) ?_
           obtain⟨W5,hW5⟩:∃W5:World,W5=w4.setRow w.heap.size zRec:=⟨_,rfl⟩
           rw[←hW5]
           have Nb:Blk W5 w.heap.size 38 zRec:=by rw[hW5];exact B5.setRow _
           have Ne:Blk W5 (w.heap.size+1) 42 #[.int .i64 0]:=by rw[hW5];exact E5.setRow_far _ (by omega)
           have hNx:Below w.heap.size w W5:=by rw[hW5];exact below_setRow hX5 (Nat.le_refl _) _
           have zN:=cl (Ne.cell 0)
           have fN:W5.frozen? ⟨w.heap.size+1,0,none⟩=false:=Ne.frozen 0
           clear hW5))
         have B6:=Nb.far (p:=⟨w.heap.size+1,0,none⟩) (by simp) (.int .i64 4)
         have E6:=Ne.set_ 0 (.int .i64 4)
         have hX6:=hNx.setCell (p:=⟨w.heap.size+1,0,none⟩) (by simp) (.int .i64 4)
         refine leaves_cons (f:=64) (args:=#[.pointer (some ⟨w.heap.size,0,none⟩),.pointer (some ⟨w.heap.size+1,0,none⟩)]) (by simp) (by simp[go_sem]) ?_
         refine(catch_idle _ _ _).mono ?_
         rintro e u w7 ⟨rfl,rfl,rfl⟩
         exact decode_door rfl rfl rfl B6 E6 (by kernel_rfl) (RecE.zero 4 rfl hX6)
     · have hb2:(encE r==0)=false:=by simp[he2]
       have hE4:dE=4:=by rw[HE'.out,if_neg (by omega),if_pos he2]
       have hR4:dR=zRc:=by rw[HR.out,if_neg (by omega)]
       subst hE4 hR4
       go_wp2_with (first
       |(guard_target=~ wpList _ _ _ _ _ _;refine wpList_store_row rfl 38 _ _ rfl w.heap.size zRec (by kernel_rfl) (by kernel_rfl) _ _ B5 (by kernel_rfl) (by kernel_rfl) (by kernel_rfl) ?_
         obtain⟨W5,hW5⟩:∃W5:World,W5=w4.setRow w.heap.size zRec:=⟨_,rfl⟩
         rw[←hW5]
         have Nb:Blk W5 w.heap.size 38 zRec:=by rw[hW5];exact B5.setRow _
         have Ne:Blk W5 (w.heap.size+1) 42 #[.int .i64 0]:=by rw[hW5];exact E5.setRow_far _ (by omega)
         have hNx:Below w.heap.size w W5:=by rw[hW5];exact below_setRow hX5 (Nat.le_refl _) _
         have zN:=cl (Ne.cell 0)
         have fN:W5.frozen? ⟨w.heap.size+1,0,none⟩=false:=Ne.frozen 0
         clear hW5))
       have B6:=Nb.far (p:=⟨w.heap.size+1,0,none⟩) (by simp) (.int .i64 4)
       have E6:=Ne.set_ 0 (.int .i64 4)
       have hX6:=hNx.setCell (p:=⟨w.heap.size+1,0,none⟩) (by simp) (.int .i64 4)
       refine leaves_cons (f:=64) (args:=#[.pointer (some ⟨w.heap.size,0,none⟩),.pointer (some ⟨w.heap.size+1,0,none⟩)]) (by simp) (by simp[go_sem]) ?_
       refine(catch_idle _ _ _).mono ?_
       rintro e u w7 ⟨rfl,rfl,rfl⟩
       exact decode_door rfl rfl rfl B6 E6 (by kernel_rfl) (RecE.zero 4 rfl hX6)
   · have hb1:((rEnd l s1).1==0)=false:=by simp[he1]
     have hE4:dE=4:=by rw[HE'.out,if_pos he1]
     have hR4:dR=zRc:=by rw[HR.out,if_neg (by omega)]
     subst hE4 hR4
     go_wp2_with (first
     |(guard_target=~ wpList _ _ _ _ _ _;refine wpList_store_row rfl 38 _ _ rfl w.heap.size zRec (by kernel_rfl) (by kernel_rfl) _ _ B4 (by kernel_rfl) (by kernel_rfl) (by kernel_rfl) ?_
       obtain⟨W5,hW5⟩:∃W5:World,W5=(w2.drewN q).setRow w.heap.size zRec:=⟨_,rfl⟩
       rw[←hW5]
       have Nb:Blk W5 w.heap.size 38 zRec:=by rw[hW5];exact B4.setRow _
       have Ne:Blk W5 (w.heap.size+1) 42 #[.int .i64 0]:=by rw[hW5];exact E4.setRow_far _ (by omega)
       have hNx:Below w.heap.size w W5:=by rw[hW5];exact below_setRow hX4 (Nat.le_refl _) _
       have zN:=cl (Ne.cell 0)
       have fN:W5.frozen? ⟨w.heap.size+1,0,none⟩=false:=Ne.frozen 0
       clear hW5))
     have B6:=Nb.far (p:=⟨w.heap.size+1,0,none⟩) (by simp) (.int .i64 4)
     have E6:=Ne.set_ 0 (.int .i64 4)
     have hX6:=hNx.setCell (p:=⟨w.heap.size+1,0,none⟩) (by simp) (.int .i64 4)
     refine leaves_cons (f:=64) (args:=#[.pointer (some ⟨w.heap.size,0,none⟩),.pointer (some ⟨w.heap.size+1,0,none⟩)]) (by simp) (by simp[go_sem]) ?_
     refine(catch_idle _ _ _).mono ?_
     rintro e u w7 ⟨rfl,rfl,rfl⟩
     exact decode_door rfl rfl rfl B6 E6 (by kernel_rfl) (RecE.zero 4 rfl hX6)
end Go.Proofs.YthdmanadhbpogaaGreat
