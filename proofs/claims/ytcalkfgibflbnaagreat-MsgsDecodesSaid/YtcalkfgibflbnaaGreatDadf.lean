/- The walk of msgs.Decode: any bytes. -/
import Derived.Test.YtcalkfgibflbnaaGreatDade
namespace Go.Proofs.YtcalkfgibflbnaaGreat
set_option maxHeartbeats 4000000
set_option maxRecDepth 100000
set_option linter.unusedVariables false
open Go.RowKit Fl
attribute [local go_sem] run_store_float
abbrev zMsg:Array Value:=#[.int .i64 0,.int .i64 0,.int .i64 0,.int .i64 0,.int .i64 0,.int .i64 0,.int .i64 0,.int .i64 0,.int .i64 0,.int .i64 0,.int .i64 0,.int .i64 0,.int .i64 0,.int .i64 0,.int .i64 0,.bool false,.int .i64 0,.int .i64 0,.slice none 0 0,.slice none 0 0,.slice none 0 0,.slice none 0 0,.slice none 0 0,.slice none 0 0,.int .i64 0,.int .i64 0,.float .f64 0,.float .f64 0,.int .i64 0,.int .i64 0,.int .i64 0,.int .i64 0,.int .i64 0,.int .i64 0,.slice none 0 0,.slice none 0 0]
def mdecE (l:List UInt8):Int:=
 if 4194304<l.length then 4 else if (rMsg l ⟨0,0,0⟩).2.e≠0 then 4 else if (rEnd l (rMsg l ⟨0,0,0⟩).2).1≠0 then 4 else if mencE (rMsg l ⟨0,0,0⟩).1 (encMg (rMsg l ⟨0,0,0⟩).1)≠0 then 4 else if mencOut (rMsg l ⟨0,0,0⟩).1 (encMg (rMsg l ⟨0,0,0⟩).1)≠l then 4 else 0
def mdecR (l:List UInt8):Mg:=if mdecE l=0 then (rMsg l ⟨0,0,0⟩).1 else zMg
theorem MgLo.inn {K:Nat→Bool} {w:World} {m:Mg} {h:Hm} (i:MgLo (only K w) w.heap.size m h):MgLo w w.heap.size m h:=i.mn fun p u _ hc=>(only_cell hc).2
theorem catch_idleM (p q:Addr) (w:World):
 CallsD Tryz.prog 46 #[.pointer (some p),.pointer (some q)] .returning w fun e u' w'=>e=.returned (.tuple #[])∧u'=.returning∧w=w':=by
 refine callsD_of_wpS Tryz.func46 rfl fun c₀ cs hu=>?_
 apply wpS_seq
 apply wpS_region
 simp[wpOpsS,go_sem,recoverD,hu,Tryz.ntmps46,Exit.thenS]
 refine wpS_of_wp ?_
 go_wp2
 cases c₀
 simp_all [bodyPostS,results,Tryz.results46]
theorem decode_doorM {fn:Func} {tmps:Array Value} {R:Ending→World→Prop} {w:World} {p q:Tmp} {g k:Nat} {cs:Array Value} {x:Int} (h:fn.results=#[.cell p 41,.cell q 24]) (hp:tmps.getD p undef=.pointer (some ⟨g,0,none⟩)) (hq:tmps.getD q undef=.pointer (some ⟨k,0,none⟩))
 (hb:Blk w g 41 cs) (hb':Blk w k 24 #[.int .i64 x]) (hi:(Tryz.prog.info? 41).map (·.size)=some cs.size) (hR:R (.returned (.tuple #[.agg cs,.int .i64 x])) w):Leaves Tryz.prog fn tmps R [] .returning w:=by
 have hp':tmps[p]?.getD undef=.pointer (some ⟨g,0,none⟩):=by simpa using hp
 have hq':tmps[q]?.getD undef=.pointer (some ⟨k,0,none⟩):=by simpa using hq
 refine⟨_,?_,hR⟩
 simp[results,h,hp',hq',asAddr,run_loadVar_blk hb Tryz.underlying41 rfl hi,run_errnoY hb',Sem.run_bind,Result.andThen]
theorem catch_stopM (g k:Nat) (cs:Array Value) (x:Int) (w:World) (hb:Blk w g 41 cs) (hcs:cs.size=36) (hk:Blk w k 24 #[.int .i64 x]) (hne:g≠k):
 CallsD Tryz.prog 46 #[.pointer (some ⟨g,0,none⟩),.pointer (some ⟨k,0,none⟩)] (.panicking [stopY false]) w fun e u' w'=>e=.returned (.tuple #[])∧u'=.panicking [stopY true]∧Blk w' g 41 zMsg∧Blk w' k 24 #[.int .i64 4]∧Two2 w w' g k:=by
 have hta:=assert_stopY
 refine callsD_of_wpS Tryz.func46 rfl fun c₀ cs' hu=>?_
 apply wpS_seq
 apply wpS_region
 simp[wpOpsS,go_sem,recoverD,hu,Tryz.ntmps46,Exit.thenS]
 refine wpS_of_wp ?_
 have hX:Below w.heap.size w (w.alloc (.cells #[] 93)):=by go_grown
 have hb1:=hb.below hX hb.lt
 have hk1:=hk.below hX hk.lt
 go_wp2_with (first
  |(guard_target=~ wpList _ _ _ _ _ _;refine wpList_store_row rfl 41 _ _ rfl g zMsg (by kernel_rfl) (by kernel_rfl) _ _ hb1 (by kernel_rfl) (by rw[hcs];rfl) (by kernel_rfl) ?_
    obtain⟨W5,hW5⟩:∃W5:World,W5=(w.alloc (.cells #[] 93)).setRow g zMsg:=⟨_,rfl⟩
    rw[←hW5]
    have B5:Blk W5 g 41 zMsg:=by rw[hW5];exact hb1.setRow _
    have E5:Blk W5 k 24 #[.int .i64 x]:=by rw[hW5];exact hk1.setRow_far _ (by omega)
    have z5:=cl (E5.cell 0)
    have f5:W5.frozen? ⟨k,0,none⟩=false:=E5.frozen 0
    have HW:=Lib.hid hW5
    clear hW5))
 refine⟨rfl,.panicking [stopY true],rfl,.tuple #[],by simp[results,Tryz.results46],rfl,rfl,B5.far (p:=⟨k,0,none⟩) hne _,E5.set_ 0 (.int .i64 4),?_⟩
 rw[HW.out]
 refine⟨rfl,rfl,rfl,by show w.heap.size≤(((w.alloc (.cells #[] 93)).setRow g zMsg).setCell ⟨k,0,none⟩ (.int .i64 4)).heap.size;simp[World.setRow,World.setCell],fun j hj h1 h2=>?_⟩
 rw[Below.heap_setCell _ _ _ _ h2,show ((w.alloc (.cells #[] 93)).setRow g zMsg).heap[j]?=(w.alloc (.cells #[] 93)).heap[j]? from by simp[World.setRow,Array.getElem?_modify,Ne.symm h1]]
 exact hX.block j hj
theorem decodeM (A:Option Addr) (n c:Nat) (l:List UInt8) (w:World) (h:Reads w w.heap.size 1 A n (bytesV l)) (hsm:n≤1000000000000) (h6:n≤1000000):
 Calls Tryz.prog 20 #[.slice A n c] w (DecP mgK w (mdecR l) (mdecE l)):=by
 have hmf:∀(fn:Fn) (first cap:Array Value) (w:World),(Instr.makeFunc fn first cap).run Tryz.prog w=.ok (.func fn first cap) w:=fun _ _ _ _=>rfl
 have hll:l.length=n:=by have:=h.1;simpa using this
 have HE:=Lib.hid (show mdecE l=if 4194304<l.length then 4 else if (rMsg l ⟨0,0,0⟩).2.e≠0 then 4 else if (rEnd l (rMsg l ⟨0,0,0⟩).2).1≠0 then 4 else if mencE (rMsg l ⟨0,0,0⟩).1 (encMg (rMsg l ⟨0,0,0⟩).1)≠0 then 4 else if mencOut (rMsg l ⟨0,0,0⟩).1 (encMg (rMsg l ⟨0,0,0⟩).1)≠l then 4 else 0 from rfl)
 have HR:=Lib.hid (show mdecR l=if mdecE l=0 then (rMsg l ⟨0,0,0⟩).1 else zMg from rfl)
 have HR4:=Lib.hid (show mdecE l=4→mdecR l=zMg from fun e=>by rw[HR.out,if_neg (by omega)])
 generalize mdecE l=dE at*
 generalize mdecR l=dR at*
 go_enter_defers Tryz.func20,Tryz.ntmps20
 have B0:Blk ((w.alloc (.cells zMsg 41)).alloc (.cells #[.int .i64 0] 24)) w.heap.size 41 zMsg:=(Blk.new _ _ _).alloc _
 have E0:Blk ((w.alloc (.cells zMsg 41)).alloc (.cells #[.int .i64 0] 24)) (w.heap.size+1) 24 #[.int .i64 0]:=Blk.new' _ _ (by simp)
 have hX:Below w.heap.size w ((w.alloc (.cells zMsg 41)).alloc (.cells #[.int .i64 0] 24)):=by go_grown
 have hXs:w.heap.size+1<((w.alloc (.cells zMsg 41)).alloc (.cells #[.int .i64 0] 24)).heap.size:=by simp
 have hl0:w.heap.size≠w.heap.size+1:=by omega
 by_cases hn:4194304<n
 · have hd0:decide ((n:Int)>4194304)=true:=by simp;omega
   have hd1:4194304<(n:Int):=by omega
   have hE4:dE=4:=by rw[HE.out,if_pos (by omega)]
   obtain rfl:=HR4.out hE4
   subst hE4
   clear h HE HR HR4
   go_wp2_with (first
    |(guard_target=~ wpList _ _ _ _ _ _;refine wpList_store_row rfl 41 _ _ rfl w.heap.size zMsg (by kernel_rfl) (by kernel_rfl) _ _ B0 (by kernel_rfl) (by kernel_rfl) (by kernel_rfl) ?_
      obtain⟨W5,hW5⟩:∃W5:World,W5=((w.alloc (.cells zMsg 41)).alloc (.cells #[.int .i64 0] 24)).setRow w.heap.size zMsg:=⟨_,rfl⟩
      rw[←hW5]
      have Nb:Blk W5 w.heap.size 41 zMsg:=by rw[hW5];exact B0.setRow _
      have Ne:Blk W5 (w.heap.size+1) 24 #[.int .i64 0]:=by rw[hW5];exact E0.setRow_far _ (by omega)
      have Nx:Below w.heap.size w W5:=by rw[hW5];exact below_setRow hX (Nat.le_refl _) _
      have zN:=cl (Ne.cell 0)
      have fN:W5.frozen? ⟨w.heap.size+1,0,none⟩=false:=Ne.frozen 0
      clear hW5))
   refine leaves_cons (f:=46) (args:=#[.pointer (some ⟨w.heap.size,0,none⟩),.pointer (some ⟨w.heap.size+1,0,none⟩)]) (by simp) (by simp[go_sem]) ?_
   refine(catch_idleM _ _ _).mono ?_
   rintro e u w7 ⟨rfl,rfl,rfl⟩
   exact decode_doorM rfl rfl rfl (Nb.far (p:=⟨w.heap.size+1,0,none⟩) (by simp) (.int .i64 4)) (Ne.set_ 0 (.int .i64 4)) (by kernel_rfl) ⟨zHm,rfl,mgNil _ _,Nx.setCell (p:=⟨w.heap.size+1,0,none⟩) (by simp) (.int .i64 4)⟩
 have hd0:decide ((n:Int)>4194304)=false:=by simp;omega
 have hRX:=(h.below hX).more hX.size
 have hRR:=Lib.hid h
 clear h
 go_wp2_with fail
 refine(wRNew A n c l _ hRX hsm).mono ?_
 rintro e w1 ⟨A1,n1,c1,rfl,hz,hge,hrd,had,hb1⟩
 have B1:=B0.below hb1 B0.lt
 have E1:=E0.below hb1 E0.lt
 have hX1:=hX.trans (hb1.mono hX.size)
 clear B0 E0 hb1 hX hRX
 obtain⟨g,hg⟩:∃g,g=w1.heap.size-1:=⟨_,rfl⟩
 rw[←hg]at hge hrd ⊢
 have hD:Below w1.heap.size w1 (w1.alloc (.cells #[.pointer none,.pointer (some ⟨g,0,none⟩)] 87)):=by go_grown
 have hC:CR (w1.alloc (.cells #[.pointer none,.pointer (some ⟨g,0,none⟩)] 87)) g A1 n1 c1 l ⟨0,0,0⟩ w1.heap.size:=
  ⟨hrd.below hD,Blk.new _ _ _,by omega,fun a ha hn=>by
   obtain⟨ad,e,hlt,_⟩:=hrd.reads.2 hn
   rw[ha]at e
   obtain rfl:=Option.some.inj e
   omega⟩
 have B2:=B1.below hD B1.lt
 have E2:=E1.below hD E1.lt
 have hX2:=hX1.trans (hD.mono hX1.size)
 have XM:=RM.start (K:=mgK) (x:=zMg) (h:=zHm) mgG hC rfl B2 (fun w B=>mgNil w B) (by omega) (by omega) (fun a ha _=>by have:=had a ha;omega)
 have hWW:w.heap.size≤g:=by omega
 have hE3:w.heap.size+1≠g:=by omega
 have hlow:=Lib.hid E2.lt
 clear hg B1 E1 hX1 hD had hge hrd hXs B2 hC
 have hW:=rmwalk_any _ g A1 n1 c1 l ⟨0,0,0⟩ w1.heap.size w.heap.size XM (by have:=XM.cr.rd.len;omega)
 have hcnt:=rMsg_cnt l ⟨0,0,0⟩ (by omega)
 have henc:=rMsg_enc l ⟨0,0,0⟩ (Nat.zero_le _)
 generalize rMsg l ⟨0,0,0⟩=y at*
 obtain⟨r,s1⟩:=y
 clear XM
 go_wp2_with fail
 refine hW.mono ?_
 rintro e w2 (⟨rfl,hd,X2⟩|⟨rfl,e2,t2,cs2,l2,k2⟩)
 rotate_left
 · have E3:Blk w2 (w.heap.size+1) 24 #[.int .i64 0]:=(t2.block _ E2.lt hE3 (by omega)).trans E2
   have hX3:Below w.heap.size w w2:=hX2.trans (t2.below hWW (Nat.le_refl _) hX2.size)
   have hE4:dE=4:=by rw[HE.out,if_neg (by omega),if_pos e2]
   obtain rfl:=HR4.out hE4
   subst hE4
   show Leaves _ _ _ _ _ _ _
   refine leaves_cons (f:=46) (args:=#[.pointer (some ⟨w.heap.size,0,none⟩),.pointer (some ⟨w.heap.size+1,0,none⟩)]) (by simp) (by simp[go_sem]) ?_
   refine(catch_stopM w.heap.size (w.heap.size+1) cs2 0 w2 k2 l2 E3 (by omega)).mono ?_
   rintro e u w7 ⟨rfl,rfl,B7,E7,t7⟩
   exact decode_doorM rfl rfl rfl B7 E7 (by kernel_rfl) ⟨zHm,rfl,mgNil _ _,hX3.trans (t7.below (Nat.le_refl _) (by omega) hX3.size)⟩
 have e2:s1.e=0:=X2.e
 have t2:=X2.two
 have E3:Blk w2 (w.heap.size+1) 24 #[.int .i64 0]:=(t2.block _ E2.lt hE3 (by omega)).trans E2
 have hX3:Below w.heap.size w w2:=hX2.trans (t2.below hWW (Nat.le_refl _) hX2.size)
 have k2:Blk w2 w.heap.size 41 (mgK.vals r hd):=X2.blk
 have hlo:mgK.lo (only (rng w.heap.size w2.heap.size) w2) w2.heap.size r hd:=(mgG).on X2.lo (fun _ _ _=>rfl) (Nat.le_refl _) (by have:=hlow.out;omega)
 have HLO:=Lib.hid X2.lo
 have rsm:MgSm r hd:=hcnt.sm (by omega) hlo.2.2
 have rpl:=hcnt.pl
 have rlen:(encMg r).length≤n:=by
  have h2:=congrArg List.length (henc e2).2
  rw[List.take_zero,List.nil_append,List.length_take]at h2
  omega
 have rin:=hlo.2.2.inn
 have rok:=hlo.1
 have rcp:=hlo.2.1
 clear hcnt henc
 have hE:=wREnd g A1 n1 c1 l s1 w2 X2.cr.rd
 have HE':=Lib.hid (show dE=if (rEnd l s1).1≠0 then 4 else if mencE r (encMg r)≠0 then 4 else if mencOut r (encMg r)≠l then 4 else 0 by rw[HE.out,if_neg (by omega),if_neg (by simp;exact e2)])
 have HRR:=Lib.hid (show dR=if dE=0 then r else zMg from HR.out)
 clear hW E2 hX2 hz HE hlo X2 t2 HR
 go_wp2_with fail
 refine hE.mono ?_
 rintro e w3 ⟨rfl,q,rfl⟩
 have hQ:Below w2.heap.size w2 (w2.drewN q):=belowN _
 have B4:=k2.below hQ k2.lt
 have E4:=E3.below hQ E3.lt
 have hX4:=hX3.trans (hQ.mono hX3.size)
 have hR4:=(hRR.out.below hX4).more hX4.size
 have z4:=cl (E4.cell 0)
 have hN:=mencode_any r hd (w2.drewN q) rok (rin.up hQ) rcp rsm rpl (by omega)
 clear rin rok rcp rsm rlen rpl
 clear hE k2 E3 hX3 hRR
 by_cases he1:(rEnd l s1).1=0
 rotate_left
 · have hb1:((rEnd l s1).1==0)=false:=by simp[he1]
   have hE4:dE=4:=by rw[HE'.out,if_pos he1]
   obtain rfl:=HR4.out hE4
   subst hE4
   go_wp2_with (first
    |(guard_target=~ wpList _ _ _ _ _ _;refine wpList_store_row rfl 41 _ _ rfl w.heap.size zMsg (by kernel_rfl) (by kernel_rfl) _ _ B4 (by kernel_rfl) (by kernel_rfl) (by kernel_rfl) ?_
      obtain⟨W5,hW5⟩:∃W5:World,W5=(w2.drewN q).setRow w.heap.size zMsg:=⟨_,rfl⟩
      rw[←hW5]
      have Nb:Blk W5 w.heap.size 41 zMsg:=by rw[hW5];exact B4.setRow _
      have Ne:Blk W5 (w.heap.size+1) 24 #[.int .i64 0]:=by rw[hW5];exact E4.setRow_far _ (by omega)
      have Nx:Below w.heap.size w W5:=by rw[hW5];exact below_setRow hX4 (Nat.le_refl _) _
      have zN:=cl (Ne.cell 0)
      have fN:W5.frozen? ⟨w.heap.size+1,0,none⟩=false:=Ne.frozen 0
      clear hW5))
   refine leaves_cons (f:=46) (args:=#[.pointer (some ⟨w.heap.size,0,none⟩),.pointer (some ⟨w.heap.size+1,0,none⟩)]) (by simp) (by simp[go_sem]) ?_
   refine(catch_idleM _ _ _).mono ?_
   rintro e u w7 ⟨rfl,rfl,rfl⟩
   exact decode_doorM rfl rfl rfl (Nb.far (p:=⟨w.heap.size+1,0,none⟩) (by simp) (.int .i64 4)) (Ne.set_ 0 (.int .i64 4)) (by kernel_rfl) ⟨zHm,rfl,mgNil _ _,Nx.setCell (p:=⟨w.heap.size+1,0,none⟩) (by simp) (.int .i64 4)⟩
 have hb1:((rEnd l s1).1==0)=true:=by simp[he1]
 go_wp2_with (first
  |(guard_target=~ wpList _ _ _ _ _ _;refine wpList_load_row rfl 41 _ rfl w.heap.size (by kernel_rfl) _ _ (0,0) _ B4 rfl rfl (by kernel_rfl) ?_)
  |fail)
 refine hN.mono ?_
 rintro e w4 ⟨A5,c5,rfl,hq5,hm5,hown5,hb5⟩
 have B5:=B4.below hb5 B4.lt
 have E5:=E4.below hb5 E4.lt
 have hX5:=hX4.trans (hb5.mono hX4.size)
 have hR5:=(hR4.below hb5).more hb5.size
 have HB5:=Lib.hid hb5
 have hO5:Reads w4 w4.heap.size 1 A5 (mencOut r (encMg r)).length (bytesV (mencOut r (encMg r))):=Reads.of_own hown5
 have z5:=cl (E5.cell 0)
 have hq:=bequalY w4 (c:=c5) (c':=c) hO5 hR5
 clear hown5 hb5 hR4 hN B4 E4 z4 hX4
 generalize mencE r (encMg r)=eE at*
 generalize mencOut r (encMg r)=eO at*
 by_cases he2:eE=0
 rotate_left
 · have hb2:(eE==0)=false:=by simp[he2]
   have hE4:dE=4:=by rw[HE'.out,if_neg (by omega),if_pos he2]
   obtain rfl:=HR4.out hE4
   subst hE4
   go_wp2_with (first
    |(guard_target=~ wpList _ _ _ _ _ _;refine wpList_store_row rfl 41 _ _ rfl w.heap.size zMsg (by kernel_rfl) (by kernel_rfl) _ _ B5 (by kernel_rfl) (by kernel_rfl) (by kernel_rfl) ?_
      obtain⟨W5,hW5⟩:∃W5:World,W5=w4.setRow w.heap.size zMsg:=⟨_,rfl⟩
      rw[←hW5]
      have Nb:Blk W5 w.heap.size 41 zMsg:=by rw[hW5];exact B5.setRow _
      have Ne:Blk W5 (w.heap.size+1) 24 #[.int .i64 0]:=by rw[hW5];exact E5.setRow_far _ (by omega)
      have Nx:Below w.heap.size w W5:=by rw[hW5];exact below_setRow hX5 (Nat.le_refl _) _
      have zN:=cl (Ne.cell 0)
      have fN:W5.frozen? ⟨w.heap.size+1,0,none⟩=false:=Ne.frozen 0
      clear hW5))
   refine leaves_cons (f:=46) (args:=#[.pointer (some ⟨w.heap.size,0,none⟩),.pointer (some ⟨w.heap.size+1,0,none⟩)]) (by simp) (by simp[go_sem]) ?_
   refine(catch_idleM _ _ _).mono ?_
   rintro e u w7 ⟨rfl,rfl,rfl⟩
   exact decode_doorM rfl rfl rfl (Nb.far (p:=⟨w.heap.size+1,0,none⟩) (by simp) (.int .i64 4)) (Ne.set_ 0 (.int .i64 4)) (by kernel_rfl) ⟨zHm,rfl,mgNil _ _,Nx.setCell (p:=⟨w.heap.size+1,0,none⟩) (by simp) (.int .i64 4)⟩
 have hb2:(eE==0)=true:=by simp[he2]
 go_wp2_with fail
 refine hq.mono ?_
 rintro e w5 ⟨rfl,rfl⟩
 by_cases he3:eO=l
 rotate_left
 · have hb3:(eO==l)=false:=by simp[he3]
   have hE4:dE=4:=by rw[HE'.out,if_neg (by omega),if_neg (by omega),if_pos he3]
   obtain rfl:=HR4.out hE4
   subst hE4
   go_wp2_with (first
    |(guard_target=~ wpList _ _ _ _ _ _;refine wpList_store_row rfl 41 _ _ rfl w.heap.size zMsg (by kernel_rfl) (by kernel_rfl) _ _ B5 (by kernel_rfl) (by kernel_rfl) (by kernel_rfl) ?_
      obtain⟨W5,hW5⟩:∃W5:World,W5=w4.setRow w.heap.size zMsg:=⟨_,rfl⟩
      rw[←hW5]
      have Nb:Blk W5 w.heap.size 41 zMsg:=by rw[hW5];exact B5.setRow _
      have Ne:Blk W5 (w.heap.size+1) 24 #[.int .i64 0]:=by rw[hW5];exact E5.setRow_far _ (by omega)
      have Nx:Below w.heap.size w W5:=by rw[hW5];exact below_setRow hX5 (Nat.le_refl _) _
      have zN:=cl (Ne.cell 0)
      have fN:W5.frozen? ⟨w.heap.size+1,0,none⟩=false:=Ne.frozen 0
      clear hW5))
   refine leaves_cons (f:=46) (args:=#[.pointer (some ⟨w.heap.size,0,none⟩),.pointer (some ⟨w.heap.size+1,0,none⟩)]) (by simp) (by simp[go_sem]) ?_
   refine(catch_idleM _ _ _).mono ?_
   rintro e u w7 ⟨rfl,rfl,rfl⟩
   exact decode_doorM rfl rfl rfl (Nb.far (p:=⟨w.heap.size+1,0,none⟩) (by simp) (.int .i64 4)) (Ne.set_ 0 (.int .i64 4)) (by kernel_rfl) ⟨zHm,rfl,mgNil _ _,Nx.setCell (p:=⟨w.heap.size+1,0,none⟩) (by simp) (.int .i64 4)⟩
 have hb3:(eO==l)=true:=by simp[he3]
 have hE0:dE=0:=by rw[HE'.out,if_neg (by omega),if_neg (by omega),if_neg (by simp[he3])]
 have hR0:dR=r:=by rw[HRR.out,if_pos hE0]
 subst hE0 hR0
 go_wp2_with (first
 |(guard_target=~ wpList _ _ _ _ _ _;refine wpList_load_row rfl 41 _ rfl w.heap.size (by kernel_rfl) _ _ (0,0) _ B5 rfl rfl (by kernel_rfl) ?_)
 |(guard_target=~ wpList _ _ _ _ _ _;refine wpList_store_row rfl 41 _ _ rfl w.heap.size (mgK.vals dR hd) (by kernel_rfl) (by kernel_rfl) _ _ B5 (by kernel_rfl) (by kernel_rfl) (by kernel_rfl) ?_
   obtain⟨W6,hW6⟩:∃W5:World,W5=w4.setRow w.heap.size (mgK.vals dR hd):=⟨_,rfl⟩
   rw[←hW6]
   have B6:Blk W6 w.heap.size 41 (mgK.vals dR hd):=by rw[hW6];exact B5.setRow _
   have E6:Blk W6 (w.heap.size+1) 24 #[.int .i64 0]:=by rw[hW6];exact E5.setRow_far _ (by omega)
   have hX6:Below w.heap.size w W6:=by rw[hW6];exact below_setRow hX5 (Nat.le_refl _) _
   have z6:=cl (E6.cell 0)
   have f6:W6.frozen? ⟨w.heap.size+1,0,none⟩=false:=E6.frozen 0
   have hS6:∀k,k≠w.heap.size→W6.heap[k]?=w4.heap[k]?:=fun k hk=>by rw[hW6];simp[World.setRow,Array.getElem?_modify,Ne.symm hk]
   have hZ6:w4.heap.size≤W6.heap.size:=by rw[hW6];simp[World.setRow]
   clear hW6))
 have B7:=B6.far (p:=⟨w.heap.size+1,0,none⟩) (by simp) (.int .i64 0)
 have E7:=E6.set_ 0 (.int .i64 0)
 have hX7:=hX6.setCell (p:=⟨w.heap.size+1,0,none⟩) (by simp) (.int .i64 0)
 refine leaves_cons (f:=46) (args:=#[.pointer (some ⟨w.heap.size,0,none⟩),.pointer (some ⟨w.heap.size+1,0,none⟩)]) (by simp) (by simp[go_sem]) ?_
 refine(catch_idleM _ _ _).mono ?_
 rintro e u w7 ⟨rfl,rfl,rfl⟩
 refine decode_doorM rfl rfl rfl B7 E7 (by kernel_rfl) ⟨hd,rfl,?_,hX7⟩
 have hs:w2.heap.size≤(W6.setCell ⟨w.heap.size+1,0,none⟩ (.int .i64 0)).heap.size:=by have:=HB5.out.size;have hz:(w2.drewN q).heap.size=w2.heap.size:=rfl;simp only[World.size_setCell];omega
 refine(mgG).on HLO.out (fun k h1 h2=>?_) hs (by have:=hlow.out;omega)
 have h3:=hlow.out
 rw[Below.heap_setCell _ _ _ _ (by simp;omega),hS6 k (by omega)]
 exact HB5.out.block k h2
end Go.Proofs.YtcalkfgibflbnaaGreat
