/- The walk of msgs.Decode: any bytes. -/
import Derived.Test.YtcalkfgibflbnaaGreatBadf
namespace Go.Proofs.YtcalkfgibflbnaaGreat
set_option maxHeartbeats 4000000
set_option maxRecDepth 100000
set_option linter.unusedVariables false
open Go.RowKit Fl
attribute [local go_sem] dJ
abbrev kN:Array Value:=#[.int .i64 0,.int .i64 0,.int .i64 0,.int .i64 0,.int .i64 0,.int .i64 0,.int .i64 0,.int .i64 0,.int .i64 0,.int .i64 0,.int .i64 0,.int .i64 0,.int .i64 0,.int .i64 0,.int .i64 0,.bool false,.int .i64 0,.int .i64 0,.slice none 0 0,.slice none 0 0,.slice none 0 0,.slice none 0 0,.slice none 0 0,.slice none 0 0,.int .i64 0,.int .i64 0,.float .f64 0,.float .f64 0,.int .i64 0,.int .i64 0,.int .i64 0,.int .i64 0,.int .i64 0,.int .i64 0,.slice none 0 0,.slice none 0 0]
def kQ (l:List UInt8):Int:=
 if 4194304<l.length then 4 else if (mG l ⟨0,0,0⟩).2.e≠0 then 4 else if (lY l (mG l ⟨0,0,0⟩).2).1≠0 then 4 else if kJ (mG l ⟨0,0,0⟩).1 (bT (mG l ⟨0,0,0⟩).1)≠0 then 4 else if og (mG l ⟨0,0,0⟩).1 (bT (mG l ⟨0,0,0⟩).1)≠l then 4 else 0
def iC (l:List UInt8):Mg:=if kQ l=0 then (mG l ⟨0,0,0⟩).1 else wF
theorem bH.inn {K:Nat->Bool} {w:World} {m:Mg} {h:Hm} (i:bH (only K w) w.heap.size m h):bH w w.heap.size m h:=i.mn fun p u _ hc=>(tZ hc).2
theorem G9 (p q:Addr) (w:World):
 CallsD Tryz.prog 46 #[.pointer (some p),.pointer (some q)] .returning w fun e u' w'=>e=.returned (.tuple #[])/\u'=.returning/\w=w':=by
 refine callsD_of_wpS Tryz.func46 rfl fun c₀ cs hu=>?_
 apply wpS_seq;apply wpS_region;simp[wpOpsS,go_sem,recoverD,hu,Tryz.ntmps46,Exit.thenS];refine wpS_of_wp ?_;go_wp2;cases c₀;simp_all [bodyPostS,results,Tryz.results46]
theorem EJ {fn:Func} {tmps:Array Value} {R:Ending->World->Prop} {w:World} {p q:Tmp} {g k:Nat} {cs:Array Value} {x:Int} (h:fn.results=#[.cell p 41,.cell q 24]) (hp:tmps.getD p undef=.pointer (some ⟨g,0,none⟩)) (hq:tmps.getD q undef=.pointer (some ⟨k,0,none⟩))
 (hb:aj w g 41 cs) (hb':aj w k 24 #[.int .i64 x]) (hi:(Tryz.prog.info? 41).map (·.size)=some cs.size) (hR:R (.returned (.tuple #[.agg cs,.int .i64 x])) w):Leaves Tryz.prog fn tmps R [] .returning w:=by
 have hp':tmps[p]?.getD undef=.pointer (some ⟨g,0,none⟩):=by simpa using hp
 have hq':tmps[q]?.getD undef=.pointer (some ⟨k,0,none⟩):=by simpa using hq
 refine⟨_,?_,hR⟩;simp[results,h,hp',hq',asAddr,JZ hb Tryz.underlying41 rfl hi,Vs hb',Sem.run_bind,Result.andThen]
theorem ag7 (g k:Nat) (cs:Array Value) (x:Int) (w:World) (hb:aj w g 41 cs) (hcs:cs.size=36) (hk:aj w k 24 #[.int .i64 x]) (hne:g≠k):
 CallsD Tryz.prog 46 #[.pointer (some ⟨g,0,none⟩),.pointer (some ⟨k,0,none⟩)] (.panicking [Ey false]) w fun e u' w'=>e=.returned (.tuple #[])/\u'=.panicking [Ey true]/\aj w' g 41 kN/\aj w' k 24 #[.int .i64 4]/\aW w w' g k:=by
 have hta:=Vr;refine callsD_of_wpS Tryz.func46 rfl fun c₀ cs' hu=>?_
 apply wpS_seq;apply wpS_region;simp[wpOpsS,go_sem,recoverD,hu,Tryz.ntmps46,Exit.thenS];refine wpS_of_wp ?_;have hX:Below w.heap.size w (w.alloc (.cells #[] 93)):=aJ;have hb1:=hb.below hX hb.lt;have hk1:=hk.below hX hk.lt;go_wp2_with (first
  |(guard_target=~ wpList _ _ _ _ _ _;refine wpList_store_row rfl 41 _ _ rfl g kN ah ah _ _ hb1 ah (by rw[hcs];rfl) ah ?_
    obtain⟨W5,dD⟩:∃W5:World,W5=(w.alloc (.cells #[] 93)).setRow g kN:=⟨_,rfl⟩;rw[<-dD];have B5:aj W5 g 41 kN:=(by rw[dD];exact hb1.setRow _);have E5:aj W5 k 24 #[.int .i64 x]:=(by rw[dD];exact hk1.jT _ byOmega);have z5:=cl (E5.cell 0);have f5:W5.frozen? ⟨k,0,none⟩=false:=E5.frozen 0;have HW:=au dD;clear dD))
 refine⟨rfl,.panicking [Ey true],rfl,.tuple #[],by simp[results,Tryz.results46],rfl,rfl,B5.far (p:=⟨k,0,none⟩) hne _,E5.fB 0 (.int .i64 4),?_⟩;rw[HW.out];refine⟨rfl,rfl,rfl,by show w.heap.size<=(((w.alloc (.cells #[] 93)).setRow g kN).setCell ⟨k,0,none⟩ (.int .i64 4)).heap.size;simp[World.setRow,World.setCell],fun j hj h1 h2=>?_⟩;rw[Below.heap_setCell _ _ _ _ h2,show ((w.alloc (.cells #[] 93)).setRow g kN).heap[j]?=(w.alloc (.cells #[] 93)).heap[j]? from by simp[World.setRow,Array.getElem?_modify,Ne.symm h1]];exact hX.block j hj
theorem EK (A:Option Addr) (n c:Nat) (l:List UInt8) (w:World) (h:Reads w w.heap.size 1 A n (bytesV l)) (hsm:n<=1000000000000) (h6:n<=5000000):
 Calls Tryz.prog 20 #[.slice A n c] w (Vu iw w (iC l) (kQ l)):=by
 have hmf:∀(fn:Fn) (first cap:Array Value) (w:World),(Instr.makeFunc fn first cap).run Tryz.prog w=.ok (.func fn first cap) w:=fun _ _ _ _=>rfl
 have hll:l.length=n:=by have:=h.1;simpa using this
 have HE:=au (show kQ l=if 4194304<l.length then 4 else if (mG l ⟨0,0,0⟩).2.e≠0 then 4 else if (lY l (mG l ⟨0,0,0⟩).2).1≠0 then 4 else if kJ (mG l ⟨0,0,0⟩).1 (bT (mG l ⟨0,0,0⟩).1)≠0 then 4 else if og (mG l ⟨0,0,0⟩).1 (bT (mG l ⟨0,0,0⟩).1)≠l then 4 else 0 from rfl);have HR:=au (show iC l=if kQ l=0 then (mG l ⟨0,0,0⟩).1 else wF from rfl);have HR4:=au (show kQ l=4->iC l=wF from fun e=>by rw[HR.out,if_neg byOmega]);generalize kQ l=dE at*;generalize iC l=dR at*
 go_enter_defers Tryz.func20,Tryz.ntmps20
 have B0:aj ((w.alloc (.cells kN 41)).alloc (.cells #[.int .i64 0] 24)) w.heap.size 41 kN:=(aj.new _ _ _).alloc _;have E0:aj ((w.alloc (.cells kN 41)).alloc (.cells #[.int .i64 0] 24)) (w.heap.size+1) 24 #[.int .i64 0]:=aj.new' _ _ aA;have hX:Below w.heap.size w ((w.alloc (.cells kN 41)).alloc (.cells #[.int .i64 0] 24)):=aJ;have vY:w.heap.size+1<((w.alloc (.cells kN 41)).alloc (.cells #[.int .i64 0] 24)).heap.size:=aA;have hl0:w.heap.size≠w.heap.size+1:=byOmega;by_cases hn:4194304<n
 · have hd0:decide ((n:Int)>4194304)=true:=ay;have hd1:4194304<(n:Int):=byOmega;have jP:dE=4:=(by rw[HE.out,if_pos byOmega]);obtain rfl:=HR4.out jP;subst jP;clear h HE HR HR4;go_wp2_with (first
    |(guard_target=~ wpList _ _ _ _ _ _;refine wpList_store_row rfl 41 _ _ rfl w.heap.size kN ah ah _ _ B0 ah ah ah ?_
      obtain⟨W5,dD⟩:∃W5:World,W5=((w.alloc (.cells kN 41)).alloc (.cells #[.int .i64 0] 24)).setRow w.heap.size kN:=⟨_,rfl⟩;rw[<-dD];have Nb:aj W5 w.heap.size 41 kN:=(by rw[dD];exact B0.setRow _);have Ne:aj W5 (w.heap.size+1) 24 #[.int .i64 0]:=(by rw[dD];exact E0.jT _ byOmega);have Nx:Below w.heap.size w W5:=(by rw[dD];exact below_setRow hX (Nat.le_refl _) _);have zN:=cl (Ne.cell 0);have fN:W5.frozen? ⟨w.heap.size+1,0,none⟩=false:=Ne.frozen 0;clear dD))
   refine leaves_cons (f:=46) (args:=#[.pointer (some ⟨w.heap.size,0,none⟩),.pointer (some ⟨w.heap.size+1,0,none⟩)]) aA (by simp[go_sem]) ?_;refine(G9 _ _ _).mono ?_;rintro e u w7 ⟨rfl,rfl,rfl⟩;exact EJ rfl rfl rfl (Nb.far (p:=⟨w.heap.size+1,0,none⟩) aA (.int .i64 4)) (Ne.fB 0 (.int .i64 4)) ah ⟨AL,rfl,yE _ _,Nx.setCell (p:=⟨w.heap.size+1,0,none⟩) aA (.int .i64 4)⟩
 have hd0:decide ((n:Int)>4194304)=false:=ay;have GU:=(h.below hX).more hX.size;have hRR:=au h;clear h;go_wp2_with fail;refine(Rq A n c l _ GU hsm).mono ?_;rintro e w1 ⟨A1,n1,c1,rfl,hz,hge,hrd,had,hb1⟩;have B1:=B0.below hb1 B0.lt;have E1:=E0.below hb1 E0.lt;have hX1:=hX.trans (hb1.mono hX.size);clear B0 E0 hb1 hX GU;obtain⟨g,hg⟩:∃g,g=w1.heap.size-1:=⟨_,rfl⟩;rw[<-hg]at hge hrd ⊢;have hD:Below w1.heap.size w1 (w1.alloc (.cells #[.pointer none,.pointer (some ⟨g,0,none⟩)] 87)):=aJ;have hC:CR (w1.alloc (.cells #[.pointer none,.pointer (some ⟨g,0,none⟩)] 87)) g A1 n1 c1 l ⟨0,0,0⟩ w1.heap.size:=
  ⟨hrd.below hD,aj.new _ _ _,byOmega,fun a ha hn=>by
   obtain⟨ad,e,hlt,_⟩:=hrd.reads.2 hn;rw[ha]at e;obtain rfl:=Option.some.inj e;omega⟩
 have B2:=B1.below hD B1.lt;have E2:=E1.below hD E1.lt;have hX2:=hX1.trans (hD.mono hX1.size);have XM:=RM.start (K:=iw) (x:=wF) (h:=AL) bJ hC rfl B2 (fun w B=>yE w B) byOmega byOmega (fun a ha _=>by have:=had a ha;omega);have wZ:w.heap.size<=g:=byOmega;have GV:w.heap.size+1≠g:=byOmega;have hlow:=au E2.lt;clear hg B1 E1 hX1 hD had hge hrd vY B2 hC;have hW:=ag6 _ g A1 n1 c1 l ⟨0,0,0⟩ w1.heap.size w.heap.size XM (by have:=XM.cr.rd.len;omega);have hcnt:=VY l ⟨0,0,0⟩ byOmega;have henc:=agl l ⟨0,0,0⟩ (Nat.zero_le _);generalize mG l ⟨0,0,0⟩=y at*;obtain⟨r,s1⟩:=y;clear XM;go_wp2_with fail;refine hW.mono ?_;rintro e w2 (⟨rfl,hd,X2⟩|⟨rfl,e2,t2,cs2,l2,k2⟩)
 rotate_left
 · have E3:aj w2 (w.heap.size+1) 24 #[.int .i64 0]:=(t2.block _ E2.lt GV byOmega).trans E2;have fU:Below w.heap.size w w2:=hX2.trans (t2.below wZ (Nat.le_refl _) hX2.size);have jP:dE=4:=(by rw[HE.out,if_neg byOmega,if_pos e2]);obtain rfl:=HR4.out jP;subst jP;show Leaves _ _ _ _ _ _ _;refine leaves_cons (f:=46) (args:=#[.pointer (some ⟨w.heap.size,0,none⟩),.pointer (some ⟨w.heap.size+1,0,none⟩)]) aA (by simp[go_sem]) ?_;refine(ag7 w.heap.size (w.heap.size+1) cs2 0 w2 k2 l2 E3 byOmega).mono ?_;rintro e u w7 ⟨rfl,rfl,B7,E7,t7⟩;exact EJ rfl rfl rfl B7 E7 ah ⟨AL,rfl,yE _ _,fU.trans (t7.below (Nat.le_refl _) byOmega fU.size)⟩
 have e2:s1.e=0:=X2.e;have t2:=X2.two;have E3:aj w2 (w.heap.size+1) 24 #[.int .i64 0]:=(t2.block _ E2.lt GV byOmega).trans E2;have fU:Below w.heap.size w w2:=hX2.trans (t2.below wZ (Nat.le_refl _) hX2.size);have k2:aj w2 w.heap.size 41 (iw.vals r hd):=X2.blk;have hlo:iw.lo (only (rng w.heap.size w2.heap.size) w2) w2.heap.size r hd:=(bJ).on X2.lo (fun _ _ _=>rfl) (Nat.le_refl _) (by have:=hlow.out;omega);have Oq:=au X2.lo;have GX:iV r hd:=hcnt.sm byOmega hlo.2.2;have WH:=hcnt.pl;have rlen:(bT r).length<=n:=by
  have h2:=congrArg List.length (henc e2).2;rw[List.take_zero,List.nil_append,List.length_take]at h2;omega
 have rin:=hlo.2.2.inn;have wB:=hlo.1;have rcp:=hlo.2.1;clear hcnt henc;have hE:=Ro g A1 n1 c1 l s1 w2 X2.cr.rd;have zJ:=au (show dE=if (lY l s1).1≠0 then 4 else if kJ r (bT r)≠0 then 4 else if og r (bT r)≠l then 4 else 0 by rw[HE.out,if_neg byOmega,if_neg (by simp;exact e2)]);have HRR:=au (show dR=if dE=0 then r else wF from HR.out);clear hW E2 hX2 hz HE hlo X2 t2 HR;go_wp2_with fail;refine hE.mono ?_;rintro e w3 ⟨rfl,q,rfl⟩;have hQ:Below w2.heap.size w2 (w2.drewN q):=bD _;have B4:=k2.below hQ k2.lt;have E4:=E3.below hQ E3.lt;have jV:=fU.trans (hQ.mono fU.size);have uI:=(hRR.out.below jV).more jV.size;have z4:=cl (E4.cell 0);have hN:=VK r hd (w2.drewN q) wB (rin.up hQ) rcp GX WH byOmega;clear rin wB rcp GX rlen WH;clear hE k2 E3 fU hRR;by_cases he1:(lY l s1).1=0
 rotate_left
 · have hb1:((lY l s1).1==0)=false:=(by simp[he1]);have jP:dE=4:=(by rw[zJ.out,if_pos he1]);obtain rfl:=HR4.out jP;subst jP;go_wp2_with (first
    |(guard_target=~ wpList _ _ _ _ _ _;refine wpList_store_row rfl 41 _ _ rfl w.heap.size kN ah ah _ _ B4 ah ah ah ?_
      obtain⟨W5,dD⟩:∃W5:World,W5=(w2.drewN q).setRow w.heap.size kN:=⟨_,rfl⟩;rw[<-dD];have Nb:aj W5 w.heap.size 41 kN:=(by rw[dD];exact B4.setRow _);have Ne:aj W5 (w.heap.size+1) 24 #[.int .i64 0]:=(by rw[dD];exact E4.jT _ byOmega);have Nx:Below w.heap.size w W5:=(by rw[dD];exact below_setRow jV (Nat.le_refl _) _);have zN:=cl (Ne.cell 0);have fN:W5.frozen? ⟨w.heap.size+1,0,none⟩=false:=Ne.frozen 0;clear dD))
   refine leaves_cons (f:=46) (args:=#[.pointer (some ⟨w.heap.size,0,none⟩),.pointer (some ⟨w.heap.size+1,0,none⟩)]) aA (by simp[go_sem]) ?_;refine(G9 _ _ _).mono ?_;rintro e u w7 ⟨rfl,rfl,rfl⟩;exact EJ rfl rfl rfl (Nb.far (p:=⟨w.heap.size+1,0,none⟩) aA (.int .i64 4)) (Ne.fB 0 (.int .i64 4)) ah ⟨AL,rfl,yE _ _,Nx.setCell (p:=⟨w.heap.size+1,0,none⟩) aA (.int .i64 4)⟩
 have hb1:((lY l s1).1==0)=true:=by simp[he1]
 go_wp2_with (first
  |(guard_target=~ wpList _ _ _ _ _ _;refine wpList_load_row rfl 41 _ rfl w.heap.size ah _ _ (0,0) _ B4 rfl rfl ah ?_)
  |fail)
 refine hN.mono ?_;rintro e w4 ⟨A5,c5,rfl,hq5,hm5,hown5,hb5⟩;have B5:=B4.below hb5 B4.lt;have E5:=E4.below hb5 E4.lt;have oz:=jV.trans (hb5.mono jV.size);have Ot:=(uI.below hb5).more hb5.size;have GY:=au hb5;have EC:Reads w4 w4.heap.size 1 A5 (og r (bT r)).length (bytesV (og r (bT r))):=Reads.kK hown5;have z5:=cl (E5.cell 0);have hq:=Vt w4 (c:=c5) (c':=c) EC Ot;clear hown5 hb5 uI hN B4 E4 z4 jV;generalize kJ r (bT r)=eE at*;generalize og r (bT r)=eO at*;by_cases he2:eE=0
 rotate_left
 · have hb2:(eE==0)=false:=(by simp[he2]);have jP:dE=4:=(by rw[zJ.out,if_neg byOmega,if_pos he2]);obtain rfl:=HR4.out jP;subst jP;go_wp2_with (first
    |(guard_target=~ wpList _ _ _ _ _ _;refine wpList_store_row rfl 41 _ _ rfl w.heap.size kN ah ah _ _ B5 ah ah ah ?_
      obtain⟨W5,dD⟩:∃W5:World,W5=w4.setRow w.heap.size kN:=⟨_,rfl⟩;rw[<-dD];have Nb:aj W5 w.heap.size 41 kN:=(by rw[dD];exact B5.setRow _);have Ne:aj W5 (w.heap.size+1) 24 #[.int .i64 0]:=(by rw[dD];exact E5.jT _ byOmega);have Nx:Below w.heap.size w W5:=(by rw[dD];exact below_setRow oz (Nat.le_refl _) _);have zN:=cl (Ne.cell 0);have fN:W5.frozen? ⟨w.heap.size+1,0,none⟩=false:=Ne.frozen 0;clear dD))
   refine leaves_cons (f:=46) (args:=#[.pointer (some ⟨w.heap.size,0,none⟩),.pointer (some ⟨w.heap.size+1,0,none⟩)]) aA (by simp[go_sem]) ?_;refine(G9 _ _ _).mono ?_;rintro e u w7 ⟨rfl,rfl,rfl⟩;exact EJ rfl rfl rfl (Nb.far (p:=⟨w.heap.size+1,0,none⟩) aA (.int .i64 4)) (Ne.fB 0 (.int .i64 4)) ah ⟨AL,rfl,yE _ _,Nx.setCell (p:=⟨w.heap.size+1,0,none⟩) aA (.int .i64 4)⟩
 have hb2:(eE==0)=true:=by simp[he2]
 go_wp2_with fail;refine hq.mono ?_;rintro e w5 ⟨rfl,rfl⟩;by_cases he3:eO=l
 rotate_left
 · have hb3:(eO==l)=false:=(by simp[he3]);have jP:dE=4:=(by rw[zJ.out,if_neg byOmega,if_neg byOmega,if_pos he3]);obtain rfl:=HR4.out jP;subst jP;go_wp2_with (first
    |(guard_target=~ wpList _ _ _ _ _ _;refine wpList_store_row rfl 41 _ _ rfl w.heap.size kN ah ah _ _ B5 ah ah ah ?_
      obtain⟨W5,dD⟩:∃W5:World,W5=w4.setRow w.heap.size kN:=⟨_,rfl⟩;rw[<-dD];have Nb:aj W5 w.heap.size 41 kN:=(by rw[dD];exact B5.setRow _);have Ne:aj W5 (w.heap.size+1) 24 #[.int .i64 0]:=(by rw[dD];exact E5.jT _ byOmega);have Nx:Below w.heap.size w W5:=(by rw[dD];exact below_setRow oz (Nat.le_refl _) _);have zN:=cl (Ne.cell 0);have fN:W5.frozen? ⟨w.heap.size+1,0,none⟩=false:=Ne.frozen 0;clear dD))
   refine leaves_cons (f:=46) (args:=#[.pointer (some ⟨w.heap.size,0,none⟩),.pointer (some ⟨w.heap.size+1,0,none⟩)]) aA (by simp[go_sem]) ?_;refine(G9 _ _ _).mono ?_;rintro e u w7 ⟨rfl,rfl,rfl⟩;exact EJ rfl rfl rfl (Nb.far (p:=⟨w.heap.size+1,0,none⟩) aA (.int .i64 4)) (Ne.fB 0 (.int .i64 4)) ah ⟨AL,rfl,yE _ _,Nx.setCell (p:=⟨w.heap.size+1,0,none⟩) aA (.int .i64 4)⟩
 have hb3:(eO==l)=true:=by simp[he3]
 have hE0:dE=0:=by rw[zJ.out,if_neg byOmega,if_neg byOmega,if_neg (by simp[he3])]
 have hR0:dR=r:=by rw[HRR.out,if_pos hE0]
 subst hE0 hR0;go_wp2_with (first
 |(guard_target=~ wpList _ _ _ _ _ _;refine wpList_load_row rfl 41 _ rfl w.heap.size ah _ _ (0,0) _ B5 rfl rfl ah ?_)
 |(guard_target=~ wpList _ _ _ _ _ _;refine wpList_store_row rfl 41 _ _ rfl w.heap.size (iw.vals dR hd) ah ah _ _ B5 ah ah ah ?_
   obtain⟨W6,dM⟩:∃W5:World,W5=w4.setRow w.heap.size (iw.vals dR hd):=⟨_,rfl⟩;rw[<-dM];have B6:aj W6 w.heap.size 41 (iw.vals dR hd):=(by rw[dM];exact B5.setRow _);have E6:aj W6 (w.heap.size+1) 24 #[.int .i64 0]:=(by rw[dM];exact E5.jT _ byOmega);have tq:Below w.heap.size w W6:=(by rw[dM];exact below_setRow oz (Nat.le_refl _) _);have z6:=cl (E6.cell 0);have f6:W6.frozen? ⟨w.heap.size+1,0,none⟩=false:=E6.frozen 0;have hS6:∀k,k≠w.heap.size->W6.heap[k]?=w4.heap[k]?:=fun k hk=>by rw[dM];simp[World.setRow,Array.getElem?_modify,Ne.symm hk]
   have hZ6:w4.heap.size<=W6.heap.size:=(by rw[dM];simp[World.setRow]);clear dM))
 have B7:=B6.far (p:=⟨w.heap.size+1,0,none⟩) aA (.int .i64 0);have E7:=E6.fB 0 (.int .i64 0);have xg:=tq.setCell (p:=⟨w.heap.size+1,0,none⟩) aA (.int .i64 0);refine leaves_cons (f:=46) (args:=#[.pointer (some ⟨w.heap.size,0,none⟩),.pointer (some ⟨w.heap.size+1,0,none⟩)]) aA (by simp[go_sem]) ?_;refine(G9 _ _ _).mono ?_;rintro e u w7 ⟨rfl,rfl,rfl⟩;refine EJ rfl rfl rfl B7 E7 ah ⟨hd,rfl,?_,xg⟩;have hs:w2.heap.size<=(W6.setCell ⟨w.heap.size+1,0,none⟩ (.int .i64 0)).heap.size:=by have:=GY.out.size;have hz:(w2.drewN q).heap.size=w2.heap.size:=rfl;simp only[World.size_setCell];omega
 refine(bJ).on Oq.out (fun k h1 h2=>?_) hs (by have:=hlow.out;omega);have h3:=hlow.out;rw[Below.heap_setCell _ _ _ _ ay,hS6 k byOmega];exact GY.out.block k h2
