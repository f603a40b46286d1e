/- The walks of PutState and GetState: a state's bytes written, and any bytes read as a state. -/
import Derived.Test.YthdmanadhbpogaaGreatJabc
import Derived.Test.YthdmanadhbpogaaGreatJadc
namespace Go.Proofs.YthdmanadhbpogaaGreat
set_option maxHeartbeats 1000000
set_option maxRecDepth 100000
set_option linter.unusedVariables false
open Go.RowKit Fl
attribute [local go_sem] run_store_float
abbrev putW (s:Stt) (vh vp:Value) (g:Nat) (w:World):World:=(w.alloc (.cells (s.arr vh vp) 36)).alloc (.cells #[.pointer (some ⟨g,0,none⟩),.pointer none] 109)
theorem putState_any (s:Stt) (vh vp:Value) (w:World) (B g:Nat) (v:Value) (hw:Wr w B g v []) (hB:B≤w.heap.size) (hr:SttRel w B (s.arr vh vp).toList s) (hlen:(encSt s).length+10≤1000000000000):
 Calls Tryz.prog 27 #[.pointer (some ⟨g,0,none⟩),.agg (s.arr vh vp)] w fun e w'=>e=.returned (.tuple #[])∧∃v',Wr w' B g v' (encSt s)∧Below B w w':=by
 have hX:Below w.heap.size w (putW s vh vp g w):=by go_grown
 have kC:Blk (putW s vh vp g w) (w.heap.size+1) 109 #[.pointer (some ⟨g,0,none⟩),.pointer none]:=Blk.new' _ _ (by simp)
 have kS:Blk (putW s vh vp g w) w.heap.size 36 (s.arr vh vp):=(Blk.new _ _ _).alloc _
 have hl:=hw.lt
 have hc:CW (putW s vh vp g w) B g v [] (w.heap.size+1):=⟨hw.below hX,Nat.le_trans hB hX.size,kC,kC.lt,by omega,fun e=>by have:=hw.own_lt _ e.symm;omega⟩
 have ha:Apt (putW s vh vp g w) g v w.heap.size:=⟨kS.lt,by omega,fun e=>by have:=hw.own_lt _ e.symm;omega⟩
 have hR:=hr.below (hX.mono hB)
 have hA:=At.blk kS
 go_enter Tryz.func27,Tryz.ntmps27
 go_wp2_with fail
 refine(wcState s _ B g v [] (w.heap.size+1) ⟨w.heap.size,0,none⟩ _ hc ha rfl hA hR (by simpa using hlen)).mono ?_
 rintro e w2 ⟨rfl,v2,hc2,hf2⟩
 have hb:=(hX.mono hB).trans (hc.lo hf2)
 rw[List.nil_append]at hc2
 go_wp2
 go_end0
 exact⟨rfl,v2,hc2.wr,hb⟩
abbrev zStA:Array Value:=zSt.arr (.slice none 0 0) (.slice none 0 0)
theorem setRow_same {w:World} {g:Nat} {t:TypeId} {cs:Array Value} (h:Blk w g t cs):w.setRow g cs=w:=by
 have e:(w.setRow g cs).heap=w.heap:=by
  apply Array.ext_getElem?
  intro i
  by_cases hi:g=i
  · subst hi
    rw[setRow_heap w g cs cs t (0,0) h]
    exact Eq.symm h
  · simp[World.setRow,Array.getElem?_modify,hi]
 show ({w with heap:=(w.setRow g cs).heap}:World)=w
 rw[e]
theorem catch_idleS (p:Addr) (w:World):
 CallsD Tryz.prog 80 #[.pointer (some p)] .returning w fun e u' w'=>e=.returned (.tuple #[])∧u'=.returning∧w=w':=by
 refine callsD_of_wpS Tryz.func80 rfl fun c₀ cs hu=>?_
 apply wpS_seq
 apply wpS_region
 simp[wpOpsS,go_sem,recoverD,hu,Tryz.ntmps80,Exit.thenS]
 refine wpS_of_wp ?_
 go_wp2
 cases c₀
 simp_all [bodyPostS,results,Tryz.results80]
theorem catch_stopS (g:Nat) (cs:Array Value) (w:World) (hb:Blk w g 36 cs) (hcs:cs.size=12):
 CallsD Tryz.prog 80 #[.pointer (some ⟨g,0,none⟩)] (.panicking [stopE false]) w fun e u' w'=>e=.returned (.tuple #[])∧u'=.panicking [stopE true]∧Blk w' g 36 zStA∧w.grownBy w' (some g):=by
 have hta:=assert_stop
 refine callsD_of_wpS Tryz.func80 rfl fun c₀ cs' hu=>?_
 apply wpS_seq
 apply wpS_region
 simp[wpOpsS,go_sem,recoverD,hu,Tryz.ntmps80,Exit.thenS]
 refine wpS_of_wp ?_
 have hX:Below w.heap.size w (w.alloc (.cells #[] 114)):=by go_grown
 have hb1:=hb.below hX hb.lt
 go_wp2_with (first
  |(guard_target=~ wpList _ _ _ _ _ _;refine wpList_store_row rfl 36 _ _ rfl g zStA (by kernel_rfl) (by kernel_rfl) _ _ hb1 (by kernel_rfl) (by rw[hcs];rfl) (by kernel_rfl) ?_
    obtain⟨W5,hW5⟩:∃W5:World,W5=(w.alloc (.cells #[] 114)).setRow g zStA:=⟨_,rfl⟩
    rw[←hW5]
    have B5:Blk W5 g 36 zStA:=by rw[hW5];exact hb1.setRow _
    have HW:=Lib.hid hW5
    clear hW5))
 refine⟨rfl,.panicking [stopE true],rfl,.tuple #[],by simp[results,Tryz.results80],rfl,rfl,B5,?_⟩
 refine⟨?_,?_,?_,?_,fun j hj h1=>?_⟩
 all_goals rw[HW.out]
 · rfl
 · rfl
 · rfl
 · simp[World.setRow]
 · have h2:g≠j:=fun e=>h1 (by rw[e])
   have h3:((w.alloc (.cells #[] 114)).setRow g zStA).heap[j]?=(w.alloc (.cells #[] 114)).heap[j]?:=by
    simp[World.setRow,Array.getElem?_modify,h2]
   rw[h3]
   exact hX.block j hj
theorem state_door {fn:Func} {tmps:Array Value} {R:Ending→World→Prop} {w:World} {p:Tmp} {g:Nat} {cs:Array Value} (h:fn.results=#[.cell p 36]) (hp:tmps.getD p undef=.pointer (some ⟨g,0,none⟩))
 (hb:Blk w g 36 cs) (hi:(Tryz.prog.info? 36).map (·.size)=some cs.size) (hR:R (.returned (.agg cs)) w):Leaves Tryz.prog fn tmps R [] .returning w:=by
 have hp':tmps[p]?.getD undef=.pointer (some ⟨g,0,none⟩):=by simpa using hp
 refine⟨_,?_,hR⟩
 simp[results,h,hp',asAddr,run_loadVar_blk hb Tryz.underlying36 rfl hi]
def gSt (l:List UInt8) (s:RS):Stt×RS:=if (rSt l s).2.e=0 then rSt l s else (zSt,(rSt l s).2)
def SttIn (w:World) (B1:Option Addr) (b1 d1:Nat) (B2:Option Addr) (b2 d2:Nat) (s:Stt):Prop:=
 s.r.ok∧s.f.ok∧s.c.ok∧b1≤d1∧d1≤maxLen∧b2≤d2∧d2≤maxLen∧Sl HsRel 2 w w.heap.size B1 b1 s.h∧Sl PnRel 8 w w.heap.size B2 b2 s.p
theorem SttIn.below {w w':World} {B1 B2:Option Addr} {b1 d1 b2 d2:Nat} {s:Stt} (h:SttIn w B1 b1 d1 B2 b2 d2 s) (hb:Below w.heap.size w w'):SttIn w' B1 b1 d1 B2 b2 d2 s:=by
 obtain⟨a,b,c,d,e,f,g,i,j⟩:=h
 exact⟨a,b,c,d,e,f,g,(i.below HsRel.kept hb).more HsRel.kept hb.size,(j.below PnRel.kept hb).more PnRel.kept hb.size⟩
def StPost (w:World) (g:Nat) (A:Option Addr) (n c:Nat) (l:List UInt8) (x:Stt×RS):Ending→World→Prop:=fun e w'=>
 ∃B1 b1 d1 B2 b2 d2,e=.returned (.agg (x.1.arr (.slice B1 b1 d1) (.slice B2 b2 d2)))∧SttIn w' B1 b1 d1 B2 b2 d2 x.1∧Rd 136 w' g A n c l x.2∧w.grownBy w' (some g)
theorem zSt_rel (w:World):SttIn w none 0 0 none 0 0 zSt:=
 ⟨zRg_ok,zSp_ok,zSp_ok,Nat.le_refl _,Nat.zero_le _,Nat.le_refl _,Nat.zero_le _,Sl.nil,Sl.nil⟩
theorem getState_any (w:World) (g:Nat) (A:Option Addr) (n c:Nat) (l:List UInt8) (s:RS) (h:Rd 136 w g A n c l s) (hs:s.e=0):
 Calls Tryz.prog 31 #[.pointer (some ⟨g,0,none⟩)] w (StPost w g A n c l (gSt l s)):=by
 have hmf:∀(fn:Fn) (first cap:Array Value) (w:World),(Instr.makeFunc fn first cap).run Tryz.prog w=.ok (.func fn first cap) w:=fun _ _ _ _=>rfl
 have gl:=h.blk.lt
 have HG:=Lib.hid (show gSt l s=if (rSt l s).2.e=0 then rSt l s else (zSt,(rSt l s).2) from rfl)
 generalize gSt l s=G at*
 go_enter_defers Tryz.func31,Tryz.ntmps31
 obtain⟨Y,hY⟩:∃Y:World,Y=(w.alloc (.cells zStA 36)).alloc (.cells #[.pointer none,.pointer (some ⟨g,0,none⟩)] 109):=⟨_,rfl⟩
 have hX:Below w.heap.size w Y:=by rw[hY];go_grown
 have hap:∀(k:Nat),w.heap.size≤k→∀a,A=some a→0<n→a.block≠k:=fun k hk a ha hn=>by
  obtain⟨ad,e,hlt,_⟩:=h.reads.2 hn
  rw[ha]at e
  obtain rfl:=Option.some.inj e
  omega
 have kC:Blk Y (w.heap.size+1) 109 #[.pointer none,.pointer (some ⟨g,0,none⟩)]:=by rw[hY];exact Blk.new' _ _ (by simp)
 have kS:Blk Y w.heap.size 36 zStA:=by rw[hY];exact(Blk.new _ _ _).alloc _
 have hC:CR Y g A n c l s (w.heap.size+1):=⟨h.below hX,kC,by omega,hap _ (by omega)⟩
 have D:Dst Y A n g (w.heap.size+1) w.heap.size 36 zStA 0 ([.int .i64 0,.int .i64 0,.float .f64 0,.float .f64 0]++([.int .i64 0,.int .i64 0,.int .i64 0]++([.int .i64 0,.int .i64 0,.int .i64 0]++([.slice none 0 0]++([.slice none 0 0]))))):=
  ⟨kS,has_of rfl,by omega,by omega,hap _ (Nat.le_refl _)⟩
 have hR:=rcState Y g A n c l s (w.heap.size+1) w.heap.size 36 zStA 0 hC hs D
 rw[hY]at hR
 have HY:=Lib.hid hY
 have hYl:=kS.lt
 clear kC kS hC D hY
 go_wp2_with fail
 refine hR.mono ?_
 rw[←HY.out]
 rintro e w2 ⟨hC2,t2,⟨e2,rfl,vs,l2,k2,n2⟩|⟨e2,rfl,cs2,l2,k2⟩⟩
 rotate_left
 · have hE:G=(zSt,(rSt l s).2):=by rw[HG.out,if_neg e2]
   subst hE
   show Leaves _ _ _ _ _ _ _
   refine leaves_cons (f:=80) (args:=#[.pointer (some ⟨w.heap.size,0,none⟩)]) (by simp) (by simp[go_sem]) ?_
   refine(catch_stopS w.heap.size cs2 w2 k2 (l2.trans rfl)).mono ?_
   rintro e u w7 ⟨rfl,rfl,B7,t7⟩
   refine state_door rfl rfl B7 (by kernel_rfl) ⟨none,0,0,none,0,0,rfl,zSt_rel _,hC2.rd.far t7 (by omega) (hap _ (Nat.le_refl _)),?_⟩
   exact⟨t7.os.trans (t2.os.trans hX.os),t7.tape.trans (t2.tape.trans hX.tape),t7.output.trans (t2.output.trans hX.output),Nat.le_trans hX.size (Nat.le_trans t2.size t7.size),fun k hk hne=>
    (t7.block k (by have:=hX.size;have:=t2.size;omega) (by intro e;cases e;omega)).trans ((t2.block k (by have:=hX.size;omega) (by intro e;exact hne (by rw[e])) (by omega)).trans (hX.block k hk))⟩
 have hE:G=rSt l s:=by rw[HG.out,if_pos e2]
 subst hE
 obtain⟨x,y,rfl,a1,a2,a3,⟨B1,b1,d1,rfl,x1,x2,h4⟩,⟨B2,b2,d2,rfl,x3,x4,h5⟩⟩:=n2
 have hk:∀p u,p.block<w2.heap.size→(only (rng Y.heap.size w2.heap.size) w2).cell? p=some u→w2.cell? p=some u:=fun p u _ hc=>(only_cell hc).2
 have hrel:SttIn w2 B1 b1 d1 B2 b2 d2 (rSt l s).1:=⟨a1,a2,a3,x1,x2,x3,x4,h4.mono HsRel.mono hk,h5.mono PnRel.mono hk⟩
 rw[put_all _ zStA (by rfl)]at k2
 replace k2:Blk w2 w.heap.size 36 ((rSt l s).1.arr (.slice B1 b1 d1) (.slice B2 b2 d2)):=k2
 have hgr:w.grownBy w2 (some g):=⟨t2.os.trans hX.os,t2.tape.trans hX.tape,t2.output.trans hX.output,Nat.le_trans hX.size t2.size,fun k hk hne=>
  (t2.block k (by have:=hX.size;omega) (by intro e;exact hne (by rw[e])) (by omega)).trans (hX.block k hk)⟩
 have hrd:=hC2.rd
 have hS:=setRow_same k2
 clear hk h4 h5 a1 a2 a3 x1 x2 x3 x4 hC2 t2 hR hX l2 HG HY hYl
 generalize rSt l s=X at*
 go_wp2_with (first
  |(guard_target=~ wpList _ _ _ _ _ _;refine wpList_load_row rfl 36 _ rfl w.heap.size (by kernel_rfl) _ _ (0,0) _ k2 rfl rfl (by kernel_rfl) ?_)
  |(guard_target=~ wpList _ _ _ _ _ _;refine wpList_store_row rfl 36 _ _ rfl w.heap.size (X.1.arr (.slice B1 b1 d1) (.slice B2 b2 d2)) (by kernel_rfl) (by kernel_rfl) _ _ k2 (by kernel_rfl) (by kernel_rfl) (by kernel_rfl) ?_
    rw[hS]))
 refine leaves_cons (f:=80) (args:=#[.pointer (some ⟨w.heap.size,0,none⟩)]) (by simp) (by simp[go_sem]) ?_
 refine(catch_idleS _ _).mono ?_
 rintro e u w7 ⟨rfl,rfl,rfl⟩
 exact state_door rfl rfl k2 (by kernel_rfl) ⟨B1,b1,d1,B2,b2,d2,rfl,hrel,hrd,hgr⟩
end Go.Proofs.YthdmanadhbpogaaGreat
