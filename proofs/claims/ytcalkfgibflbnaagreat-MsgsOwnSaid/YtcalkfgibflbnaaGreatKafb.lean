/- Two readings of messages: what the chapter's examples fix. -/
import Derived.Defers
import Derived.Recover
import Derived.WalkLawsBesides
import Derived.Test.YtcalkfgibflbnaaGreatKaab
import Derived.Test.YtcalkfgibflbnaaGreatKaag
import Derived.Test.YtcalkfgibflbnaaGreatKada
import Derived.Test.YtcalkfgibflbnaaGreatKafa
namespace Go.Proofs.YtcalkfgibflbnaaGreat
set_option maxHeartbeats 4000000
set_option maxRecDepth 100000
set_option linter.unusedVariables false
open Go.RowKit Fl
attribute [local go_sem] run_store_float
abbrev mgZ (k fr ton rg:Int):Mg:=⟨k,fr,ton,⟨0,0,0⟩,rg,0,0,⟨0,0,0⟩,⟨0,0,0⟩,false,0,0,[],[],[],[],[],[],zeroS⟩
abbrev hmZ:Hm:=⟨Hd.nil,Hd.nil,Hd.nil,Hd.nil,Hd.nil,Hd.nil,Hd.nil,Hd.nil⟩
abbrev zM:Array Value:=(mgZ 0 0 0 0).vals hmZ
theorem mgZ_lo (w:World) (B:Nat) (k fr ton rg:Int):MgLo w B (mgZ k fr ton rg) hmZ:=⟨Sl.nil,Sl.nil,Sl.nil,Sl.nil,Sl.nil,Sl.nil,Sl.nil,Sl.nil⟩
theorem mgZ_sm (k fr ton rg:Int):MgSm (mgZ k fr ton rg) hmZ:=⟨Nat.zero_le _,Nat.zero_le _,Nat.zero_le _,Nat.zero_le _,Nat.zero_le _,Nat.zero_le _,⟨Nat.zero_le _,fun x hx=>by cases hx⟩,⟨Nat.zero_le _,fun x hx=>by cases hx⟩⟩
theorem mgZ_ok {k fr ton rg:Int} (h1:i64ok k) (h2:i64ok fr) (h3:i64ok ton) (h4:i64ok rg):(mgZ k fr ton rg).ok:=by
 have h0:i64ok 0:=by unfold i64ok;omega
 exact⟨h1,h2,h3,⟨h0,h0,h0⟩,h4,h0,h0,⟨h0,h0,h0⟩,⟨h0,h0,h0⟩,h0,h0,⟨h0,h0,by show 0<_;omega,by show 0<_;omega⟩,⟨h0,h0,h0⟩,⟨h0,h0,h0⟩⟩
theorem walkM_11 (fr ton rg:Int) (h1:i64ok fr) (h2:i64ok ton) (h3:i64ok rg) {bs:List UInt8} (e:enc11 (mgZ 11 fr ton rg)=bs):WalkM (mgZ 11 fr ton rg) hmZ bs:=by
 intro w B g v gc gr hc hp hb i
 subst e
 have l0:=encI_len (n:=11) (by omega) (by omega)
 have l1:=encI_len h1.1 h1.2
 have l2:=encI_len h2.1 h2.2
 have l3:=encI_len h3.1 h3.2
 refine mwalk_11 _ _ w B g v [] gc gr rfl hc hp hb (mgZ_ok (by unfold i64ok;omega) h1 h2 h3) i ?_
 unfold enc11
 simp only[List.length_append,List.length_nil]
 omega
theorem walkM_13 (fr ton:Int) (h1:i64ok fr) (h2:i64ok ton) {bs:List UInt8} (e:enc13 (mgZ 13 fr ton 0)=bs):WalkM (mgZ 13 fr ton 0) hmZ bs:=by
 intro w B g v gc gr hc hp hb i
 subst e
 have l0:=encI_len (n:=13) (by omega) (by omega)
 have l1:=encI_len h1.1 h1.2
 have l2:=encI_len h2.1 h2.2
 refine mwalk_13 _ _ w B g v [] gc gr rfl hc hp hb (mgZ_ok (by unfold i64ok;omega) h1 h2 (by unfold i64ok;omega)) i ?_
 unfold enc13
 simp only[List.length_append,List.length_nil]
 omega
abbrev stopQ:Ending:=.panicked [{v:=.iface 93 (.agg #[]),recovered:=false}]
theorem look_bad (w:World) (g:Nat) (A:Option Addr) (n c:Nat) (l:List UInt8) (s:RS) (gc:Nat) (h:CR w g A n c l s gc) (hs:s.e≠0):
 Calls Tryz.prog 129 #[.pointer (some ⟨gc,0,none⟩)] w fun e w'=>e=stopQ∧∃q,w.drewN q=w':=by
 have c1:=cl (h.blk.cell 1)
 have hF:=wRFault g A n c l s w h.rd
 have hb:(s.e==0)=false:=by simp[hs]
 go_enter Tryz.func129,Tryz.ntmps129
 go_wp2_with ((with_reducible refine hF.mono ?_);rintro e w1 ⟨rfl,q,rfl⟩)
 exact⟨rfl,rfl,q,rfl⟩
theorem rcInt_bad (w:World) (g:Nat) (A:Option Addr) (n c:Nat) (l:List UInt8) (s s':RS) (v:Int) (gc b i:Nat) (t:TypeId) (cs:Array Value) (old:Int) (h:CR w g A n c l s gc) (hb:Blk w b t cs) (ho:cs[i]?=some (.int .i64 old))
 (h1:b≠g) (h2:b≠gc) (h3:∀a,A=some a→0<n→a.block≠b) (hr:rInt l s=(v,s')) (hs:s'.e≠0):
 Calls Tryz.prog 81 #[.pointer (some ⟨gc,0,none⟩),.pointer (some ⟨b,i,none⟩)] w fun e w'=>e=stopQ∧Blk w' b t (cs.setIfInBounds i (.int .i64 v))∧Two2 w w' g b:=by
 have c0:=cl (h.blk.cell 0)
 have c1:=cl (h.blk.cell 1)
 have hI:=wRInt g A n c l s w h.rd
 rw[hr]at hI
 go_enter Tryz.func81,Tryz.ntmps81
 go_wp2_with fail
 refine hI.mono ?_
 rintro e w1 ⟨rfl,hrd,hg⟩
 have k1:Blk w1 b t cs:=hb.grown hg (by intro e;exact h1 (by injection e))
 have z1:w1.cell? ⟨b,i,none⟩=some (.int .i64 old):=(k1.cell i).trans ho
 have f1:=k1.frozen i
 have hgc:Blk w1 gc 87 #[.pointer none,.pointer (some ⟨g,0,none⟩)]:=h.blk.grown hg (by intro e;exact h.ne (by injection e))
 have hgs:w1.grownBy (w1.setCell ⟨b,i,none⟩ (.int .i64 v)) (some b):=grown_set _ _ _ _
 have hc2:CR (w1.setCell ⟨b,i,none⟩ (.int .i64 v)) g A n c l s' gc:=⟨hrd.far hgs (fun e=>h1 e.symm) h3,hgc.far (p:=⟨b,i,none⟩) (fun e=>h2 e.symm) _,h.ne,h.ad⟩
 have k2:=k1.set_ i (.int .i64 v)
 go_wp2_with fail
 refine(look_bad _ g A n c l s' gc hc2 hs).mono ?_
 rintro e w2 ⟨rfl,q,rfl⟩
 go_wp2
 have hD:Below (w1.setCell ⟨b,i,none⟩ (.int .i64 v)).heap.size (w1.setCell ⟨b,i,none⟩ (.int .i64 v)) ((w1.setCell ⟨b,i,none⟩ (.int .i64 v)).drewN q):=belowN _
 have t1:Two2 w w1 g b:=⟨hg.os,hg.tape,hg.output,hg.size,fun k hk h4 _=>hg.block k hk (by intro e;exact h4 (by injection e))⟩
 have t2:Two2 w1 (w1.setCell ⟨b,i,none⟩ (.int .i64 v)) g b:=⟨hgs.os,hgs.tape,hgs.output,hgs.size,fun k hk _ h5=>hgs.block k hk (by intro e;exact h5 (by injection e))⟩
 exact⟨rfl,rfl,k2.below hD k2.lt,(t1.trans t2).trans (Two2.ofBelow g b hD)⟩
structure RMt (w0 w:World) (g:Nat) (A:Option Addr) (n c:Nat) (l:List UInt8) (s:RS) (gc bx b:Nat) (cs:Array Value):Prop where
 c:CR w g A n c l s gc
 kx:Blk w bx 84 #[.pointer (some ⟨gc,0,none⟩)]
 km:Blk w b 41 cs
 two:Two2 w0 w g b
theorem RMt.drew {w0 w:World} {g:Nat} {A:Option Addr} {n c:Nat} {l:List UInt8} {s:RS} {gc bx b:Nat} {cs:Array Value} (h:RMt w0 w g A n c l s gc bx b cs):RMt w0 w.drew g A n c l s gc bx b cs:=
 ⟨h.c.below (Below.refl _ _).drew,h.kx,h.km,h.two.trans (Two2.ofBelow g b (Below.refl _ _).drew)⟩
theorem mwalkR_11 (w:World) (g:Nat) (A:Option Addr) (n c:Nat) (l:List UInt8) (s s0 s1 s2 s3:RS) (v1 v2 v3:Int) (gc b:Nat) (h:CR w g A n c l s gc) (hb:Blk w b 41 zM)
 (h1:b≠g) (h2:b≠gc) (h3:∀a,A=some a→0<n→a.block≠b) (hr0:rInt l s=(11,s0)) (hs0:s0.e=0) (hr1:rInt l s0=(v1,s1)) (hs1:s1.e=0) (hr2:rInt l s1=(v2,s2)) (hs2:s2.e=0) (hr3:rInt l s2=(v3,s3)) (hs3:s3.e=0):
 Calls Tryz.prog 42 #[.pointer (some ⟨gc,0,none⟩),.pointer (some ⟨b,0,none⟩)] w fun e w'=>e=.returned (.tuple #[])∧CR w' g A n c l s3 gc∧Blk w' b 41 ((mgZ 11 v1 v2 v3).vals hmZ)∧Two2 w w' g b:=by
 have hX:Below w.heap.size w (w.alloc (.cells #[.pointer (some ⟨gc,0,none⟩)] 84)):=by go_grown
 have S:RMt w (w.alloc (.cells #[.pointer (some ⟨gc,0,none⟩)] 84)) g A n c l s gc w.heap.size b zM:=⟨h.below hX,Blk.new _ _ _,hb.below hX hb.lt,Two2.ofBelow g b hX⟩
 have hgx:g<w.heap.size:=h.rd.blk.lt
 have hbx:b<w.heap.size:=hb.lt
 clear h hb hX
 go_enter Tryz.func42,Tryz.ntmps42
 go_upto_region 1 with fail
 generalize (w.alloc (.cells #[.pointer (some ⟨gc,0,none⟩)] 84))=u0 at*
 have y0:=cl (S.kx.cell 0)
 go_still_tail 4,(by kernel_rfl)
 replace S:=S.drew
 go_wp2_with fail
 refine(rcInt_ok _ g A n c l s s0 11 gc b 0 41 _ 0 S.c S.km rfl h1 h2 h3 hr0 hs0).mono ?_
 rintro e u1 ⟨rfl,c0,k0,t0⟩
 replace S:RMt w u1 g A n c l s0 gc w.heap.size b ((mgZ 11 0 0 0).vals hmZ):=⟨c0,(t0.block _ S.kx.lt (by omega) (by omega)).trans S.kx,k0,S.two.trans t0⟩
 clear c0 k0 t0 y0
 have y1:=cl (S.kx.cell 0)
 have z1:=cl (S.km.cell 0)
 go_wp2_with fail
 go_still_tail 4,(by kernel_rfl)
 replace S:=S.drew
 go_wp2_with fail
 refine(rcInt_ok _ g A n c l s0 s1 v1 gc b 1 41 _ 0 S.c S.km rfl h1 h2 h3 hr1 hs1).mono ?_
 rintro e u2 ⟨rfl,c1,k1,t1⟩
 replace S:RMt w u2 g A n c l s1 gc w.heap.size b ((mgZ 11 v1 0 0).vals hmZ):=⟨c1,(t1.block _ S.kx.lt (by omega) (by omega)).trans S.kx,k1,S.two.trans t1⟩
 clear c1 k1 t1 y1 z1
 have y2:=cl (S.kx.cell 0)
 have z2:=cl (S.km.cell 0)
 go_wp2_with fail
 go_still_tail 4,(by kernel_rfl)
 replace S:=S.drew
 go_wp2_with fail
 refine(rcInt_ok _ g A n c l s1 s2 v2 gc b 2 41 _ 0 S.c S.km rfl h1 h2 h3 hr2 hs2).mono ?_
 rintro e u3 ⟨rfl,c2,k2,t2⟩
 replace S:RMt w u3 g A n c l s2 gc w.heap.size b ((mgZ 11 v1 v2 0).vals hmZ):=⟨c2,(t2.block _ S.kx.lt (by omega) (by omega)).trans S.kx,k2,S.two.trans t2⟩
 clear c2 k2 t2 y2 z2
 have y3:=cl (S.kx.cell 0)
 have z3:=cl (S.km.cell 0)
 go_wp2_with fail
 go_still_tail 4,(by kernel_rfl)
 replace S:=S.drew
 go_wp2_with fail
 refine(rcInt_ok _ g A n c l s2 s3 v3 gc b 6 41 _ 0 S.c S.km rfl h1 h2 h3 hr3 hs3).mono ?_
 rintro e u4 ⟨rfl,c3,k3,t3⟩
 replace S:RMt w u4 g A n c l s3 gc w.heap.size b ((mgZ 11 v1 v2 v3).vals hmZ):=⟨c3,(t3.block _ S.kx.lt (by omega) (by omega)).trans S.kx,k3,S.two.trans t3⟩
 clear c3 k3 t3 y3 z3
 have z:=cl (S.km.cell 0)
 go_wp2
 go_end0
 exact⟨rfl,S.c,S.km,S.two⟩
theorem mwalkR_13 (w:World) (g:Nat) (A:Option Addr) (n c:Nat) (l:List UInt8) (s s0 s1 s2:RS) (v1 v2:Int) (gc b:Nat) (h:CR w g A n c l s gc) (hb:Blk w b 41 zM)
 (h1:b≠g) (h2:b≠gc) (h3:∀a,A=some a→0<n→a.block≠b) (hr0:rInt l s=(13,s0)) (hs0:s0.e=0) (hr1:rInt l s0=(v1,s1)) (hs1:s1.e=0) (hr2:rInt l s1=(v2,s2)) (hs2:s2.e≠0):
 Calls Tryz.prog 42 #[.pointer (some ⟨gc,0,none⟩),.pointer (some ⟨b,0,none⟩)] w fun e w'=>e=stopQ∧∃cs',cs'.size=36∧Blk w' b 41 cs'∧Two2 w w' g b:=by
 have hX:Below w.heap.size w (w.alloc (.cells #[.pointer (some ⟨gc,0,none⟩)] 84)):=by go_grown
 have S:RMt w (w.alloc (.cells #[.pointer (some ⟨gc,0,none⟩)] 84)) g A n c l s gc w.heap.size b zM:=⟨h.below hX,Blk.new _ _ _,hb.below hX hb.lt,Two2.ofBelow g b hX⟩
 have hgx:g<w.heap.size:=h.rd.blk.lt
 have hbx:b<w.heap.size:=hb.lt
 clear h hb hX
 go_enter Tryz.func42,Tryz.ntmps42
 go_upto_region 1 with fail
 generalize (w.alloc (.cells #[.pointer (some ⟨gc,0,none⟩)] 84))=u0 at*
 have y0:=cl (S.kx.cell 0)
 go_still_tail 4,(by kernel_rfl)
 replace S:=S.drew
 go_wp2_with fail
 refine(rcInt_ok _ g A n c l s s0 13 gc b 0 41 _ 0 S.c S.km rfl h1 h2 h3 hr0 hs0).mono ?_
 rintro e u1 ⟨rfl,c0,k0,t0⟩
 replace S:RMt w u1 g A n c l s0 gc w.heap.size b ((mgZ 13 0 0 0).vals hmZ):=⟨c0,(t0.block _ S.kx.lt (by omega) (by omega)).trans S.kx,k0,S.two.trans t0⟩
 clear c0 k0 t0 y0
 have y1:=cl (S.kx.cell 0)
 have z1:=cl (S.km.cell 0)
 go_wp2_with fail
 go_still_tail 4,(by kernel_rfl)
 replace S:=S.drew
 go_wp2_with fail
 refine(rcInt_ok _ g A n c l s0 s1 v1 gc b 1 41 _ 0 S.c S.km rfl h1 h2 h3 hr1 hs1).mono ?_
 rintro e u2 ⟨rfl,c1,k1,t1⟩
 replace S:RMt w u2 g A n c l s1 gc w.heap.size b ((mgZ 13 v1 0 0).vals hmZ):=⟨c1,(t1.block _ S.kx.lt (by omega) (by omega)).trans S.kx,k1,S.two.trans t1⟩
 clear c1 k1 t1 y1 z1
 have y2:=cl (S.kx.cell 0)
 have z2:=cl (S.km.cell 0)
 go_wp2_with fail
 go_still_tail 4,(by kernel_rfl)
 replace S:=S.drew
 go_wp2_with fail
 refine(rcInt_bad _ g A n c l s1 s2 v2 gc b 2 41 _ 0 S.c S.km rfl h1 h2 h3 hr2 hs2).mono ?_
 rintro e u3 ⟨rfl,k2,t2⟩
 exact⟨rfl,rfl,_,by rfl,k2,S.two.trans t2⟩
theorem catch_idle (p q:Addr) (w:World):
 CallsD Tryz.prog 46 #[.pointer (some p),.pointer (some q)] .returning w fun e u' w'=>e=.returned (.tuple #[])∧u'=.returning∧w=w':=by
 refine callsD_of_wpS Tryz.func46 rfl fun c₀ cs hu=>?_
 apply wpS_seq
 apply wpS_region
 simp[wpOpsS,go_sem,recoverD,hu,Tryz.ntmps46,Exit.thenS]
 refine wpS_of_wp ?_
 go_wp2
 cases c₀
 simp_all [bodyPostS,results,Tryz.results46]
theorem run_errno {w:World} {k:Nat} {x:Int} (hb:Blk w k 24 #[.int .i64 x]):(loadVar 24 ⟨k,0,none⟩).run Tryz.prog w=.ok (.int .i64 x) w:=by
 have c:=cl (hb.cell 0)
 simp[go_sem,c]
theorem decode_door {fn:Func} {tmps:Array Value} {R:Ending→World→Prop} {w:World} {p q:Tmp} {g k:Nat} {cs:Array Value} {x:Int} (h:fn.results=#[.cell p 41,.cell q 24]) (hp:tmps.getD p undef=.pointer (some ⟨g,0,none⟩)) (hq:tmps.getD q undef=.pointer (some ⟨k,0,none⟩))
 (hb:Blk w g 41 cs) (hb':Blk w k 24 #[.int .i64 x]) (hi:(Tryz.prog.info? 41).map (·.size)=some cs.size) (hR:R (.returned (.tuple #[.agg cs,.int .i64 x])) w):Leaves Tryz.prog fn tmps R [] .returning w:=by
 have hp':tmps[p]?.getD undef=.pointer (some ⟨g,0,none⟩):=by simpa using hp
 have hq':tmps[q]?.getD undef=.pointer (some ⟨k,0,none⟩):=by simpa using hq
 refine⟨_,?_,hR⟩
 simp[results,h,hp',hq',asAddr,run_loadVar_blk hb Tryz.underlying41 rfl hi,run_errno hb',Sem.run_bind,Result.andThen]
theorem bequal (w:World) {B B':Nat} {A A':Option Addr} {n n' c c':Nat} {a b:List UInt8} (ha:Reads w B 1 A n (bytesV a)) (hb:Reads w B' 1 A' n' (bytesV b)):
 Calls Tryz.prog 49 #[.slice A n c,.slice A' n' c'] w fun e w'=>e=.returned (.bool (a==b))∧w=w':=by
 have h1:=run_conv_reads (P:=Tryz.prog) w 49 9 5 Tryz.underlying49 Tryz.underlying5 Tryz.underlying9 (c:=c) ha
 have h2:=run_conv_reads (P:=Tryz.prog) w 49 9 5 Tryz.underlying49 Tryz.underlying5 Tryz.underlying9 (c:=c') hb
 go_enter Tryz.func49,Tryz.ntmps49
 go_wp2
 go_ret
 exact⟨rfl,rfl⟩
theorem assert_stop (t:TypeId) (w:World):(Instr.typeAssert (.iface 93 (.agg #[])) t 93 true).run Tryz.prog w=.ok (.tuple #[.agg #[],.bool true]) w:=by
 simp[go_sem,Instr.typeAssert]
abbrev stopE (r:Bool):PanicEntry:={v:=.iface 93 (.agg #[]),recovered:=r}
theorem catch_stop (g k:Nat) (cs:Array Value) (x:Int) (w:World) (hb:Blk w g 41 cs) (hcs:cs.size=36) (hk:Blk w k 24 #[.int .i64 x]) (hne:g≠k):
 CallsD Tryz.prog 46 #[.pointer (some ⟨g,0,none⟩),.pointer (some ⟨k,0,none⟩)] (.panicking [stopE false]) w fun e u' w'=>e=.returned (.tuple #[])∧u'=.panicking [stopE true]∧Blk w' g 41 zM∧Blk w' k 24 #[.int .i64 4]∧Two2 w w' g k:=by
 have hta:=assert_stop
 refine callsD_of_wpS Tryz.func46 rfl fun c₀ cs' hu=>?_
 apply wpS_seq
 apply wpS_region
 simp[wpOpsS,go_sem,recoverD,hu,Tryz.ntmps46,Exit.thenS]
 refine wpS_of_wp ?_
 have hX:Below w.heap.size w (w.alloc (.cells #[] 93)):=by go_grown
 have hb1:=hb.below hX hb.lt
 have hk1:=hk.below hX hk.lt
 go_wp2_with (first
  |(guard_target=~ wpList _ _ _ _ _ _;refine wpList_store_row rfl 41 _ _ rfl g zM (by kernel_rfl) (by kernel_rfl) _ _ hb1 (by kernel_rfl) (by rw[hcs];rfl) (by kernel_rfl) ?_
    obtain⟨W5,hW5⟩:∃W5:World,W5=(w.alloc (.cells #[] 93)).setRow g zM:=⟨_,rfl⟩
    rw[←hW5]
    have B5:Blk W5 g 41 zM:=by rw[hW5];exact hb1.setRow _
    have E5:Blk W5 k 24 #[.int .i64 x]:=by rw[hW5];exact hk1.setRow_far _ (by omega)
    have z5:=cl (E5.cell 0)
    have f5:W5.frozen? ⟨k,0,none⟩=false:=E5.frozen 0
    have HW:=Lib.hid hW5
    clear hW5))
 refine⟨rfl,.panicking [stopE true],rfl,.tuple #[],by simp[results,Tryz.results46],rfl,rfl,?_,E5.set_ 0 (.int .i64 4),?_⟩
 · exact B5.far (p:=⟨k,0,none⟩) hne _
 · refine⟨?_,?_,?_,?_,fun j hj h1 h2=>?_⟩
   all_goals rw[HW.out]
   · rfl
   · rfl
   · rfl
   · show w.heap.size≤(((w.alloc (.cells #[] 93)).setRow g zM).setCell ⟨k,0,none⟩ (.int .i64 4)).heap.size
     simp[World.setRow,World.setCell]
   · rw[Below.heap_setCell _ _ _ _ h2]
     have h3:((w.alloc (.cells #[] 93)).setRow g zM).heap[j]?=(w.alloc (.cells #[] 93)).heap[j]?:=by
        simp[World.setRow,Array.getElem?_modify,Ne.symm h1]
     rw[h3]
     exact hX.block j hj
def DecPost (w:World) (r:Mg) (er:Int):Ending→World→Prop:=fun e w'=>e=.returned (.tuple #[.agg (r.vals hmZ),.int .i64 er])∧Below w.heap.size w w'
theorem decode_b (A:Option Addr) (c:Nat) (w:World) (h:Reads w w.heap.size 1 A 2 (bytesV [26,62])):
 Calls Tryz.prog 20 #[.slice A 2 c] w (DecPost w (mgZ 0 0 0 0) 4):=by
 have hmf:∀(fn:Fn) (first cap:Array Value) (w:World),(Instr.makeFunc fn first cap).run Tryz.prog w=.ok (.func fn first cap) w:=fun _ _ _ _=>rfl
 go_enter_defers Tryz.func20,Tryz.ntmps20
 have B0:Blk ((w.alloc (.cells ((mgZ 0 0 0 0).vals hmZ) 41)).alloc (.cells #[.int .i64 0] 24)) w.heap.size 41 ((mgZ 0 0 0 0).vals hmZ):=(Blk.new _ _ _).alloc _
 have E0:Blk ((w.alloc (.cells ((mgZ 0 0 0 0).vals hmZ) 41)).alloc (.cells #[.int .i64 0] 24)) (w.heap.size+1) 24 #[.int .i64 0]:=Blk.new' _ _ (by simp)
 have hX:Below w.heap.size w ((w.alloc (.cells ((mgZ 0 0 0 0).vals hmZ) 41)).alloc (.cells #[.int .i64 0] 24)):=by go_grown
 have hXs:w.heap.size+1<(((w.alloc (.cells ((mgZ 0 0 0 0).vals hmZ) 41)).alloc (.cells #[.int .i64 0] 24))).heap.size:=by simp
 have hRX:=(h.below hX).more hX.size
 go_wp2_with fail
 refine(wRNew A 2 c [26,62] _ hRX (by omega)).mono ?_
 rintro e w1 ⟨A1,n1,c1,rfl,hz,hge,hrd,had,hb1⟩
 have B1:=B0.below hb1 B0.lt
 have E1:=E0.below hb1 E0.lt
 have hX1:=hX.trans (hb1.mono hX.size)
 clear B0 E0 hb1 hX hRX h
 obtain⟨g,hg⟩:∃g,g=w1.heap.size-1:=⟨_,rfl⟩
 rw[←hg]at hge hrd ⊢
 have hgl:g<w1.heap.size:=by omega
 have HG:=Lib.hid hg
 clear hg
 have hD:Below w1.heap.size w1 (w1.alloc (.cells #[.pointer none,.pointer (some ⟨g,0,none⟩)] 87)):=by go_grown
 have hbg:w.heap.size≠g:=by omega
 have hbc:w.heap.size≠w1.heap.size:=by omega
 have hC:CR (w1.alloc (.cells #[.pointer none,.pointer (some ⟨g,0,none⟩)] 87)) g A1 n1 c1 [26,62] ⟨0,0,0⟩ w1.heap.size:=
  ⟨hrd.below hD,Blk.new _ _ _,by omega,fun a ha hn=>by
   obtain⟨ad,e,hlt,_⟩:=hrd.reads.2 hn
   rw[ha]at e
   obtain rfl:=Option.some.inj e
   omega⟩
 have B2:=B1.below hD B1.lt
 have E2:=E1.below hD E1.lt
 have hX2:=hX1.trans (hD.mono hX1.size)
 have had':∀a,A1=some a→0<n1→a.block≠w.heap.size:=fun a ha _=>by have:=had a ha;omega
 have hgY:g<(w1.alloc (.cells #[.pointer none,.pointer (some ⟨g,0,none⟩)] 87)).heap.size:=by simp;omega
 have hWW:w.heap.size≤g:=by omega
 have hE3:w.heap.size+1≠g:=by omega
 clear B1 E1 hX1 hD had hge hrd hXs
 go_wp2_with fail
 refine(mwalkR_13 _ g A1 n1 c1 [26,62] ⟨0,0,0⟩ ⟨1,0,0⟩ ⟨2,0,0⟩ (rInt [26,62] ⟨2,0,0⟩).2 31 (rInt [26,62] ⟨2,0,0⟩).1 w1.heap.size w.heap.size hC B2 hbg hbc had' (by kernel_rfl) rfl (by kernel_rfl) rfl rfl (by decide)).mono ?_
 rintro e w2 ⟨rfl,cs2,l2,k2,t2⟩
 have E3:Blk w2 (w.heap.size+1) 24 #[.int .i64 0]:=(t2.block _ E2.lt hE3 (by omega)).trans E2
 have hX3:Below w.heap.size w w2:=hX2.trans (t2.below hWW (Nat.le_refl _) hX2.size)
 show Leaves _ _ _ _ _ _ _
 refine leaves_cons (f:=46) (args:=#[.pointer (some ⟨w.heap.size,0,none⟩),.pointer (some ⟨w.heap.size+1,0,none⟩)]) (by simp) (by simp[go_sem]) ?_
 refine(catch_stop w.heap.size (w.heap.size+1) cs2 0 w2 k2 l2 E3 (by omega)).mono ?_
 rintro e u w7 ⟨rfl,rfl,B7,E7,t7⟩
 exact decode_door rfl rfl rfl B7 E7 (by kernel_rfl) ⟨rfl,hX3.trans (t7.below (Nat.le_refl _) (by omega) hX3.size)⟩
theorem decode_a (A:Option Addr) (c:Nat) (w:World) (h:Reads w w.heap.size 1 A 4 (bytesV [22,4,2,4])):
 Calls Tryz.prog 20 #[.slice A 4 c] w (DecPost w (mgZ 11 2 1 2) 0):=by
 have hmf:∀(fn:Fn) (first cap:Array Value) (w:World),(Instr.makeFunc fn first cap).run Tryz.prog w=.ok (.func fn first cap) w:=fun _ _ _ _=>rfl
 go_enter_defers Tryz.func20,Tryz.ntmps20
 have B0:Blk ((w.alloc (.cells ((mgZ 0 0 0 0).vals hmZ) 41)).alloc (.cells #[.int .i64 0] 24)) w.heap.size 41 ((mgZ 0 0 0 0).vals hmZ):=(Blk.new _ _ _).alloc _
 have E0:Blk ((w.alloc (.cells ((mgZ 0 0 0 0).vals hmZ) 41)).alloc (.cells #[.int .i64 0] 24)) (w.heap.size+1) 24 #[.int .i64 0]:=Blk.new' _ _ (by simp)
 have hX:Below w.heap.size w ((w.alloc (.cells ((mgZ 0 0 0 0).vals hmZ) 41)).alloc (.cells #[.int .i64 0] 24)):=by go_grown
 have hXs:w.heap.size+1<(((w.alloc (.cells ((mgZ 0 0 0 0).vals hmZ) 41)).alloc (.cells #[.int .i64 0] 24))).heap.size:=by simp
 have hRX:=(h.below hX).more hX.size
 go_wp2_with fail
 refine(wRNew A 4 c [22,4,2,4] _ hRX (by omega)).mono ?_
 rintro e w1 ⟨A1,n1,c1,rfl,hz,hge,hrd,had,hb1⟩
 have B1:=B0.below hb1 B0.lt
 have E1:=E0.below hb1 E0.lt
 have hX1:=hX.trans (hb1.mono hX.size)
 have hR:=h
 clear B0 E0 hb1 hX hRX h
 obtain⟨g,hg⟩:∃g,g=w1.heap.size-1:=⟨_,rfl⟩
 rw[←hg]at hge hrd ⊢
 have hgl:g<w1.heap.size:=by omega
 have HG:=Lib.hid hg
 clear hg
 have hD:Below w1.heap.size w1 (w1.alloc (.cells #[.pointer none,.pointer (some ⟨g,0,none⟩)] 87)):=by go_grown
 have hbg:w.heap.size≠g:=by omega
 have hbc:w.heap.size≠w1.heap.size:=by omega
 have hC:CR (w1.alloc (.cells #[.pointer none,.pointer (some ⟨g,0,none⟩)] 87)) g A1 n1 c1 [22,4,2,4] ⟨0,0,0⟩ w1.heap.size:=
  ⟨hrd.below hD,Blk.new _ _ _,by omega,fun a ha hn=>by
   obtain⟨ad,e,hlt,_⟩:=hrd.reads.2 hn
   rw[ha]at e
   obtain rfl:=Option.some.inj e
   omega⟩
 have B2:=B1.below hD B1.lt
 have E2:=E1.below hD E1.lt
 have hX2:=hX1.trans (hD.mono hX1.size)
 have had':∀a,A1=some a→0<n1→a.block≠w.heap.size:=fun a ha _=>by have:=had a ha;omega
 have hgY:g<(w1.alloc (.cells #[.pointer none,.pointer (some ⟨g,0,none⟩)] 87)).heap.size:=by simp;omega
 have hWW:w.heap.size≤g:=by omega
 have hE3:w.heap.size+1≠g:=by omega
 clear B1 E1 hX1 hD had hge hrd hXs
 go_wp2_with fail
 refine(mwalkR_11 _ g A1 n1 c1 [22,4,2,4] ⟨0,0,0⟩ ⟨1,0,0⟩ ⟨2,0,0⟩ ⟨3,0,0⟩ ⟨4,0,0⟩ 2 1 2 w1.heap.size w.heap.size hC B2 hbg hbc had' (by kernel_rfl) rfl (by kernel_rfl) rfl (by kernel_rfl) rfl (by kernel_rfl) rfl).mono ?_
 rintro e w2 ⟨rfl,hC2,B3,t2⟩
 have E3:Blk w2 (w.heap.size+1) 24 #[.int .i64 0]:=(t2.block _ E2.lt hE3 (by omega)).trans E2
 have hX3:Below w.heap.size w w2:=hX2.trans (t2.below hWW (Nat.le_refl _) hX2.size)
 clear hC B2 E2 hX2 t2 hz
 have hE:=wREnd g A1 n1 c1 [22,4,2,4] ⟨4,0,0⟩ w2 hC2.rd
 rw[show rEnd [22,4,2,4] ⟨4,0,0⟩=(0,0) from by kernel_rfl]at hE
 have hN:=fun W=>mencode_of (mgZ 11 2 1 2) hmZ W [22,4,2,4] (mgZ_ok (by unfold i64ok;omega) (by unfold i64ok;omega) (by unfold i64ok;omega) (by unfold i64ok;omega)) (mgZ_lo W _ 11 2 1 2) (mgZ_sm 11 2 1 2) (fun r hr=>by cases hr) (fun _=>walkM_11 2 1 2 (by unfold i64ok;omega) (by unfold i64ok;omega) (by unfold i64ok;omega) (by kernel_rfl)) (by simp)
 rw[show mencOut (mgZ 11 2 1 2) [22,4,2,4]=[22,4,2,4] from by kernel_rfl,show mencE (mgZ 11 2 1 2) [22,4,2,4]=0 from by kernel_rfl]at hN
 go_wp2_with fail
 refine hE.mono ?_
 rintro e w3 ⟨rfl,q,rfl⟩
 have hQ:Below w2.heap.size w2 (w2.drewN q):=belowN _
 have B4:=B3.below hQ B3.lt
 have E4:=E3.below hQ E3.lt
 have hX4:=hX3.trans (hQ.mono hX3.size)
 have hR4:=(hR.below hX4).more hX4.size
 clear hE hC2 B3 E3 hX3 hQ hR
 have z4:=cl (E4.cell 0)
 go_wp2_with (first
  |(guard_target=~ wpList _ _ _ _ _ _;refine wpList_load_row rfl 41 _ rfl w.heap.size (by kernel_rfl) _ _ (0,0) _ B5 rfl rfl (by kernel_rfl) ?_)
  |(guard_target=~ wpList _ _ _ _ _ _;refine wpList_load_row rfl 41 _ rfl w.heap.size (by kernel_rfl) _ _ (0,0) _ B4 rfl rfl (by kernel_rfl) ?_)
  |((with_reducible refine(hN _).mono ?_);rintro e w4 ⟨A5,c5,rfl,hq5,hm5,hown5,hb5⟩
    have B5:=B4.below hb5 B4.lt
    have E5:=E4.below hb5 E4.lt
    have hX5:=hX4.trans (hb5.mono hX4.size)
    have hR5:=(hR4.below hb5).more hb5.size
    have hO5:Reads w4 w4.heap.size 1 A5 4 (bytesV [22,4,2,4]):=Reads.of_own hown5
    have hEq:=bequal w4 (c:=c5) (c':=c) hO5 hR5
    rw[show (([22,4,2,4]:List UInt8)==[22,4,2,4])=true from by decide]at hEq
    clear hown5 hb5 hR4 hN)
  |((with_reducible refine hEq.mono ?_);rintro e w5 ⟨rfl,rfl⟩)
  |(guard_target=~ wpList _ _ _ _ _ _;refine wpList_store_row rfl 41 _ _ rfl w.heap.size ((mgZ 11 2 1 2).vals hmZ) (by kernel_rfl) (by kernel_rfl) _ _ B5 (by kernel_rfl) (by kernel_rfl) (by kernel_rfl) ?_
    obtain⟨W6,hW6⟩:∃W6:World,W6=w4.setRow w.heap.size ((mgZ 11 2 1 2).vals hmZ):=⟨_,rfl⟩
    rw[←hW6]
    have B6:Blk W6 w.heap.size 41 ((mgZ 11 2 1 2).vals hmZ):=by rw[hW6];exact B5.setRow _
    have E6:Blk W6 (w.heap.size+1) 24 #[.int .i64 0]:=by rw[hW6];exact E5.setRow_far _ (by omega)
    have hX6:Below w.heap.size w W6:=by rw[hW6];exact below_setRow hX5 (Nat.le_refl _) _
    have z6:=cl (E6.cell 0)
    have f6:W6.frozen? ⟨w.heap.size+1,0,none⟩=false:=E6.frozen 0
    clear hW6))
 have B7:=B6.far (p:=⟨w.heap.size+1,0,none⟩) (by simp) (.int .i64 0)
 have E7:=E6.set_ 0 (.int .i64 0)
 have hX7:=hX6.setCell (p:=⟨w.heap.size+1,0,none⟩) (by simp) (.int .i64 0)
 refine leaves_cons (f:=46) (args:=#[.pointer (some ⟨w.heap.size,0,none⟩),.pointer (some ⟨w.heap.size+1,0,none⟩)]) (by simp) (by simp[go_sem]) ?_
 refine(catch_idle _ _ _).mono ?_
 rintro e u w7 ⟨rfl,rfl,rfl⟩
 exact decode_door rfl rfl rfl B7 E7 (by kernel_rfl) ⟨rfl,hX7⟩
end Go.Proofs.YtcalkfgibflbnaaGreat
