/- The walk of msgs' without. -/
import Derived.Test.YtcalkfgibflbnaaGreatDaba
import Derived.Test.YtcalkfgibflbnaaGreatDacb
namespace Go.Proofs.YtcalkfgibflbnaaGreat
set_option maxHeartbeats 8000000
set_option maxRecDepth 100000
set_option linter.unusedVariables false
open Go.RowKit Fl
attribute [local go_sem] run_store_float
abbrev zeroMC:Array Value:=#[.int .i64 0,.int .i64 0,.int .i64 0,.int .i64 0,.int .i64 0,.int .i64 0,.int .i64 0,.int .i64 0,.int .i64 0,.int .i64 0,.int .i64 0,.int .i64 0,.int .i64 0,.int .i64 0,.int .i64 0,.bool false,.int .i64 0,.int .i64 0,.slice none 0 0,.slice none 0 0,.slice none 0 0,.slice none 0 0,.slice none 0 0,.slice none 0 0,.int .i64 0,.int .i64 0,.float .f64 0,.float .f64 0,.int .i64 0,.int .i64 0,.int .i64 0,.int .i64 0,.int .i64 0,.int .i64 0,.slice none 0 0,.slice none 0 0]
abbrev z3C:Array Value:=#[.int .i64 0,.int .i64 0,.int .i64 0]
abbrev woBox (m:Mg) (h:Hm) (w:World):World:=((w.alloc (.cells (m.vals h) 41)).alloc (.cells zeroMC 41)).alloc (.cells z3C 26)
def wipeM (m:Mg):Mg:=
 if m.k=1 then {m with t:=⟨0,0,0⟩,rg:=0,ep:=0,s:=⟨0,0,0⟩,ks:=[]} else
 if m.k=2 then {m with t:=⟨0,0,0⟩,rg:=0,cd:=0,s:=⟨0,0,0⟩,sn:=[],rs:=[]} else
 if m.k=3 then {m with t:=⟨0,0,0⟩,rg:=0,ep:=0,s:=⟨0,0,0⟩,sn:=[],ws:=[],ps:=[]} else
 if m.k=4 then {m with t:=⟨0,0,0⟩,rg:=0,cd:=0,s:=⟨0,0,0⟩,rs:=[]} else
 if m.k=5 then {m with t:=⟨0,0,0⟩,rg:=0,cm:=false,s:=⟨0,0,0⟩} else
 if m.k=6 then {m with t:=⟨0,0,0⟩,rg:=0} else
 if m.k=7 then {m with t:=⟨0,0,0⟩,rg:=0} else
 if m.k=8 then {m with rg:=0,n:=0,mx:=0,s:=⟨0,0,0⟩} else
 if m.k=9 then {m with rg:=0,n:=0,rc:=[]} else
 if m.k=10 then {m with rg:=0,st:=zeroS} else
 if m.k=11 then {m with rg:=0} else
 if m.k=12 then {m with pv:=⟨0,0,0⟩,s:=⟨0,0,0⟩,t:=⟨0,0,0⟩,ws:=[]} else
 if m.k=14 then {m with s:=⟨0,0,0⟩} else
 m
def wipeHm (k:Int) (h:Hm):Hm:=
 if k=1 then {h with a:=Hd.nil} else
 if k=2 then {h with b:=Hd.nil,e:=Hd.nil} else
 if k=3 then {h with b:=Hd.nil,c:=Hd.nil,d:=Hd.nil} else
 if k=4 then {h with e:=Hd.nil} else
 if k=9 then {h with f:=Hd.nil} else
 if k=10 then {h with g:=Hd.nil,i:=Hd.nil} else
 if k=12 then {h with c:=Hd.nil} else
 h
def kindM (k:Int):Bool:=decide (1≤k∧k≤14)
structure WoS (w W:World) (cells:Array Value):Prop where
 bM:Blk W w.heap.size 41 cells
 bR:Blk W (w.heap.size+1) 41 zeroMC
 bN:Blk W (w.heap.size+1+1) 26 z3C
 hX:Below w.heap.size w W
 sz:cells.size=36
theorem WoS.start {m:Mg} {h:Hm} {w W0:World} (e:W0=woBox m h w):WoS w W0 (m.vals h):=by
 subst e
 exact⟨((Blk.new _ _ _).alloc _).alloc _,(Blk.new' _ _ (by simp)).alloc _,Blk.new' _ _ (by simp),by go_grown,rfl⟩
theorem WoS.as {w W:World} {cells c2:Array Value} (h:WoS w W cells) (e:cells=c2):WoS w W c2:=e▸h
theorem WoS.drew {w W:World} {cells:Array Value} (h:WoS w W cells):WoS w W.drew cells:=⟨h.bM,h.bR,h.bN,h.hX.drew,h.sz⟩
theorem sw {md:Region.Mode} {ops:Array Oper} {Q:Exit→Act→World→Prop} {fuel:Nat} {listed:Array Bool} {a:Act} {w W:World} {cells:Array Value} {x2 x3 x4 ty} {x y:Operand} (I:WoS w W cells) (i o:Nat) (v:Value)
 (h:∀W',WoS w W' (setA cells o v.cells.toList)→wpAnyH Tryz.prog md ops Q (fun w'=>Blk w' (w.heap.size+1+1) 26 z3C) fuel (listed.setIfInBounds i true) (a.put none undef) W')
 (ho:ops[i]?=some ⟨none,.store ty x y,x2,x3,x4,none⟩:=by rfl) (hx:a.eval x=.pointer (some ⟨w.heap.size,o,none⟩):=by rfl) (hy:a.eval y=v:=by rfl) (hz:o+v.cells.size≤36:=by decide)
 (hr:Region.ready md ops listed=[i]:=by kernel_rfl) (hi:(Tryz.prog.info? ty).map (·.size)=some v.cells.size:=by kernel_rfl) (h1:v.cells.all (·.oneCell')=true:=by kernel_rfl):
 wpAnyH Tryz.prog md ops Q (fun w'=>Blk w' (w.heap.size+1+1) 26 z3C) (fuel+1) listed a W:=by
 have hN:Blk (W.setCells w.heap.size o v.cells.toList) (w.heap.size+1+1) 26 z3C:=(setCells_far (by omega) _ _ _).trans I.bN
 exact wpAnyH_store_v hr ho rfl ty x y rfl w.heap.size o v hx hy (I.bM.there o _ (by rw[I.sz];exact hz)) hi h1 hN
  (h _ ⟨Blk.setCells _ o _ _ I.bM,(setCells_far (by omega) _ _ _).trans I.bR,hN,setCells_below (Nat.le_refl _) _ _ _ I.hX,(setA_size _ _ _).trans I.sz⟩)
theorem mwithout_1 (m:Mg) (h:Hm) (w:World) (hk:m.k=1):
 Calls Tryz.prog 28 #[.agg (m.vals h)] w fun e w'=>e=.returned (.tuple #[.agg (({m with t:=⟨0,0,0⟩,rg:=0,ep:=0,s:=⟨0,0,0⟩,ks:=[]}:Mg).vals {h with a:=Hd.nil}),.bool true])∧Below w.heap.size w w':=by
 obtain⟨k,fr,ton,t,rg,ep,cd,s,pv,cm,n,mx,ks,sn,ws,ps,rs,rc,st⟩:=m
 change k=1 at hk
 subst hk
 obtain⟨W0,hW0⟩:∃W0,W0=woBox (⟨1,fr,ton,t,rg,ep,cd,s,pv,cm,n,mx,ks,sn,ws,ps,rs,rc,st⟩:Mg) h w:=⟨_,rfl⟩
 have I:=WoS.start hW0
 unfold woBox zeroMC z3C at hW0
 have HW:=Lib.hid hW0
 clear hW0
 go_enter Tryz.func28,Tryz.ntmps28
 go_upto_region 5 with fail
 rw[←HW.out]
 clear HW
 replace I:=I.drew
 refine wp_region_held_drew (S:=fun w'=>Blk w' (w.heap.size+1+1) 26 z3C) (by kernel_rfl) I.bN (fun hHeld=>?_)
 generalize W0.drew=W1 at*
 refine t0 0 11 ?_
 go_frame
 refine tl 1 12 rfl (yieldsIf_load_row (by kernel_rfl) 26 _ rfl (w.heap.size+1+1) rfl 26 z3C _ (fun _ h=>h) Tryz.underlying26 rfl (by kernel_rfl)) ?_
 go_frame
 refine t0 2 13 ?_
 go_frame
 refine sw I 3 3 (.agg z3C) fun W2 I=>?_
 have hHeld:=I.bN
 go_frame
 refine t0 4 14 ?_
 go_frame
 refine sw I 5 6 (.int .i64 0) fun W3 I=>?_
 have hHeld:=I.bN
 go_frame
 refine t0 6 15 ?_
 go_frame
 refine sw I 7 7 (.int .i64 0) fun W4 I=>?_
 have hHeld:=I.bN
 go_frame
 refine t0 8 16 ?_
 go_frame
 refine sw I 9 9 (.agg z3C) fun W5 I=>?_
 have hHeld:=I.bN
 go_frame
 refine t0 10 17 ?_
 go_frame
 refine sw I 11 18 (.slice none 0 0) fun W6 I=>?_
 have hHeld:=I.bN
 go_frame
 refine td ?_
 replace I:WoS w W6 ((⟨1,fr,ton,⟨0,0,0⟩,0,0,cd,⟨0,0,0⟩,pv,cm,n,mx,[],sn,ws,ps,rs,rc,st⟩:Mg).arr (.slice none 0 0) (.slice h.b.A h.b.n h.b.c) (.slice h.c.A h.c.n h.c.c) (.slice h.d.A h.d.n h.d.c) (.slice h.e.A h.e.n h.e.c) (.slice h.f.A h.f.n h.f.c) (.slice h.g.A h.g.n h.g.c) (.slice h.i.A h.i.n h.i.c)):=I.as (by kernel_rfl)
 go_wp2_with (first
  |(guard_target=~ wpList _ _ _ _ _ _;refine wpList_load_row rfl 41 _ rfl w.heap.size (by kernel_rfl) _ _ (0,0) _ I.bM rfl rfl (by kernel_rfl) ?_)
  |(guard_target=~ wpList _ _ _ _ _ _;refine wpList_store_row rfl 41 _ _ rfl (w.heap.size+1) _ rfl rfl _ _ I.bR (by kernel_rfl) (by kernel_rfl) (by kernel_rfl) ?_))
 (try simp only[Exit.inBlock,Exit.then])
 refine post_cell_tmp rfl (by rfl) (I.bR.setRow _) rfl rfl (by kernel_rfl) ?_
 exact⟨rfl,below_setRow I.hX (by omega) _⟩
theorem mwithout_2 (m:Mg) (h:Hm) (w:World) (hk:m.k=2):
 Calls Tryz.prog 28 #[.agg (m.vals h)] w fun e w'=>e=.returned (.tuple #[.agg (({m with t:=⟨0,0,0⟩,rg:=0,cd:=0,s:=⟨0,0,0⟩,sn:=[],rs:=[]}:Mg).vals {h with b:=Hd.nil,e:=Hd.nil}),.bool true])∧Below w.heap.size w w':=by
 obtain⟨k,fr,ton,t,rg,ep,cd,s,pv,cm,n,mx,ks,sn,ws,ps,rs,rc,st⟩:=m
 change k=2 at hk
 subst hk
 obtain⟨W0,hW0⟩:∃W0,W0=woBox (⟨2,fr,ton,t,rg,ep,cd,s,pv,cm,n,mx,ks,sn,ws,ps,rs,rc,st⟩:Mg) h w:=⟨_,rfl⟩
 have I:=WoS.start hW0
 unfold woBox zeroMC z3C at hW0
 have HW:=Lib.hid hW0
 clear hW0
 go_enter Tryz.func28,Tryz.ntmps28
 go_upto_region 7 with fail
 rw[←HW.out]
 clear HW
 replace I:=I.drew
 refine wp_region_held_drew (S:=fun w'=>Blk w' (w.heap.size+1+1) 26 z3C) (by kernel_rfl) I.bN (fun hHeld=>?_)
 generalize W0.drew=W1 at*
 refine t0 0 20 ?_
 go_frame
 refine tl 1 21 rfl (yieldsIf_load_row (by kernel_rfl) 26 _ rfl (w.heap.size+1+1) rfl 26 z3C _ (fun _ h=>h) Tryz.underlying26 rfl (by kernel_rfl)) ?_
 go_frame
 refine t0 2 22 ?_
 go_frame
 refine sw I 3 3 (.agg z3C) fun W2 I=>?_
 have hHeld:=I.bN
 go_frame
 refine t0 4 23 ?_
 go_frame
 refine sw I 5 6 (.int .i64 0) fun W3 I=>?_
 have hHeld:=I.bN
 go_frame
 refine t0 6 24 ?_
 go_frame
 refine sw I 7 8 (.int .i64 0) fun W4 I=>?_
 have hHeld:=I.bN
 go_frame
 refine t0 8 25 ?_
 go_frame
 refine sw I 9 9 (.agg z3C) fun W5 I=>?_
 have hHeld:=I.bN
 go_frame
 refine t0 10 26 ?_
 go_frame
 refine sw I 11 19 (.slice none 0 0) fun W6 I=>?_
 have hHeld:=I.bN
 go_frame
 refine t0 12 27 ?_
 go_frame
 refine sw I 13 22 (.slice none 0 0) fun W7 I=>?_
 have hHeld:=I.bN
 go_frame
 refine td ?_
 replace I:WoS w W7 ((⟨2,fr,ton,⟨0,0,0⟩,0,ep,0,⟨0,0,0⟩,pv,cm,n,mx,ks,[],ws,ps,[],rc,st⟩:Mg).arr (.slice h.a.A h.a.n h.a.c) (.slice none 0 0) (.slice h.c.A h.c.n h.c.c) (.slice h.d.A h.d.n h.d.c) (.slice none 0 0) (.slice h.f.A h.f.n h.f.c) (.slice h.g.A h.g.n h.g.c) (.slice h.i.A h.i.n h.i.c)):=I.as (by kernel_rfl)
 go_wp2_with (first
  |(guard_target=~ wpList _ _ _ _ _ _;refine wpList_load_row rfl 41 _ rfl w.heap.size (by kernel_rfl) _ _ (0,0) _ I.bM rfl rfl (by kernel_rfl) ?_)
  |(guard_target=~ wpList _ _ _ _ _ _;refine wpList_store_row rfl 41 _ _ rfl (w.heap.size+1) _ rfl rfl _ _ I.bR (by kernel_rfl) (by kernel_rfl) (by kernel_rfl) ?_))
 (try simp only[Exit.inBlock,Exit.then])
 refine post_cell_tmp rfl (by rfl) (I.bR.setRow _) rfl rfl (by kernel_rfl) ?_
 exact⟨rfl,below_setRow I.hX (by omega) _⟩
theorem mwithout_3 (m:Mg) (h:Hm) (w:World) (hk:m.k=3):
 Calls Tryz.prog 28 #[.agg (m.vals h)] w fun e w'=>e=.returned (.tuple #[.agg (({m with t:=⟨0,0,0⟩,rg:=0,ep:=0,s:=⟨0,0,0⟩,sn:=[],ws:=[],ps:=[]}:Mg).vals {h with b:=Hd.nil,c:=Hd.nil,d:=Hd.nil}),.bool true])∧Below w.heap.size w w':=by
 obtain⟨k,fr,ton,t,rg,ep,cd,s,pv,cm,n,mx,ks,sn,ws,ps,rs,rc,st⟩:=m
 change k=3 at hk
 subst hk
 obtain⟨W0,hW0⟩:∃W0,W0=woBox (⟨3,fr,ton,t,rg,ep,cd,s,pv,cm,n,mx,ks,sn,ws,ps,rs,rc,st⟩:Mg) h w:=⟨_,rfl⟩
 have I:=WoS.start hW0
 unfold woBox zeroMC z3C at hW0
 have HW:=Lib.hid hW0
 clear hW0
 go_enter Tryz.func28,Tryz.ntmps28
 go_upto_region 9 with fail
 rw[←HW.out]
 clear HW
 replace I:=I.drew
 refine wp_region_held_drew (S:=fun w'=>Blk w' (w.heap.size+1+1) 26 z3C) (by kernel_rfl) I.bN (fun hHeld=>?_)
 generalize W0.drew=W1 at*
 refine t0 0 30 ?_
 go_frame
 refine tl 1 31 rfl (yieldsIf_load_row (by kernel_rfl) 26 _ rfl (w.heap.size+1+1) rfl 26 z3C _ (fun _ h=>h) Tryz.underlying26 rfl (by kernel_rfl)) ?_
 go_frame
 refine t0 2 32 ?_
 go_frame
 refine sw I 3 3 (.agg z3C) fun W2 I=>?_
 have hHeld:=I.bN
 go_frame
 refine t0 4 33 ?_
 go_frame
 refine sw I 5 6 (.int .i64 0) fun W3 I=>?_
 have hHeld:=I.bN
 go_frame
 refine t0 6 34 ?_
 go_frame
 refine sw I 7 7 (.int .i64 0) fun W4 I=>?_
 have hHeld:=I.bN
 go_frame
 refine t0 8 35 ?_
 go_frame
 refine sw I 9 9 (.agg z3C) fun W5 I=>?_
 have hHeld:=I.bN
 go_frame
 refine t0 10 36 ?_
 go_frame
 refine sw I 11 19 (.slice none 0 0) fun W6 I=>?_
 have hHeld:=I.bN
 go_frame
 refine t0 12 37 ?_
 go_frame
 refine sw I 13 20 (.slice none 0 0) fun W7 I=>?_
 have hHeld:=I.bN
 go_frame
 refine t0 14 38 ?_
 go_frame
 refine sw I 15 21 (.slice none 0 0) fun W8 I=>?_
 have hHeld:=I.bN
 go_frame
 refine td ?_
 replace I:WoS w W8 ((⟨3,fr,ton,⟨0,0,0⟩,0,0,cd,⟨0,0,0⟩,pv,cm,n,mx,ks,[],[],[],rs,rc,st⟩:Mg).arr (.slice h.a.A h.a.n h.a.c) (.slice none 0 0) (.slice none 0 0) (.slice none 0 0) (.slice h.e.A h.e.n h.e.c) (.slice h.f.A h.f.n h.f.c) (.slice h.g.A h.g.n h.g.c) (.slice h.i.A h.i.n h.i.c)):=I.as (by kernel_rfl)
 go_wp2_with (first
  |(guard_target=~ wpList _ _ _ _ _ _;refine wpList_load_row rfl 41 _ rfl w.heap.size (by kernel_rfl) _ _ (0,0) _ I.bM rfl rfl (by kernel_rfl) ?_)
  |(guard_target=~ wpList _ _ _ _ _ _;refine wpList_store_row rfl 41 _ _ rfl (w.heap.size+1) _ rfl rfl _ _ I.bR (by kernel_rfl) (by kernel_rfl) (by kernel_rfl) ?_))
 (try simp only[Exit.inBlock,Exit.then])
 refine post_cell_tmp rfl (by rfl) (I.bR.setRow _) rfl rfl (by kernel_rfl) ?_
 exact⟨rfl,below_setRow I.hX (by omega) _⟩
theorem mwithout_4 (m:Mg) (h:Hm) (w:World) (hk:m.k=4):
 Calls Tryz.prog 28 #[.agg (m.vals h)] w fun e w'=>e=.returned (.tuple #[.agg (({m with t:=⟨0,0,0⟩,rg:=0,cd:=0,s:=⟨0,0,0⟩,rs:=[]}:Mg).vals {h with e:=Hd.nil}),.bool true])∧Below w.heap.size w w':=by
 obtain⟨k,fr,ton,t,rg,ep,cd,s,pv,cm,n,mx,ks,sn,ws,ps,rs,rc,st⟩:=m
 change k=4 at hk
 subst hk
 obtain⟨W0,hW0⟩:∃W0,W0=woBox (⟨4,fr,ton,t,rg,ep,cd,s,pv,cm,n,mx,ks,sn,ws,ps,rs,rc,st⟩:Mg) h w:=⟨_,rfl⟩
 have I:=WoS.start hW0
 unfold woBox zeroMC z3C at hW0
 have HW:=Lib.hid hW0
 clear hW0
 go_enter Tryz.func28,Tryz.ntmps28
 go_upto_region 11 with fail
 rw[←HW.out]
 clear HW
 replace I:=I.drew
 refine wp_region_held_drew (S:=fun w'=>Blk w' (w.heap.size+1+1) 26 z3C) (by kernel_rfl) I.bN (fun hHeld=>?_)
 generalize W0.drew=W1 at*
 refine t0 0 41 ?_
 go_frame
 refine tl 1 42 rfl (yieldsIf_load_row (by kernel_rfl) 26 _ rfl (w.heap.size+1+1) rfl 26 z3C _ (fun _ h=>h) Tryz.underlying26 rfl (by kernel_rfl)) ?_
 go_frame
 refine t0 2 43 ?_
 go_frame
 refine sw I 3 3 (.agg z3C) fun W2 I=>?_
 have hHeld:=I.bN
 go_frame
 refine t0 4 44 ?_
 go_frame
 refine sw I 5 6 (.int .i64 0) fun W3 I=>?_
 have hHeld:=I.bN
 go_frame
 refine t0 6 45 ?_
 go_frame
 refine sw I 7 8 (.int .i64 0) fun W4 I=>?_
 have hHeld:=I.bN
 go_frame
 refine t0 8 46 ?_
 go_frame
 refine sw I 9 9 (.agg z3C) fun W5 I=>?_
 have hHeld:=I.bN
 go_frame
 refine t0 10 47 ?_
 go_frame
 refine sw I 11 22 (.slice none 0 0) fun W6 I=>?_
 have hHeld:=I.bN
 go_frame
 refine td ?_
 replace I:WoS w W6 ((⟨4,fr,ton,⟨0,0,0⟩,0,ep,0,⟨0,0,0⟩,pv,cm,n,mx,ks,sn,ws,ps,[],rc,st⟩:Mg).arr (.slice h.a.A h.a.n h.a.c) (.slice h.b.A h.b.n h.b.c) (.slice h.c.A h.c.n h.c.c) (.slice h.d.A h.d.n h.d.c) (.slice none 0 0) (.slice h.f.A h.f.n h.f.c) (.slice h.g.A h.g.n h.g.c) (.slice h.i.A h.i.n h.i.c)):=I.as (by kernel_rfl)
 go_wp2_with (first
  |(guard_target=~ wpList _ _ _ _ _ _;refine wpList_load_row rfl 41 _ rfl w.heap.size (by kernel_rfl) _ _ (0,0) _ I.bM rfl rfl (by kernel_rfl) ?_)
  |(guard_target=~ wpList _ _ _ _ _ _;refine wpList_store_row rfl 41 _ _ rfl (w.heap.size+1) _ rfl rfl _ _ I.bR (by kernel_rfl) (by kernel_rfl) (by kernel_rfl) ?_))
 (try simp only[Exit.inBlock,Exit.then])
 refine post_cell_tmp rfl (by rfl) (I.bR.setRow _) rfl rfl (by kernel_rfl) ?_
 exact⟨rfl,below_setRow I.hX (by omega) _⟩
theorem mwithout_5 (m:Mg) (h:Hm) (w:World) (hk:m.k=5):
 Calls Tryz.prog 28 #[.agg (m.vals h)] w fun e w'=>e=.returned (.tuple #[.agg (({m with t:=⟨0,0,0⟩,rg:=0,cm:=false,s:=⟨0,0,0⟩}:Mg).vals h),.bool true])∧Below w.heap.size w w':=by
 obtain⟨k,fr,ton,t,rg,ep,cd,s,pv,cm,n,mx,ks,sn,ws,ps,rs,rc,st⟩:=m
 change k=5 at hk
 subst hk
 obtain⟨W0,hW0⟩:∃W0,W0=woBox (⟨5,fr,ton,t,rg,ep,cd,s,pv,cm,n,mx,ks,sn,ws,ps,rs,rc,st⟩:Mg) h w:=⟨_,rfl⟩
 have I:=WoS.start hW0
 unfold woBox zeroMC z3C at hW0
 have HW:=Lib.hid hW0
 clear hW0
 go_enter Tryz.func28,Tryz.ntmps28
 go_upto_region 13 with fail
 rw[←HW.out]
 clear HW
 replace I:=I.drew
 refine wp_region_held_drew (S:=fun w'=>Blk w' (w.heap.size+1+1) 26 z3C) (by kernel_rfl) I.bN (fun hHeld=>?_)
 generalize W0.drew=W1 at*
 refine t0 0 50 ?_
 go_frame
 refine tl 1 51 rfl (yieldsIf_load_row (by kernel_rfl) 26 _ rfl (w.heap.size+1+1) rfl 26 z3C _ (fun _ h=>h) Tryz.underlying26 rfl (by kernel_rfl)) ?_
 go_frame
 refine t0 2 52 ?_
 go_frame
 refine sw I 3 3 (.agg z3C) fun W2 I=>?_
 have hHeld:=I.bN
 go_frame
 refine t0 4 53 ?_
 go_frame
 refine sw I 5 6 (.int .i64 0) fun W3 I=>?_
 have hHeld:=I.bN
 go_frame
 refine t0 6 54 ?_
 go_frame
 refine sw I 7 15 (.bool false) fun W4 I=>?_
 have hHeld:=I.bN
 go_frame
 refine t0 8 55 ?_
 go_frame
 refine sw I 9 9 (.agg z3C) fun W5 I=>?_
 have hHeld:=I.bN
 go_frame
 refine td ?_
 replace I:WoS w W5 ((⟨5,fr,ton,⟨0,0,0⟩,0,ep,cd,⟨0,0,0⟩,pv,false,n,mx,ks,sn,ws,ps,rs,rc,st⟩:Mg).arr (.slice h.a.A h.a.n h.a.c) (.slice h.b.A h.b.n h.b.c) (.slice h.c.A h.c.n h.c.c) (.slice h.d.A h.d.n h.d.c) (.slice h.e.A h.e.n h.e.c) (.slice h.f.A h.f.n h.f.c) (.slice h.g.A h.g.n h.g.c) (.slice h.i.A h.i.n h.i.c)):=I.as (by kernel_rfl)
 go_wp2_with (first
  |(guard_target=~ wpList _ _ _ _ _ _;refine wpList_load_row rfl 41 _ rfl w.heap.size (by kernel_rfl) _ _ (0,0) _ I.bM rfl rfl (by kernel_rfl) ?_)
  |(guard_target=~ wpList _ _ _ _ _ _;refine wpList_store_row rfl 41 _ _ rfl (w.heap.size+1) _ rfl rfl _ _ I.bR (by kernel_rfl) (by kernel_rfl) (by kernel_rfl) ?_))
 (try simp only[Exit.inBlock,Exit.then])
 refine post_cell_tmp rfl (by rfl) (I.bR.setRow _) rfl rfl (by kernel_rfl) ?_
 exact⟨rfl,below_setRow I.hX (by omega) _⟩
theorem mwithout_6 (m:Mg) (h:Hm) (w:World) (hk:m.k=6):
 Calls Tryz.prog 28 #[.agg (m.vals h)] w fun e w'=>e=.returned (.tuple #[.agg (({m with t:=⟨0,0,0⟩,rg:=0}:Mg).vals h),.bool true])∧Below w.heap.size w w':=by
 obtain⟨k,fr,ton,t,rg,ep,cd,s,pv,cm,n,mx,ks,sn,ws,ps,rs,rc,st⟩:=m
 change k=6 at hk
 subst hk
 obtain⟨W0,hW0⟩:∃W0,W0=woBox (⟨6,fr,ton,t,rg,ep,cd,s,pv,cm,n,mx,ks,sn,ws,ps,rs,rc,st⟩:Mg) h w:=⟨_,rfl⟩
 have I:=WoS.start hW0
 unfold woBox zeroMC z3C at hW0
 have HW:=Lib.hid hW0
 clear hW0
 go_enter Tryz.func28,Tryz.ntmps28
 clear I HW W0
 go_upto_region 30 with fail
 go_wp2_with (first
  |(guard_target=~ wpList _ _ _ _ _ _;refine wpList_load_row rfl 41 _ rfl w.heap.size (by kernel_rfl) _ _ (0,0) _ (((Blk.new _ _ _).alloc _).alloc _) rfl rfl (by kernel_rfl) ?_)
  |(guard_target=~ wpList _ _ _ _ _ _;refine wpList_store_row rfl 41 _ _ rfl (w.heap.size+1) _ rfl rfl _ _ ((Blk.new' _ _ (by simp)).alloc _) (by kernel_rfl) (by kernel_rfl) (by kernel_rfl) ?_))
 (try simp only[Exit.inBlock,Exit.then])
 refine post_cell_tmp rfl (by rfl) (((Blk.new' _ _ (by simp)).alloc _).setRow _) rfl rfl (by kernel_rfl) ?_
 exact⟨rfl,below_setRow (by go_grown) (by omega) _⟩
theorem mwithout_7 (m:Mg) (h:Hm) (w:World) (hk:m.k=7):
 Calls Tryz.prog 28 #[.agg (m.vals h)] w fun e w'=>e=.returned (.tuple #[.agg (({m with t:=⟨0,0,0⟩,rg:=0}:Mg).vals h),.bool true])∧Below w.heap.size w w':=by
 obtain⟨k,fr,ton,t,rg,ep,cd,s,pv,cm,n,mx,ks,sn,ws,ps,rs,rc,st⟩:=m
 change k=7 at hk
 subst hk
 obtain⟨W0,hW0⟩:∃W0,W0=woBox (⟨7,fr,ton,t,rg,ep,cd,s,pv,cm,n,mx,ks,sn,ws,ps,rs,rc,st⟩:Mg) h w:=⟨_,rfl⟩
 have I:=WoS.start hW0
 unfold woBox zeroMC z3C at hW0
 have HW:=Lib.hid hW0
 clear hW0
 go_enter Tryz.func28,Tryz.ntmps28
 clear I HW W0
 go_upto_region 30 with fail
 go_wp2_with (first
  |(guard_target=~ wpList _ _ _ _ _ _;refine wpList_load_row rfl 41 _ rfl w.heap.size (by kernel_rfl) _ _ (0,0) _ (((Blk.new _ _ _).alloc _).alloc _) rfl rfl (by kernel_rfl) ?_)
  |(guard_target=~ wpList _ _ _ _ _ _;refine wpList_store_row rfl 41 _ _ rfl (w.heap.size+1) _ rfl rfl _ _ ((Blk.new' _ _ (by simp)).alloc _) (by kernel_rfl) (by kernel_rfl) (by kernel_rfl) ?_))
 (try simp only[Exit.inBlock,Exit.then])
 refine post_cell_tmp rfl (by rfl) (((Blk.new' _ _ (by simp)).alloc _).setRow _) rfl rfl (by kernel_rfl) ?_
 exact⟨rfl,below_setRow (by go_grown) (by omega) _⟩
theorem mwithout_8 (m:Mg) (h:Hm) (w:World) (hk:m.k=8):
 Calls Tryz.prog 28 #[.agg (m.vals h)] w fun e w'=>e=.returned (.tuple #[.agg (({m with rg:=0,n:=0,mx:=0,s:=⟨0,0,0⟩}:Mg).vals h),.bool true])∧Below w.heap.size w w':=by
 obtain⟨k,fr,ton,t,rg,ep,cd,s,pv,cm,n,mx,ks,sn,ws,ps,rs,rc,st⟩:=m
 change k=8 at hk
 subst hk
 obtain⟨W0,hW0⟩:∃W0,W0=woBox (⟨8,fr,ton,t,rg,ep,cd,s,pv,cm,n,mx,ks,sn,ws,ps,rs,rc,st⟩:Mg) h w:=⟨_,rfl⟩
 have I:=WoS.start hW0
 unfold woBox zeroMC z3C at hW0
 have HW:=Lib.hid hW0
 clear hW0
 go_enter Tryz.func28,Tryz.ntmps28
 go_upto_region 18 with fail
 rw[←HW.out]
 clear HW
 replace I:=I.drew
 refine wp_region_held_drew (S:=fun w'=>Blk w' (w.heap.size+1+1) 26 z3C) (by kernel_rfl) I.bN (fun hHeld=>?_)
 generalize W0.drew=W1 at*
 refine tl 0 64 rfl (yieldsIf_load_row (by kernel_rfl) 26 _ rfl (w.heap.size+1+1) rfl 26 z3C _ (fun _ h=>h) Tryz.underlying26 rfl (by kernel_rfl)) ?_
 go_frame
 refine t0 1 65 ?_
 go_frame
 refine sw I 2 6 (.int .i64 0) fun W2 I=>?_
 have hHeld:=I.bN
 go_frame
 refine t0 3 66 ?_
 go_frame
 refine sw I 4 16 (.int .i64 0) fun W3 I=>?_
 have hHeld:=I.bN
 go_frame
 refine t0 5 67 ?_
 go_frame
 refine sw I 6 17 (.int .i64 0) fun W4 I=>?_
 have hHeld:=I.bN
 go_frame
 refine t0 7 68 ?_
 go_frame
 refine sw I 8 9 (.agg z3C) fun W5 I=>?_
 have hHeld:=I.bN
 go_frame
 refine td ?_
 replace I:WoS w W5 ((⟨8,fr,ton,t,0,ep,cd,⟨0,0,0⟩,pv,cm,0,0,ks,sn,ws,ps,rs,rc,st⟩:Mg).arr (.slice h.a.A h.a.n h.a.c) (.slice h.b.A h.b.n h.b.c) (.slice h.c.A h.c.n h.c.c) (.slice h.d.A h.d.n h.d.c) (.slice h.e.A h.e.n h.e.c) (.slice h.f.A h.f.n h.f.c) (.slice h.g.A h.g.n h.g.c) (.slice h.i.A h.i.n h.i.c)):=I.as (by kernel_rfl)
 go_wp2_with (first
  |(guard_target=~ wpList _ _ _ _ _ _;refine wpList_load_row rfl 41 _ rfl w.heap.size (by kernel_rfl) _ _ (0,0) _ I.bM rfl rfl (by kernel_rfl) ?_)
  |(guard_target=~ wpList _ _ _ _ _ _;refine wpList_store_row rfl 41 _ _ rfl (w.heap.size+1) _ rfl rfl _ _ I.bR (by kernel_rfl) (by kernel_rfl) (by kernel_rfl) ?_))
 (try simp only[Exit.inBlock,Exit.then])
 refine post_cell_tmp rfl (by rfl) (I.bR.setRow _) rfl rfl (by kernel_rfl) ?_
 exact⟨rfl,below_setRow I.hX (by omega) _⟩
theorem mwithout_9 (m:Mg) (h:Hm) (w:World) (hk:m.k=9):
 Calls Tryz.prog 28 #[.agg (m.vals h)] w fun e w'=>e=.returned (.tuple #[.agg (({m with rg:=0,n:=0,rc:=[]}:Mg).vals {h with f:=Hd.nil}),.bool true])∧Below w.heap.size w w':=by
 obtain⟨k,fr,ton,t,rg,ep,cd,s,pv,cm,n,mx,ks,sn,ws,ps,rs,rc,st⟩:=m
 change k=9 at hk
 subst hk
 obtain⟨W0,hW0⟩:∃W0,W0=woBox (⟨9,fr,ton,t,rg,ep,cd,s,pv,cm,n,mx,ks,sn,ws,ps,rs,rc,st⟩:Mg) h w:=⟨_,rfl⟩
 have I:=WoS.start hW0
 unfold woBox zeroMC z3C at hW0
 have HW:=Lib.hid hW0
 clear hW0
 go_enter Tryz.func28,Tryz.ntmps28
 clear I HW W0
 go_upto_region 30 with fail
 go_wp2_with (first
  |(guard_target=~ wpList _ _ _ _ _ _;refine wpList_load_row rfl 41 _ rfl w.heap.size (by kernel_rfl) _ _ (0,0) _ (((Blk.new _ _ _).alloc _).alloc _) rfl rfl (by kernel_rfl) ?_)
  |(guard_target=~ wpList _ _ _ _ _ _;refine wpList_store_row rfl 41 _ _ rfl (w.heap.size+1) _ rfl rfl _ _ ((Blk.new' _ _ (by simp)).alloc _) (by kernel_rfl) (by kernel_rfl) (by kernel_rfl) ?_))
 (try simp only[Exit.inBlock,Exit.then])
 refine post_cell_tmp rfl (by rfl) (((Blk.new' _ _ (by simp)).alloc _).setRow _) rfl rfl (by kernel_rfl) ?_
 exact⟨rfl,below_setRow (by go_grown) (by omega) _⟩
theorem mwithout_10 (m:Mg) (h:Hm) (w:World) (hk:m.k=10):
 Calls Tryz.prog 28 #[.agg (m.vals h)] w fun e w'=>e=.returned (.tuple #[.agg (({m with rg:=0,st:=zeroS}:Mg).vals {h with g:=Hd.nil,i:=Hd.nil}),.bool true])∧Below w.heap.size w w':=by
 obtain⟨k,fr,ton,t,rg,ep,cd,s,pv,cm,n,mx,ks,sn,ws,ps,rs,rc,st⟩:=m
 change k=10 at hk
 subst hk
 obtain⟨W0,hW0⟩:∃W0,W0=woBox (⟨10,fr,ton,t,rg,ep,cd,s,pv,cm,n,mx,ks,sn,ws,ps,rs,rc,st⟩:Mg) h w:=⟨_,rfl⟩
 have I:=WoS.start hW0
 unfold woBox zeroMC z3C at hW0
 have HW:=Lib.hid hW0
 clear hW0
 go_enter Tryz.func28,Tryz.ntmps28
 clear I HW W0
 go_upto_region 30 with fail
 go_wp2_with (first
  |(guard_target=~ wpList _ _ _ _ _ _;refine wpList_load_row rfl 41 _ rfl w.heap.size (by kernel_rfl) _ _ (0,0) _ (((Blk.new _ _ _).alloc _).alloc _) rfl rfl (by kernel_rfl) ?_)
  |(guard_target=~ wpList _ _ _ _ _ _;refine wpList_store_row rfl 41 _ _ rfl (w.heap.size+1) _ rfl rfl _ _ ((Blk.new' _ _ (by simp)).alloc _) (by kernel_rfl) (by kernel_rfl) (by kernel_rfl) ?_))
 (try simp only[Exit.inBlock,Exit.then])
 refine post_cell_tmp rfl (by rfl) (((Blk.new' _ _ (by simp)).alloc _).setRow _) rfl rfl (by kernel_rfl) ?_
 exact⟨rfl,below_setRow (by go_grown) (by omega) _⟩
theorem mwithout_11 (m:Mg) (h:Hm) (w:World) (hk:m.k=11):
 Calls Tryz.prog 28 #[.agg (m.vals h)] w fun e w'=>e=.returned (.tuple #[.agg (({m with rg:=0}:Mg).vals h),.bool true])∧Below w.heap.size w w':=by
 obtain⟨k,fr,ton,t,rg,ep,cd,s,pv,cm,n,mx,ks,sn,ws,ps,rs,rc,st⟩:=m
 change k=11 at hk
 subst hk
 obtain⟨W0,hW0⟩:∃W0,W0=woBox (⟨11,fr,ton,t,rg,ep,cd,s,pv,cm,n,mx,ks,sn,ws,ps,rs,rc,st⟩:Mg) h w:=⟨_,rfl⟩
 have I:=WoS.start hW0
 unfold woBox zeroMC z3C at hW0
 have HW:=Lib.hid hW0
 clear hW0
 go_enter Tryz.func28,Tryz.ntmps28
 clear I HW W0
 go_upto_region 30 with fail
 go_wp2_with (first
  |(guard_target=~ wpList _ _ _ _ _ _;refine wpList_load_row rfl 41 _ rfl w.heap.size (by kernel_rfl) _ _ (0,0) _ (((Blk.new _ _ _).alloc _).alloc _) rfl rfl (by kernel_rfl) ?_)
  |(guard_target=~ wpList _ _ _ _ _ _;refine wpList_store_row rfl 41 _ _ rfl (w.heap.size+1) _ rfl rfl _ _ ((Blk.new' _ _ (by simp)).alloc _) (by kernel_rfl) (by kernel_rfl) (by kernel_rfl) ?_))
 (try simp only[Exit.inBlock,Exit.then])
 refine post_cell_tmp rfl (by rfl) (((Blk.new' _ _ (by simp)).alloc _).setRow _) rfl rfl (by kernel_rfl) ?_
 exact⟨rfl,below_setRow (by go_grown) (by omega) _⟩
theorem mwithout_12 (m:Mg) (h:Hm) (w:World) (hk:m.k=12):
 Calls Tryz.prog 28 #[.agg (m.vals h)] w fun e w'=>e=.returned (.tuple #[.agg (({m with pv:=⟨0,0,0⟩,s:=⟨0,0,0⟩,t:=⟨0,0,0⟩,ws:=[]}:Mg).vals {h with c:=Hd.nil}),.bool true])∧Below w.heap.size w w':=by
 obtain⟨k,fr,ton,t,rg,ep,cd,s,pv,cm,n,mx,ks,sn,ws,ps,rs,rc,st⟩:=m
 change k=12 at hk
 subst hk
 obtain⟨W0,hW0⟩:∃W0,W0=woBox (⟨12,fr,ton,t,rg,ep,cd,s,pv,cm,n,mx,ks,sn,ws,ps,rs,rc,st⟩:Mg) h w:=⟨_,rfl⟩
 have I:=WoS.start hW0
 unfold woBox zeroMC z3C at hW0
 have HW:=Lib.hid hW0
 clear hW0
 go_enter Tryz.func28,Tryz.ntmps28
 go_upto_region 26 with fail
 rw[←HW.out]
 clear HW
 replace I:=I.drew
 refine wp_region_held_drew (S:=fun w'=>Blk w' (w.heap.size+1+1) 26 z3C) (by kernel_rfl) I.bN (fun hHeld=>?_)
 generalize W0.drew=W1 at*
 refine tl 0 84 rfl (yieldsIf_load_row (by kernel_rfl) 26 _ rfl (w.heap.size+1+1) rfl 26 z3C _ (fun _ h=>h) Tryz.underlying26 rfl (by kernel_rfl)) ?_
 go_frame
 refine tl 1 85 rfl (yieldsIf_load_row (by kernel_rfl) 26 _ rfl (w.heap.size+1+1) rfl 26 z3C _ (fun _ h=>h) Tryz.underlying26 rfl (by kernel_rfl)) ?_
 go_frame
 refine t0 2 86 ?_
 go_frame
 refine t0 3 87 ?_
 go_frame
 refine sw I 4 12 (.agg z3C) fun W2 I=>?_
 have hHeld:=I.bN
 go_frame
 refine t0 5 88 ?_
 go_frame
 refine sw I 6 9 (.agg z3C) fun W3 I=>?_
 have hHeld:=I.bN
 go_frame
 refine t0 7 89 ?_
 go_frame
 refine sw I 8 3 (.agg z3C) fun W4 I=>?_
 have hHeld:=I.bN
 go_frame
 refine t0 9 90 ?_
 go_frame
 refine sw I 10 20 (.slice none 0 0) fun W5 I=>?_
 have hHeld:=I.bN
 go_frame
 refine td ?_
 replace I:WoS w W5 ((⟨12,fr,ton,⟨0,0,0⟩,rg,ep,cd,⟨0,0,0⟩,⟨0,0,0⟩,cm,n,mx,ks,sn,[],ps,rs,rc,st⟩:Mg).arr (.slice h.a.A h.a.n h.a.c) (.slice h.b.A h.b.n h.b.c) (.slice none 0 0) (.slice h.d.A h.d.n h.d.c) (.slice h.e.A h.e.n h.e.c) (.slice h.f.A h.f.n h.f.c) (.slice h.g.A h.g.n h.g.c) (.slice h.i.A h.i.n h.i.c)):=I.as (by kernel_rfl)
 go_wp2_with (first
  |(guard_target=~ wpList _ _ _ _ _ _;refine wpList_load_row rfl 41 _ rfl w.heap.size (by kernel_rfl) _ _ (0,0) _ I.bM rfl rfl (by kernel_rfl) ?_)
  |(guard_target=~ wpList _ _ _ _ _ _;refine wpList_store_row rfl 41 _ _ rfl (w.heap.size+1) _ rfl rfl _ _ I.bR (by kernel_rfl) (by kernel_rfl) (by kernel_rfl) ?_))
 (try simp only[Exit.inBlock,Exit.then])
 refine post_cell_tmp rfl (by rfl) (I.bR.setRow _) rfl rfl (by kernel_rfl) ?_
 exact⟨rfl,below_setRow I.hX (by omega) _⟩
theorem mwithout_13 (m:Mg) (h:Hm) (w:World) (hk:m.k=13):
 Calls Tryz.prog 28 #[.agg (m.vals h)] w fun e w'=>e=.returned (.tuple #[.agg (m.vals h),.bool true])∧Below w.heap.size w w':=by
 obtain⟨k,fr,ton,t,rg,ep,cd,s,pv,cm,n,mx,ks,sn,ws,ps,rs,rc,st⟩:=m
 change k=13 at hk
 subst hk
 obtain⟨W0,hW0⟩:∃W0,W0=woBox (⟨13,fr,ton,t,rg,ep,cd,s,pv,cm,n,mx,ks,sn,ws,ps,rs,rc,st⟩:Mg) h w:=⟨_,rfl⟩
 have I:=WoS.start hW0
 unfold woBox zeroMC z3C at hW0
 have HW:=Lib.hid hW0
 clear hW0
 go_enter Tryz.func28,Tryz.ntmps28
 clear I HW W0
 go_upto_region 30 with fail
 go_wp2_with (first
  |(guard_target=~ wpList _ _ _ _ _ _;refine wpList_load_row rfl 41 _ rfl w.heap.size (by kernel_rfl) _ _ (0,0) _ (((Blk.new _ _ _).alloc _).alloc _) rfl rfl (by kernel_rfl) ?_)
  |(guard_target=~ wpList _ _ _ _ _ _;refine wpList_store_row rfl 41 _ _ rfl (w.heap.size+1) _ rfl rfl _ _ ((Blk.new' _ _ (by simp)).alloc _) (by kernel_rfl) (by kernel_rfl) (by kernel_rfl) ?_))
 (try simp only[Exit.inBlock,Exit.then])
 refine post_cell_tmp rfl (by rfl) (((Blk.new' _ _ (by simp)).alloc _).setRow _) rfl rfl (by kernel_rfl) ?_
 exact⟨rfl,below_setRow (by go_grown) (by omega) _⟩
theorem mwithout_14 (m:Mg) (h:Hm) (w:World) (hk:m.k=14):
 Calls Tryz.prog 28 #[.agg (m.vals h)] w fun e w'=>e=.returned (.tuple #[.agg (({m with s:=⟨0,0,0⟩}:Mg).vals h),.bool true])∧Below w.heap.size w w':=by
 obtain⟨k,fr,ton,t,rg,ep,cd,s,pv,cm,n,mx,ks,sn,ws,ps,rs,rc,st⟩:=m
 change k=14 at hk
 subst hk
 obtain⟨W0,hW0⟩:∃W0,W0=woBox (⟨14,fr,ton,t,rg,ep,cd,s,pv,cm,n,mx,ks,sn,ws,ps,rs,rc,st⟩:Mg) h w:=⟨_,rfl⟩
 have I:=WoS.start hW0
 unfold woBox zeroMC z3C at hW0
 have HW:=Lib.hid hW0
 clear hW0
 go_enter Tryz.func28,Tryz.ntmps28
 clear I HW W0
 go_upto_region 30 with fail
 go_wp2_with (first
  |(guard_target=~ wpList _ _ _ _ _ _;refine wpList_load_row rfl 41 _ rfl w.heap.size (by kernel_rfl) _ _ (0,0) _ (((Blk.new _ _ _).alloc _).alloc _) rfl rfl (by kernel_rfl) ?_)
  |(guard_target=~ wpList _ _ _ _ _ _;refine wpList_store_row rfl 41 _ _ rfl (w.heap.size+1) _ rfl rfl _ _ ((Blk.new' _ _ (by simp)).alloc _) (by kernel_rfl) (by kernel_rfl) (by kernel_rfl) ?_))
 (try simp only[Exit.inBlock,Exit.then])
 refine post_cell_tmp rfl (by rfl) (((Blk.new' _ _ (by simp)).alloc _).setRow _) rfl rfl (by kernel_rfl) ?_
 exact⟨rfl,below_setRow (by go_grown) (by omega) _⟩
theorem mwithout_0 (m:Mg) (h:Hm) (w:World) (hk:kindM m.k=false):
 Calls Tryz.prog 28 #[.agg (m.vals h)] w fun e w'=>e=.returned (.tuple #[.agg (m.vals h),.bool false])∧Below w.heap.size w w':=by
 obtain⟨k,fr,ton,t,rg,ep,cd,s,pv,cm,n,mx,ks,sn,ws,ps,rs,rc,st⟩:=m
 change kindM k=false at hk
 unfold kindM at hk
 rw[decide_eq_false_iff_not]at hk
 have e1:(k==1)=false:=by simp;omega
 have e2:(k==2)=false:=by simp;omega
 have e3:(k==3)=false:=by simp;omega
 have e4:(k==4)=false:=by simp;omega
 have e5:(k==5)=false:=by simp;omega
 have e6:(k==6)=false:=by simp;omega
 have e7:(k==7)=false:=by simp;omega
 have e8:(k==8)=false:=by simp;omega
 have e9:(k==9)=false:=by simp;omega
 have e10:(k==10)=false:=by simp;omega
 have e11:(k==11)=false:=by simp;omega
 have e12:(k==12)=false:=by simp;omega
 have e13:(k==13)=false:=by simp;omega
 have e14:(k==14)=false:=by simp;omega
 clear hk
 obtain⟨W0,hW0⟩:∃W0,W0=woBox (⟨k,fr,ton,t,rg,ep,cd,s,pv,cm,n,mx,ks,sn,ws,ps,rs,rc,st⟩:Mg) h w:=⟨_,rfl⟩
 have I:=WoS.start hW0
 unfold woBox zeroMC z3C at hW0
 have HW:=Lib.hid hW0
 clear hW0
 go_enter Tryz.func28,Tryz.ntmps28
 clear I HW W0
 go_upto_region 3 with fail
 go_wp2_with (first
  |(guard_target=~ wpList _ _ _ _ _ _;refine wpList_load_row rfl 41 _ rfl w.heap.size (by kernel_rfl) _ _ (0,0) _ (((Blk.new _ _ _).alloc _).alloc _) rfl rfl (by kernel_rfl) ?_)
  |(guard_target=~ wpList _ _ _ _ _ _;refine wpList_store_row rfl 41 _ _ rfl (w.heap.size+1) _ rfl rfl _ _ ((Blk.new' _ _ (by simp)).alloc _) (by kernel_rfl) (by kernel_rfl) (by kernel_rfl) ?_))
 (try simp only[Exit.inBlock,Exit.then])
 refine post_cell_tmp rfl (by rfl) (((Blk.new' _ _ (by simp)).alloc _).setRow _) rfl rfl (by kernel_rfl) ?_
 exact⟨rfl,below_setRow (by go_grown) (by omega) _⟩
theorem mwithout_any (m:Mg) (h:Hm) (w:World):
 Calls Tryz.prog 28 #[.agg (m.vals h)] w fun e w'=>e=.returned (.tuple #[.agg ((wipeM m).vals (wipeHm m.k h)),.bool (kindM m.k)])∧Below w.heap.size w w':=by
 cases hk:kindM m.k
 · have hk':=hk
   unfold kindM at hk'
   rw[decide_eq_false_iff_not]at hk'
   have e1:wipeM m=m:=by unfold wipeM;repeat (rw[if_neg (by omega)])
   have e2:wipeHm m.k h=h:=by unfold wipeHm;repeat (rw[if_neg (by omega)])
   rw[e1,e2]
   exact mwithout_0 m h w hk
 · unfold kindM at hk
   rw[decide_eq_true_eq]at hk
   have hc:m.k=1∨m.k=2∨m.k=3∨m.k=4∨m.k=5∨m.k=6∨m.k=7∨m.k=8∨m.k=9∨m.k=10∨m.k=11∨m.k=12∨m.k=13∨m.k=14:=by omega
   rcases hc with e|e|e|e|e|e|e|e|e|e|e|e|e|e
   · have e1:wipeM m={m with t:=⟨0,0,0⟩,rg:=0,ep:=0,s:=⟨0,0,0⟩,ks:=[]}:=by unfold wipeM;simp[e]
     have e2:wipeHm m.k h={h with a:=Hd.nil}:=by unfold wipeHm;simp[e]
     rw[e1,e2];exact mwithout_1 m h w e
   · have e1:wipeM m={m with t:=⟨0,0,0⟩,rg:=0,cd:=0,s:=⟨0,0,0⟩,sn:=[],rs:=[]}:=by unfold wipeM;simp[e]
     have e2:wipeHm m.k h={h with b:=Hd.nil,e:=Hd.nil}:=by unfold wipeHm;simp[e]
     rw[e1,e2];exact mwithout_2 m h w e
   · have e1:wipeM m={m with t:=⟨0,0,0⟩,rg:=0,ep:=0,s:=⟨0,0,0⟩,sn:=[],ws:=[],ps:=[]}:=by unfold wipeM;simp[e]
     have e2:wipeHm m.k h={h with b:=Hd.nil,c:=Hd.nil,d:=Hd.nil}:=by unfold wipeHm;simp[e]
     rw[e1,e2];exact mwithout_3 m h w e
   · have e1:wipeM m={m with t:=⟨0,0,0⟩,rg:=0,cd:=0,s:=⟨0,0,0⟩,rs:=[]}:=by unfold wipeM;simp[e]
     have e2:wipeHm m.k h={h with e:=Hd.nil}:=by unfold wipeHm;simp[e]
     rw[e1,e2];exact mwithout_4 m h w e
   · have e1:wipeM m={m with t:=⟨0,0,0⟩,rg:=0,cm:=false,s:=⟨0,0,0⟩}:=by unfold wipeM;simp[e]
     have e2:wipeHm m.k h=h:=by unfold wipeHm;simp[e]
     rw[e1,e2];exact mwithout_5 m h w e
   · have e1:wipeM m={m with t:=⟨0,0,0⟩,rg:=0}:=by unfold wipeM;simp[e]
     have e2:wipeHm m.k h=h:=by unfold wipeHm;simp[e]
     rw[e1,e2];exact mwithout_6 m h w e
   · have e1:wipeM m={m with t:=⟨0,0,0⟩,rg:=0}:=by unfold wipeM;simp[e]
     have e2:wipeHm m.k h=h:=by unfold wipeHm;simp[e]
     rw[e1,e2];exact mwithout_7 m h w e
   · have e1:wipeM m={m with rg:=0,n:=0,mx:=0,s:=⟨0,0,0⟩}:=by unfold wipeM;simp[e]
     have e2:wipeHm m.k h=h:=by unfold wipeHm;simp[e]
     rw[e1,e2];exact mwithout_8 m h w e
   · have e1:wipeM m={m with rg:=0,n:=0,rc:=[]}:=by unfold wipeM;simp[e]
     have e2:wipeHm m.k h={h with f:=Hd.nil}:=by unfold wipeHm;simp[e]
     rw[e1,e2];exact mwithout_9 m h w e
   · have e1:wipeM m={m with rg:=0,st:=zeroS}:=by unfold wipeM;simp[e]
     have e2:wipeHm m.k h={h with g:=Hd.nil,i:=Hd.nil}:=by unfold wipeHm;simp[e]
     rw[e1,e2];exact mwithout_10 m h w e
   · have e1:wipeM m={m with rg:=0}:=by unfold wipeM;simp[e]
     have e2:wipeHm m.k h=h:=by unfold wipeHm;simp[e]
     rw[e1,e2];exact mwithout_11 m h w e
   · have e1:wipeM m={m with pv:=⟨0,0,0⟩,s:=⟨0,0,0⟩,t:=⟨0,0,0⟩,ws:=[]}:=by unfold wipeM;simp[e]
     have e2:wipeHm m.k h={h with c:=Hd.nil}:=by unfold wipeHm;simp[e]
     rw[e1,e2];exact mwithout_12 m h w e
   · have e1:wipeM m=m:=by unfold wipeM;simp[e]
     have e2:wipeHm m.k h=h:=by unfold wipeHm;simp[e]
     rw[e1,e2];exact mwithout_13 m h w e
   · have e1:wipeM m={m with s:=⟨0,0,0⟩}:=by unfold wipeM;simp[e]
     have e2:wipeHm m.k h=h:=by unfold wipeHm;simp[e]
     rw[e1,e2];exact mwithout_14 m h w e
end Go.Proofs.YtcalkfgibflbnaaGreat
