/- The walk of msgs' without. -/
import Derived.Test.YtcalkfgibflbnaaGreatBaba
import Derived.Test.YtcalkfgibflbnaaGreatBacb
import Derived.Test.YtcalkfgibflbnaaGreatBacc
namespace Go.Proofs.YtcalkfgibflbnaaGreat
set_option maxHeartbeats 8000000
set_option maxRecDepth 100000
set_option linter.unusedVariables false
open Go.RowKit Fl
attribute [local go_sem] dJ
abbrev qP:Array Value:=#[.int .i64 0,.int .i64 0,.int .i64 0,.int .i64 0,.int .i64 0,.int .i64 0,.int .i64 0,.int .i64 0,.int .i64 0,.int .i64 0,.int .i64 0,.int .i64 0,.int .i64 0,.int .i64 0,.int .i64 0,.bool false,.int .i64 0,.int .i64 0,.slice none 0 0,.slice none 0 0,.slice none 0 0,.slice none 0 0,.slice none 0 0,.slice none 0 0,.int .i64 0,.int .i64 0,.float .f64 0,.float .f64 0,.int .i64 0,.int .i64 0,.int .i64 0,.int .i64 0,.int .i64 0,.int .i64 0,.slice none 0 0,.slice none 0 0]
abbrev eF:Array Value:=#[.int .i64 0,.int .i64 0,.int .i64 0]
abbrev jy (m:Mg) (h:Hm) (w:World):World:=((w.alloc (.cells (m.vals h) 41)).alloc (.cells qP 41)).alloc (.cells eF 26)
def fE (m:Mg):Mg:=
 if m.k=1 then {m with t:=⟨0,0,0⟩,rg:=0,ep:=0,s:=⟨0,0,0⟩,ks:=[]} else
 if m.k=2 then {m with t:=⟨0,0,0⟩,rg:=0,cd:=0,s:=⟨0,0,0⟩,sn:=[],rs:=[]} else
 if m.k=3 then {m with t:=⟨0,0,0⟩,rg:=0,ep:=0,s:=⟨0,0,0⟩,sn:=[],ws:=[],ps:=[]} else
 if m.k=4 then {m with t:=⟨0,0,0⟩,rg:=0,cd:=0,s:=⟨0,0,0⟩,rs:=[]} else
 if m.k=5 then {m with t:=⟨0,0,0⟩,rg:=0,cm:=false,s:=⟨0,0,0⟩} else
 if m.k=6 then {m with t:=⟨0,0,0⟩,rg:=0} else
 if m.k=7 then {m with t:=⟨0,0,0⟩,rg:=0} else
 if m.k=8 then {m with rg:=0,n:=0,mx:=0,s:=⟨0,0,0⟩} else
 if m.k=9 then {m with rg:=0,n:=0,rc:=[]} else
 if m.k=10 then {m with rg:=0,st:=zeroS} else
 if m.k=11 then {m with rg:=0} else
 if m.k=12 then {m with pv:=⟨0,0,0⟩,s:=⟨0,0,0⟩,t:=⟨0,0,0⟩,ws:=[]} else
 if m.k=14 then {m with s:=⟨0,0,0⟩} else
 m
def fF (k:Int) (h:Hm):Hm:=
 if k=1 then {h with a:=Hd.nil} else
 if k=2 then {h with b:=Hd.nil,e:=Hd.nil} else
 if k=3 then {h with b:=Hd.nil,c:=Hd.nil,d:=Hd.nil} else
 if k=4 then {h with e:=Hd.nil} else
 if k=9 then {h with f:=Hd.nil} else
 if k=10 then {h with g:=Hd.nil,i:=Hd.nil} else
 if k=12 then {h with c:=Hd.nil} else
 h
def iK (k:Int):Bool:=decide (1<=k/\k<=14)
structure jm (w W:World) (cells:Array Value):Prop where
 bM:aj W w.heap.size 41 cells
 bR:aj W (w.heap.size+1) 41 qP
 bN:aj W (w.heap.size+1+1) 26 eF
 hX:Below w.heap.size w W
 sz:cells.size=36
theorem jm.start {m:Mg} {h:Hm} {w W0:World} (e:W0=jy m h w):jm w W0 (m.vals h):=by
 subst e;exact⟨((aj.new _ _ _).alloc _).alloc _,(aj.new' _ _ aA).alloc _,aj.new' _ _ aA,by go_grown,rfl⟩
theorem jm.as {w W:World} {cells c2:Array Value} (h:jm w W cells) (e:cells=c2):jm w W c2:=e▸h
theorem jm.drew {w W:World} {cells:Array Value} (h:jm w W cells):jm w W.drew cells:=⟨h.bM,h.bR,h.bN,h.hX.drew,h.sz⟩
theorem sw {md:Region.Mode} {ops:Array Oper} {Q:Exit->Act->World->Prop} {fuel:Nat} {listed:Array Bool} {a:Act} {w W:World} {cells:Array Value} {x2 x3 x4 ty} {x y:Operand} (I:jm w W cells) (i o:Nat) (v:Value)
 (h:∀W',jm w W' (Jv cells o v.cells.toList)->wpAnyH Tryz.prog md ops Q (fun w'=>aj w' (w.heap.size+1+1) 26 eF) fuel (listed.setIfInBounds i true) (a.put none undef) W')
 (ho:ops[i]?=some ⟨none,.store ty x y,x2,x3,x4,none⟩:=by rfl) (hx:a.eval x=.pointer (some ⟨w.heap.size,o,none⟩):=by rfl) (hy:a.eval y=v:=by rfl) (hz:o+v.cells.size<=36:=by decide)
 (hr:Region.ready md ops listed=[i]:=by kernel_rfl) (hi:(Tryz.prog.info? ty).map (·.size)=some v.cells.size:=by kernel_rfl) (h1:v.cells.all (·.oneCell')=true:=by kernel_rfl):
 wpAnyH Tryz.prog md ops Q (fun w'=>aj w' (w.heap.size+1+1) 26 eF) (fuel+1) listed a W:=by
 have hN:aj (W.setCells w.heap.size o v.cells.toList) (w.heap.size+1+1) 26 eF:=(U0 byOmega _ _ _).trans I.bN;exact aeX hr ho rfl ty x y rfl w.heap.size o v hx hy (I.bM.there o _ (by rw[I.sz];exact hz)) hi h1 hN
  (h _ ⟨aj.setCells _ o _ _ I.bM,(U0 byOmega _ _ _).trans I.bR,hN,aeV (Nat.le_refl _) _ _ _ I.hX,(U1 _ _ _).trans I.sz⟩)
theorem aeY (m:Mg) (h:Hm) (w:World) (hk:m.k=1):
 Calls Tryz.prog 28 #[.agg (m.vals h)] w fun e w'=>e=.returned (.tuple #[.agg (({m with t:=⟨0,0,0⟩,rg:=0,ep:=0,s:=⟨0,0,0⟩,ks:=[]}:Mg).vals {h with a:=Hd.nil}),.bool true])/\Below w.heap.size w w':=by
 obtain⟨k,fr,aG,t,rg,ep,cd,s,pv,cm,n,mx,ks,sn,ws,ps,rs,rc,st⟩:=m;change k=1 at hk;subst hk;obtain⟨W0,hW0⟩:∃W0,W0=jy (⟨1,fr,aG,t,rg,ep,cd,s,pv,cm,n,mx,ks,sn,ws,ps,rs,rc,st⟩:Mg) h w:=⟨_,rfl⟩;have I:=jm.start hW0;unfold jy qP eF at hW0;have HW:=au hW0;clear hW0;go_enter Tryz.func28,Tryz.ntmps28;go_upto_region 5 with fail;rw[<-HW.out];clear HW;replace I:=I.drew;refine wp_region_held_drew (S:=fun w'=>aj w' (w.heap.size+1+1) 26 eF) ah I.bN (fun hHeld=>?_);generalize W0.drew=W1 at*;refine t0 0 11 ?_;go_frame;refine tl 1 12 rfl (yZ ah 26 _ rfl (w.heap.size+1+1) rfl 26 eF _ (fun _ h=>h) Tryz.underlying26 rfl ah) ?_;go_frame;refine t0 2 13 ?_;go_frame;refine sw I 3 3 (.agg eF) fun W2 I=>?_
 have hHeld:=I.bN;go_frame;refine t0 4 14 ?_;go_frame;refine sw I 5 6 (.int .i64 0) fun W3 I=>?_
 have hHeld:=I.bN;go_frame;refine t0 6 15 ?_;go_frame;refine sw I 7 7 (.int .i64 0) fun W4 I=>?_
 have hHeld:=I.bN;go_frame;refine t0 8 16 ?_;go_frame;refine sw I 9 9 (.agg eF) fun W5 I=>?_
 have hHeld:=I.bN;go_frame;refine t0 10 17 ?_;go_frame;refine sw I 11 18 (.slice none 0 0) fun W6 I=>?_
 have hHeld:=I.bN;go_frame;refine td ?_;replace I:jm w W6 ((⟨1,fr,aG,⟨0,0,0⟩,0,0,cd,⟨0,0,0⟩,pv,cm,n,mx,[],sn,ws,ps,rs,rc,st⟩:Mg).arr (.slice none 0 0) (.slice h.b.A h.b.n h.b.c) (.slice h.c.A h.c.n h.c.c) (.slice h.d.A h.d.n h.d.c) (.slice h.e.A h.e.n h.e.c) (.slice h.f.A h.f.n h.f.c) (.slice h.g.A h.g.n h.g.c) (.slice h.i.A h.i.n h.i.c)):=I.as ah;go_wp2_with (first
  |(guard_target=~ wpList _ _ _ _ _ _;refine wpList_load_row rfl 41 _ rfl w.heap.size ah _ _ (0,0) _ I.bM rfl rfl ah ?_)
  |(guard_target=~ wpList _ _ _ _ _ _;refine wpList_store_row rfl 41 _ _ rfl (w.heap.size+1) _ rfl rfl _ _ I.bR ah ah ah ?_))
 (try simp only[Exit.inBlock,Exit.then])
 refine jR rfl aI (I.bR.setRow _) rfl rfl ah ?_;exact⟨rfl,below_setRow I.hX byOmega _⟩
theorem aeZ (m:Mg) (h:Hm) (w:World) (hk:m.k=2):
 Calls Tryz.prog 28 #[.agg (m.vals h)] w fun e w'=>e=.returned (.tuple #[.agg (({m with t:=⟨0,0,0⟩,rg:=0,cd:=0,s:=⟨0,0,0⟩,sn:=[],rs:=[]}:Mg).vals {h with b:=Hd.nil,e:=Hd.nil}),.bool true])/\Below w.heap.size w w':=by
 obtain⟨k,fr,aG,t,rg,ep,cd,s,pv,cm,n,mx,ks,sn,ws,ps,rs,rc,st⟩:=m;change k=2 at hk;subst hk;obtain⟨W0,hW0⟩:∃W0,W0=jy (⟨2,fr,aG,t,rg,ep,cd,s,pv,cm,n,mx,ks,sn,ws,ps,rs,rc,st⟩:Mg) h w:=⟨_,rfl⟩;have I:=jm.start hW0;unfold jy qP eF at hW0;have HW:=au hW0;clear hW0;go_enter Tryz.func28,Tryz.ntmps28;go_upto_region 7 with fail;rw[<-HW.out];clear HW;replace I:=I.drew;refine wp_region_held_drew (S:=fun w'=>aj w' (w.heap.size+1+1) 26 eF) ah I.bN (fun hHeld=>?_);generalize W0.drew=W1 at*;refine t0 0 20 ?_;go_frame;refine tl 1 21 rfl (yZ ah 26 _ rfl (w.heap.size+1+1) rfl 26 eF _ (fun _ h=>h) Tryz.underlying26 rfl ah) ?_;go_frame;refine t0 2 22 ?_;go_frame;refine sw I 3 3 (.agg eF) fun W2 I=>?_
 have hHeld:=I.bN;go_frame;refine t0 4 23 ?_;go_frame;refine sw I 5 6 (.int .i64 0) fun W3 I=>?_
 have hHeld:=I.bN;go_frame;refine t0 6 24 ?_;go_frame;refine sw I 7 8 (.int .i64 0) fun W4 I=>?_
 have hHeld:=I.bN;go_frame;refine t0 8 25 ?_;go_frame;refine sw I 9 9 (.agg eF) fun W5 I=>?_
 have hHeld:=I.bN;go_frame;refine t0 10 26 ?_;go_frame;refine sw I 11 19 (.slice none 0 0) fun W6 I=>?_
 have hHeld:=I.bN;go_frame;refine t0 12 27 ?_;go_frame;refine sw I 13 22 (.slice none 0 0) fun W7 I=>?_
 have hHeld:=I.bN;go_frame;refine td ?_;replace I:jm w W7 ((⟨2,fr,aG,⟨0,0,0⟩,0,ep,0,⟨0,0,0⟩,pv,cm,n,mx,ks,[],ws,ps,[],rc,st⟩:Mg).arr (.slice h.a.A h.a.n h.a.c) (.slice none 0 0) (.slice h.c.A h.c.n h.c.c) (.slice h.d.A h.d.n h.d.c) (.slice none 0 0) (.slice h.f.A h.f.n h.f.c) (.slice h.g.A h.g.n h.g.c) (.slice h.i.A h.i.n h.i.c)):=I.as ah;go_wp2_with (first
  |(guard_target=~ wpList _ _ _ _ _ _;refine wpList_load_row rfl 41 _ rfl w.heap.size ah _ _ (0,0) _ I.bM rfl rfl ah ?_)
  |(guard_target=~ wpList _ _ _ _ _ _;refine wpList_store_row rfl 41 _ _ rfl (w.heap.size+1) _ rfl rfl _ _ I.bR ah ah ah ?_))
 (try simp only[Exit.inBlock,Exit.then])
 refine jR rfl aI (I.bR.setRow _) rfl rfl ah ?_;exact⟨rfl,below_setRow I.hX byOmega _⟩
theorem ae0 (m:Mg) (h:Hm) (w:World) (hk:m.k=3):
 Calls Tryz.prog 28 #[.agg (m.vals h)] w fun e w'=>e=.returned (.tuple #[.agg (({m with t:=⟨0,0,0⟩,rg:=0,ep:=0,s:=⟨0,0,0⟩,sn:=[],ws:=[],ps:=[]}:Mg).vals {h with b:=Hd.nil,c:=Hd.nil,d:=Hd.nil}),.bool true])/\Below w.heap.size w w':=by
 obtain⟨k,fr,aG,t,rg,ep,cd,s,pv,cm,n,mx,ks,sn,ws,ps,rs,rc,st⟩:=m;change k=3 at hk;subst hk;obtain⟨W0,hW0⟩:∃W0,W0=jy (⟨3,fr,aG,t,rg,ep,cd,s,pv,cm,n,mx,ks,sn,ws,ps,rs,rc,st⟩:Mg) h w:=⟨_,rfl⟩;have I:=jm.start hW0;unfold jy qP eF at hW0;have HW:=au hW0;clear hW0;go_enter Tryz.func28,Tryz.ntmps28;go_upto_region 9 with fail;rw[<-HW.out];clear HW;replace I:=I.drew;refine wp_region_held_drew (S:=fun w'=>aj w' (w.heap.size+1+1) 26 eF) ah I.bN (fun hHeld=>?_);generalize W0.drew=W1 at*;refine t0 0 30 ?_;go_frame;refine tl 1 31 rfl (yZ ah 26 _ rfl (w.heap.size+1+1) rfl 26 eF _ (fun _ h=>h) Tryz.underlying26 rfl ah) ?_;go_frame;refine t0 2 32 ?_;go_frame;refine sw I 3 3 (.agg eF) fun W2 I=>?_
 have hHeld:=I.bN;go_frame;refine t0 4 33 ?_;go_frame;refine sw I 5 6 (.int .i64 0) fun W3 I=>?_
 have hHeld:=I.bN;go_frame;refine t0 6 34 ?_;go_frame;refine sw I 7 7 (.int .i64 0) fun W4 I=>?_
 have hHeld:=I.bN;go_frame;refine t0 8 35 ?_;go_frame;refine sw I 9 9 (.agg eF) fun W5 I=>?_
 have hHeld:=I.bN;go_frame;refine t0 10 36 ?_;go_frame;refine sw I 11 19 (.slice none 0 0) fun W6 I=>?_
 have hHeld:=I.bN;go_frame;refine t0 12 37 ?_;go_frame;refine sw I 13 20 (.slice none 0 0) fun W7 I=>?_
 have hHeld:=I.bN;go_frame;refine t0 14 38 ?_;go_frame;refine sw I 15 21 (.slice none 0 0) fun W8 I=>?_
 have hHeld:=I.bN;go_frame;refine td ?_;replace I:jm w W8 ((⟨3,fr,aG,⟨0,0,0⟩,0,0,cd,⟨0,0,0⟩,pv,cm,n,mx,ks,[],[],[],rs,rc,st⟩:Mg).arr (.slice h.a.A h.a.n h.a.c) (.slice none 0 0) (.slice none 0 0) (.slice none 0 0) (.slice h.e.A h.e.n h.e.c) (.slice h.f.A h.f.n h.f.c) (.slice h.g.A h.g.n h.g.c) (.slice h.i.A h.i.n h.i.c)):=I.as ah;go_wp2_with (first
  |(guard_target=~ wpList _ _ _ _ _ _;refine wpList_load_row rfl 41 _ rfl w.heap.size ah _ _ (0,0) _ I.bM rfl rfl ah ?_)
  |(guard_target=~ wpList _ _ _ _ _ _;refine wpList_store_row rfl 41 _ _ rfl (w.heap.size+1) _ rfl rfl _ _ I.bR ah ah ah ?_))
 (try simp only[Exit.inBlock,Exit.then])
 refine jR rfl aI (I.bR.setRow _) rfl rfl ah ?_;exact⟨rfl,below_setRow I.hX byOmega _⟩
theorem ae1 (m:Mg) (h:Hm) (w:World) (hk:m.k=4):
 Calls Tryz.prog 28 #[.agg (m.vals h)] w fun e w'=>e=.returned (.tuple #[.agg (({m with t:=⟨0,0,0⟩,rg:=0,cd:=0,s:=⟨0,0,0⟩,rs:=[]}:Mg).vals {h with e:=Hd.nil}),.bool true])/\Below w.heap.size w w':=by
 obtain⟨k,fr,aG,t,rg,ep,cd,s,pv,cm,n,mx,ks,sn,ws,ps,rs,rc,st⟩:=m;change k=4 at hk;subst hk;obtain⟨W0,hW0⟩:∃W0,W0=jy (⟨4,fr,aG,t,rg,ep,cd,s,pv,cm,n,mx,ks,sn,ws,ps,rs,rc,st⟩:Mg) h w:=⟨_,rfl⟩;have I:=jm.start hW0;unfold jy qP eF at hW0;have HW:=au hW0;clear hW0;go_enter Tryz.func28,Tryz.ntmps28;go_upto_region 11 with fail;rw[<-HW.out];clear HW;replace I:=I.drew;refine wp_region_held_drew (S:=fun w'=>aj w' (w.heap.size+1+1) 26 eF) ah I.bN (fun hHeld=>?_);generalize W0.drew=W1 at*;refine t0 0 41 ?_;go_frame;refine tl 1 42 rfl (yZ ah 26 _ rfl (w.heap.size+1+1) rfl 26 eF _ (fun _ h=>h) Tryz.underlying26 rfl ah) ?_;go_frame;refine t0 2 43 ?_;go_frame;refine sw I 3 3 (.agg eF) fun W2 I=>?_
 have hHeld:=I.bN;go_frame;refine t0 4 44 ?_;go_frame;refine sw I 5 6 (.int .i64 0) fun W3 I=>?_
 have hHeld:=I.bN;go_frame;refine t0 6 45 ?_;go_frame;refine sw I 7 8 (.int .i64 0) fun W4 I=>?_
 have hHeld:=I.bN;go_frame;refine t0 8 46 ?_;go_frame;refine sw I 9 9 (.agg eF) fun W5 I=>?_
 have hHeld:=I.bN;go_frame;refine t0 10 47 ?_;go_frame;refine sw I 11 22 (.slice none 0 0) fun W6 I=>?_
 have hHeld:=I.bN;go_frame;refine td ?_;replace I:jm w W6 ((⟨4,fr,aG,⟨0,0,0⟩,0,ep,0,⟨0,0,0⟩,pv,cm,n,mx,ks,sn,ws,ps,[],rc,st⟩:Mg).arr (.slice h.a.A h.a.n h.a.c) (.slice h.b.A h.b.n h.b.c) (.slice h.c.A h.c.n h.c.c) (.slice h.d.A h.d.n h.d.c) (.slice none 0 0) (.slice h.f.A h.f.n h.f.c) (.slice h.g.A h.g.n h.g.c) (.slice h.i.A h.i.n h.i.c)):=I.as ah;go_wp2_with (first
  |(guard_target=~ wpList _ _ _ _ _ _;refine wpList_load_row rfl 41 _ rfl w.heap.size ah _ _ (0,0) _ I.bM rfl rfl ah ?_)
  |(guard_target=~ wpList _ _ _ _ _ _;refine wpList_store_row rfl 41 _ _ rfl (w.heap.size+1) _ rfl rfl _ _ I.bR ah ah ah ?_))
 (try simp only[Exit.inBlock,Exit.then])
 refine jR rfl aI (I.bR.setRow _) rfl rfl ah ?_;exact⟨rfl,below_setRow I.hX byOmega _⟩
theorem ae2 (m:Mg) (h:Hm) (w:World) (hk:m.k=5):
 Calls Tryz.prog 28 #[.agg (m.vals h)] w fun e w'=>e=.returned (.tuple #[.agg (({m with t:=⟨0,0,0⟩,rg:=0,cm:=false,s:=⟨0,0,0⟩}:Mg).vals h),.bool true])/\Below w.heap.size w w':=by
 obtain⟨k,fr,aG,t,rg,ep,cd,s,pv,cm,n,mx,ks,sn,ws,ps,rs,rc,st⟩:=m;change k=5 at hk;subst hk;obtain⟨W0,hW0⟩:∃W0,W0=jy (⟨5,fr,aG,t,rg,ep,cd,s,pv,cm,n,mx,ks,sn,ws,ps,rs,rc,st⟩:Mg) h w:=⟨_,rfl⟩;have I:=jm.start hW0;unfold jy qP eF at hW0;have HW:=au hW0;clear hW0;go_enter Tryz.func28,Tryz.ntmps28;go_upto_region 13 with fail;rw[<-HW.out];clear HW;replace I:=I.drew;refine wp_region_held_drew (S:=fun w'=>aj w' (w.heap.size+1+1) 26 eF) ah I.bN (fun hHeld=>?_);generalize W0.drew=W1 at*;refine t0 0 50 ?_;go_frame;refine tl 1 51 rfl (yZ ah 26 _ rfl (w.heap.size+1+1) rfl 26 eF _ (fun _ h=>h) Tryz.underlying26 rfl ah) ?_;go_frame;refine t0 2 52 ?_;go_frame;refine sw I 3 3 (.agg eF) fun W2 I=>?_
 have hHeld:=I.bN;go_frame;refine t0 4 53 ?_;go_frame;refine sw I 5 6 (.int .i64 0) fun W3 I=>?_
 have hHeld:=I.bN;go_frame;refine t0 6 54 ?_;go_frame;refine sw I 7 15 (.bool false) fun W4 I=>?_
 have hHeld:=I.bN;go_frame;refine t0 8 55 ?_;go_frame;refine sw I 9 9 (.agg eF) fun W5 I=>?_
 have hHeld:=I.bN;go_frame;refine td ?_;replace I:jm w W5 ((⟨5,fr,aG,⟨0,0,0⟩,0,ep,cd,⟨0,0,0⟩,pv,false,n,mx,ks,sn,ws,ps,rs,rc,st⟩:Mg).arr (.slice h.a.A h.a.n h.a.c) (.slice h.b.A h.b.n h.b.c) (.slice h.c.A h.c.n h.c.c) (.slice h.d.A h.d.n h.d.c) (.slice h.e.A h.e.n h.e.c) (.slice h.f.A h.f.n h.f.c) (.slice h.g.A h.g.n h.g.c) (.slice h.i.A h.i.n h.i.c)):=I.as ah;go_wp2_with (first
  |(guard_target=~ wpList _ _ _ _ _ _;refine wpList_load_row rfl 41 _ rfl w.heap.size ah _ _ (0,0) _ I.bM rfl rfl ah ?_)
  |(guard_target=~ wpList _ _ _ _ _ _;refine wpList_store_row rfl 41 _ _ rfl (w.heap.size+1) _ rfl rfl _ _ I.bR ah ah ah ?_))
 (try simp only[Exit.inBlock,Exit.then])
 refine jR rfl aI (I.bR.setRow _) rfl rfl ah ?_;exact⟨rfl,below_setRow I.hX byOmega _⟩
theorem ae3 (m:Mg) (h:Hm) (w:World) (hk:m.k=6):
 Calls Tryz.prog 28 #[.agg (m.vals h)] w fun e w'=>e=.returned (.tuple #[.agg (({m with t:=⟨0,0,0⟩,rg:=0}:Mg).vals h),.bool true])/\Below w.heap.size w w':=by
 obtain⟨k,fr,aG,t,rg,ep,cd,s,pv,cm,n,mx,ks,sn,ws,ps,rs,rc,st⟩:=m;change k=6 at hk;subst hk;obtain⟨W0,hW0⟩:∃W0,W0=jy (⟨6,fr,aG,t,rg,ep,cd,s,pv,cm,n,mx,ks,sn,ws,ps,rs,rc,st⟩:Mg) h w:=⟨_,rfl⟩;have I:=jm.start hW0;unfold jy qP eF at hW0;have HW:=au hW0;clear hW0;go_enter Tryz.func28,Tryz.ntmps28;clear I HW W0;go_upto_region 30 with fail;go_wp2_with (first
  |(guard_target=~ wpList _ _ _ _ _ _;refine wpList_load_row rfl 41 _ rfl w.heap.size ah _ _ (0,0) _ (((aj.new _ _ _).alloc _).alloc _) rfl rfl ah ?_)
  |(guard_target=~ wpList _ _ _ _ _ _;refine wpList_store_row rfl 41 _ _ rfl (w.heap.size+1) _ rfl rfl _ _ ((aj.new' _ _ aA).alloc _) ah ah ah ?_))
 (try simp only[Exit.inBlock,Exit.then])
 refine jR rfl aI (((aj.new' _ _ aA).alloc _).setRow _) rfl rfl ah ?_;exact⟨rfl,below_setRow aJ byOmega _⟩
theorem ae4 (m:Mg) (h:Hm) (w:World) (hk:m.k=7):
 Calls Tryz.prog 28 #[.agg (m.vals h)] w fun e w'=>e=.returned (.tuple #[.agg (({m with t:=⟨0,0,0⟩,rg:=0}:Mg).vals h),.bool true])/\Below w.heap.size w w':=by
 obtain⟨k,fr,aG,t,rg,ep,cd,s,pv,cm,n,mx,ks,sn,ws,ps,rs,rc,st⟩:=m;change k=7 at hk;subst hk;obtain⟨W0,hW0⟩:∃W0,W0=jy (⟨7,fr,aG,t,rg,ep,cd,s,pv,cm,n,mx,ks,sn,ws,ps,rs,rc,st⟩:Mg) h w:=⟨_,rfl⟩;have I:=jm.start hW0;unfold jy qP eF at hW0;have HW:=au hW0;clear hW0;go_enter Tryz.func28,Tryz.ntmps28;clear I HW W0;go_upto_region 30 with fail;go_wp2_with (first
  |(guard_target=~ wpList _ _ _ _ _ _;refine wpList_load_row rfl 41 _ rfl w.heap.size ah _ _ (0,0) _ (((aj.new _ _ _).alloc _).alloc _) rfl rfl ah ?_)
  |(guard_target=~ wpList _ _ _ _ _ _;refine wpList_store_row rfl 41 _ _ rfl (w.heap.size+1) _ rfl rfl _ _ ((aj.new' _ _ aA).alloc _) ah ah ah ?_))
 (try simp only[Exit.inBlock,Exit.then])
 refine jR rfl aI (((aj.new' _ _ aA).alloc _).setRow _) rfl rfl ah ?_;exact⟨rfl,below_setRow aJ byOmega _⟩
theorem ae5 (m:Mg) (h:Hm) (w:World) (hk:m.k=8):
 Calls Tryz.prog 28 #[.agg (m.vals h)] w fun e w'=>e=.returned (.tuple #[.agg (({m with rg:=0,n:=0,mx:=0,s:=⟨0,0,0⟩}:Mg).vals h),.bool true])/\Below w.heap.size w w':=by
 obtain⟨k,fr,aG,t,rg,ep,cd,s,pv,cm,n,mx,ks,sn,ws,ps,rs,rc,st⟩:=m;change k=8 at hk;subst hk;obtain⟨W0,hW0⟩:∃W0,W0=jy (⟨8,fr,aG,t,rg,ep,cd,s,pv,cm,n,mx,ks,sn,ws,ps,rs,rc,st⟩:Mg) h w:=⟨_,rfl⟩;have I:=jm.start hW0;unfold jy qP eF at hW0;have HW:=au hW0;clear hW0;go_enter Tryz.func28,Tryz.ntmps28;go_upto_region 18 with fail;rw[<-HW.out];clear HW;replace I:=I.drew;refine wp_region_held_drew (S:=fun w'=>aj w' (w.heap.size+1+1) 26 eF) ah I.bN (fun hHeld=>?_);generalize W0.drew=W1 at*;refine tl 0 64 rfl (yZ ah 26 _ rfl (w.heap.size+1+1) rfl 26 eF _ (fun _ h=>h) Tryz.underlying26 rfl ah) ?_;go_frame;refine t0 1 65 ?_;go_frame;refine sw I 2 6 (.int .i64 0) fun W2 I=>?_
 have hHeld:=I.bN;go_frame;refine t0 3 66 ?_;go_frame;refine sw I 4 16 (.int .i64 0) fun W3 I=>?_
 have hHeld:=I.bN;go_frame;refine t0 5 67 ?_;go_frame;refine sw I 6 17 (.int .i64 0) fun W4 I=>?_
 have hHeld:=I.bN;go_frame;refine t0 7 68 ?_;go_frame;refine sw I 8 9 (.agg eF) fun W5 I=>?_
 have hHeld:=I.bN;go_frame;refine td ?_;replace I:jm w W5 ((⟨8,fr,aG,t,0,ep,cd,⟨0,0,0⟩,pv,cm,0,0,ks,sn,ws,ps,rs,rc,st⟩:Mg).arr (.slice h.a.A h.a.n h.a.c) (.slice h.b.A h.b.n h.b.c) (.slice h.c.A h.c.n h.c.c) (.slice h.d.A h.d.n h.d.c) (.slice h.e.A h.e.n h.e.c) (.slice h.f.A h.f.n h.f.c) (.slice h.g.A h.g.n h.g.c) (.slice h.i.A h.i.n h.i.c)):=I.as ah;go_wp2_with (first
  |(guard_target=~ wpList _ _ _ _ _ _;refine wpList_load_row rfl 41 _ rfl w.heap.size ah _ _ (0,0) _ I.bM rfl rfl ah ?_)
  |(guard_target=~ wpList _ _ _ _ _ _;refine wpList_store_row rfl 41 _ _ rfl (w.heap.size+1) _ rfl rfl _ _ I.bR ah ah ah ?_))
 (try simp only[Exit.inBlock,Exit.then])
 refine jR rfl aI (I.bR.setRow _) rfl rfl ah ?_;exact⟨rfl,below_setRow I.hX byOmega _⟩
theorem ae6 (m:Mg) (h:Hm) (w:World) (hk:m.k=9):
 Calls Tryz.prog 28 #[.agg (m.vals h)] w fun e w'=>e=.returned (.tuple #[.agg (({m with rg:=0,n:=0,rc:=[]}:Mg).vals {h with f:=Hd.nil}),.bool true])/\Below w.heap.size w w':=by
 obtain⟨k,fr,aG,t,rg,ep,cd,s,pv,cm,n,mx,ks,sn,ws,ps,rs,rc,st⟩:=m;change k=9 at hk;subst hk;obtain⟨W0,hW0⟩:∃W0,W0=jy (⟨9,fr,aG,t,rg,ep,cd,s,pv,cm,n,mx,ks,sn,ws,ps,rs,rc,st⟩:Mg) h w:=⟨_,rfl⟩;have I:=jm.start hW0;unfold jy qP eF at hW0;have HW:=au hW0;clear hW0;go_enter Tryz.func28,Tryz.ntmps28;clear I HW W0;go_upto_region 30 with fail;go_wp2_with (first
  |(guard_target=~ wpList _ _ _ _ _ _;refine wpList_load_row rfl 41 _ rfl w.heap.size ah _ _ (0,0) _ (((aj.new _ _ _).alloc _).alloc _) rfl rfl ah ?_)
  |(guard_target=~ wpList _ _ _ _ _ _;refine wpList_store_row rfl 41 _ _ rfl (w.heap.size+1) _ rfl rfl _ _ ((aj.new' _ _ aA).alloc _) ah ah ah ?_))
 (try simp only[Exit.inBlock,Exit.then])
 refine jR rfl aI (((aj.new' _ _ aA).alloc _).setRow _) rfl rfl ah ?_;exact⟨rfl,below_setRow aJ byOmega _⟩
theorem ae7 (m:Mg) (h:Hm) (w:World) (hk:m.k=10):
 Calls Tryz.prog 28 #[.agg (m.vals h)] w fun e w'=>e=.returned (.tuple #[.agg (({m with rg:=0,st:=zeroS}:Mg).vals {h with g:=Hd.nil,i:=Hd.nil}),.bool true])/\Below w.heap.size w w':=by
 obtain⟨k,fr,aG,t,rg,ep,cd,s,pv,cm,n,mx,ks,sn,ws,ps,rs,rc,st⟩:=m;change k=10 at hk;subst hk;obtain⟨W0,hW0⟩:∃W0,W0=jy (⟨10,fr,aG,t,rg,ep,cd,s,pv,cm,n,mx,ks,sn,ws,ps,rs,rc,st⟩:Mg) h w:=⟨_,rfl⟩;have I:=jm.start hW0;unfold jy qP eF at hW0;have HW:=au hW0;clear hW0;go_enter Tryz.func28,Tryz.ntmps28;clear I HW W0;go_upto_region 30 with fail;go_wp2_with (first
  |(guard_target=~ wpList _ _ _ _ _ _;refine wpList_load_row rfl 41 _ rfl w.heap.size ah _ _ (0,0) _ (((aj.new _ _ _).alloc _).alloc _) rfl rfl ah ?_)
  |(guard_target=~ wpList _ _ _ _ _ _;refine wpList_store_row rfl 41 _ _ rfl (w.heap.size+1) _ rfl rfl _ _ ((aj.new' _ _ aA).alloc _) ah ah ah ?_))
 (try simp only[Exit.inBlock,Exit.then])
 refine jR rfl aI (((aj.new' _ _ aA).alloc _).setRow _) rfl rfl ah ?_;exact⟨rfl,below_setRow aJ byOmega _⟩
theorem ae8 (m:Mg) (h:Hm) (w:World) (hk:m.k=11):
 Calls Tryz.prog 28 #[.agg (m.vals h)] w fun e w'=>e=.returned (.tuple #[.agg (({m with rg:=0}:Mg).vals h),.bool true])/\Below w.heap.size w w':=by
 obtain⟨k,fr,aG,t,rg,ep,cd,s,pv,cm,n,mx,ks,sn,ws,ps,rs,rc,st⟩:=m;change k=11 at hk;subst hk;obtain⟨W0,hW0⟩:∃W0,W0=jy (⟨11,fr,aG,t,rg,ep,cd,s,pv,cm,n,mx,ks,sn,ws,ps,rs,rc,st⟩:Mg) h w:=⟨_,rfl⟩;have I:=jm.start hW0;unfold jy qP eF at hW0;have HW:=au hW0;clear hW0;go_enter Tryz.func28,Tryz.ntmps28;clear I HW W0;go_upto_region 30 with fail;go_wp2_with (first
  |(guard_target=~ wpList _ _ _ _ _ _;refine wpList_load_row rfl 41 _ rfl w.heap.size ah _ _ (0,0) _ (((aj.new _ _ _).alloc _).alloc _) rfl rfl ah ?_)
  |(guard_target=~ wpList _ _ _ _ _ _;refine wpList_store_row rfl 41 _ _ rfl (w.heap.size+1) _ rfl rfl _ _ ((aj.new' _ _ aA).alloc _) ah ah ah ?_))
 (try simp only[Exit.inBlock,Exit.then])
 refine jR rfl aI (((aj.new' _ _ aA).alloc _).setRow _) rfl rfl ah ?_;exact⟨rfl,below_setRow aJ byOmega _⟩
theorem ae9 (m:Mg) (h:Hm) (w:World) (hk:m.k=12):
 Calls Tryz.prog 28 #[.agg (m.vals h)] w fun e w'=>e=.returned (.tuple #[.agg (({m with pv:=⟨0,0,0⟩,s:=⟨0,0,0⟩,t:=⟨0,0,0⟩,ws:=[]}:Mg).vals {h with c:=Hd.nil}),.bool true])/\Below w.heap.size w w':=by
 obtain⟨k,fr,aG,t,rg,ep,cd,s,pv,cm,n,mx,ks,sn,ws,ps,rs,rc,st⟩:=m;change k=12 at hk;subst hk;obtain⟨W0,hW0⟩:∃W0,W0=jy (⟨12,fr,aG,t,rg,ep,cd,s,pv,cm,n,mx,ks,sn,ws,ps,rs,rc,st⟩:Mg) h w:=⟨_,rfl⟩;have I:=jm.start hW0;unfold jy qP eF at hW0;have HW:=au hW0;clear hW0;go_enter Tryz.func28,Tryz.ntmps28;go_upto_region 26 with fail;rw[<-HW.out];clear HW;replace I:=I.drew;refine wp_region_held_drew (S:=fun w'=>aj w' (w.heap.size+1+1) 26 eF) ah I.bN (fun hHeld=>?_);generalize W0.drew=W1 at*;refine tl 0 84 rfl (yZ ah 26 _ rfl (w.heap.size+1+1) rfl 26 eF _ (fun _ h=>h) Tryz.underlying26 rfl ah) ?_;go_frame;refine tl 1 85 rfl (yZ ah 26 _ rfl (w.heap.size+1+1) rfl 26 eF _ (fun _ h=>h) Tryz.underlying26 rfl ah) ?_;go_frame;refine t0 2 86 ?_;go_frame;refine t0 3 87 ?_;go_frame;refine sw I 4 12 (.agg eF) fun W2 I=>?_
 have hHeld:=I.bN;go_frame;refine t0 5 88 ?_;go_frame;refine sw I 6 9 (.agg eF) fun W3 I=>?_
 have hHeld:=I.bN;go_frame;refine t0 7 89 ?_;go_frame;refine sw I 8 3 (.agg eF) fun W4 I=>?_
 have hHeld:=I.bN;go_frame;refine t0 9 90 ?_;go_frame;refine sw I 10 20 (.slice none 0 0) fun W5 I=>?_
 have hHeld:=I.bN;go_frame;refine td ?_;replace I:jm w W5 ((⟨12,fr,aG,⟨0,0,0⟩,rg,ep,cd,⟨0,0,0⟩,⟨0,0,0⟩,cm,n,mx,ks,sn,[],ps,rs,rc,st⟩:Mg).arr (.slice h.a.A h.a.n h.a.c) (.slice h.b.A h.b.n h.b.c) (.slice none 0 0) (.slice h.d.A h.d.n h.d.c) (.slice h.e.A h.e.n h.e.c) (.slice h.f.A h.f.n h.f.c) (.slice h.g.A h.g.n h.g.c) (.slice h.i.A h.i.n h.i.c)):=I.as ah;go_wp2_with (first
  |(guard_target=~ wpList _ _ _ _ _ _;refine wpList_load_row rfl 41 _ rfl w.heap.size ah _ _ (0,0) _ I.bM rfl rfl ah ?_)
  |(guard_target=~ wpList _ _ _ _ _ _;refine wpList_store_row rfl 41 _ _ rfl (w.heap.size+1) _ rfl rfl _ _ I.bR ah ah ah ?_))
 (try simp only[Exit.inBlock,Exit.then])
 refine jR rfl aI (I.bR.setRow _) rfl rfl ah ?_;exact⟨rfl,below_setRow I.hX byOmega _⟩
theorem ae' (m:Mg) (h:Hm) (w:World) (hk:m.k=13):
 Calls Tryz.prog 28 #[.agg (m.vals h)] w fun e w'=>e=.returned (.tuple #[.agg (m.vals h),.bool true])/\Below w.heap.size w w':=by
 obtain⟨k,fr,aG,t,rg,ep,cd,s,pv,cm,n,mx,ks,sn,ws,ps,rs,rc,st⟩:=m;change k=13 at hk;subst hk;obtain⟨W0,hW0⟩:∃W0,W0=jy (⟨13,fr,aG,t,rg,ep,cd,s,pv,cm,n,mx,ks,sn,ws,ps,rs,rc,st⟩:Mg) h w:=⟨_,rfl⟩;have I:=jm.start hW0;unfold jy qP eF at hW0;have HW:=au hW0;clear hW0;go_enter Tryz.func28,Tryz.ntmps28;clear I HW W0;go_upto_region 30 with fail;go_wp2_with (first
  |(guard_target=~ wpList _ _ _ _ _ _;refine wpList_load_row rfl 41 _ rfl w.heap.size ah _ _ (0,0) _ (((aj.new _ _ _).alloc _).alloc _) rfl rfl ah ?_)
  |(guard_target=~ wpList _ _ _ _ _ _;refine wpList_store_row rfl 41 _ _ rfl (w.heap.size+1) _ rfl rfl _ _ ((aj.new' _ _ aA).alloc _) ah ah ah ?_))
 (try simp only[Exit.inBlock,Exit.then])
 refine jR rfl aI (((aj.new' _ _ aA).alloc _).setRow _) rfl rfl ah ?_;exact⟨rfl,below_setRow aJ byOmega _⟩
theorem afa (m:Mg) (h:Hm) (w:World) (hk:m.k=14):
 Calls Tryz.prog 28 #[.agg (m.vals h)] w fun e w'=>e=.returned (.tuple #[.agg (({m with s:=⟨0,0,0⟩}:Mg).vals h),.bool true])/\Below w.heap.size w w':=by
 obtain⟨k,fr,aG,t,rg,ep,cd,s,pv,cm,n,mx,ks,sn,ws,ps,rs,rc,st⟩:=m;change k=14 at hk;subst hk;obtain⟨W0,hW0⟩:∃W0,W0=jy (⟨14,fr,aG,t,rg,ep,cd,s,pv,cm,n,mx,ks,sn,ws,ps,rs,rc,st⟩:Mg) h w:=⟨_,rfl⟩;have I:=jm.start hW0;unfold jy qP eF at hW0;have HW:=au hW0;clear hW0;go_enter Tryz.func28,Tryz.ntmps28;clear I HW W0;go_upto_region 30 with fail;go_wp2_with (first
  |(guard_target=~ wpList _ _ _ _ _ _;refine wpList_load_row rfl 41 _ rfl w.heap.size ah _ _ (0,0) _ (((aj.new _ _ _).alloc _).alloc _) rfl rfl ah ?_)
  |(guard_target=~ wpList _ _ _ _ _ _;refine wpList_store_row rfl 41 _ _ rfl (w.heap.size+1) _ rfl rfl _ _ ((aj.new' _ _ aA).alloc _) ah ah ah ?_))
 (try simp only[Exit.inBlock,Exit.then])
 refine jR rfl aI (((aj.new' _ _ aA).alloc _).setRow _) rfl rfl ah ?_;exact⟨rfl,below_setRow aJ byOmega _⟩
theorem afb (m:Mg) (h:Hm) (w:World) (hk:iK m.k=false):
 Calls Tryz.prog 28 #[.agg (m.vals h)] w fun e w'=>e=.returned (.tuple #[.agg (m.vals h),.bool false])/\Below w.heap.size w w':=by
 obtain⟨k,fr,aG,t,rg,ep,cd,s,pv,cm,n,mx,ks,sn,ws,ps,rs,rc,st⟩:=m;change iK k=false at hk;unfold iK at hk;rw[decide_eq_false_iff_not]at hk;have e1:(k==1)=false:=ay;have e2:(k==2)=false:=ay;have e3:(k==3)=false:=ay;have e4:(k==4)=false:=ay;have e5:(k==5)=false:=ay;have e6:(k==6)=false:=ay;have e7:(k==7)=false:=ay;have e8:(k==8)=false:=ay;have e9:(k==9)=false:=ay;have e10:(k==10)=false:=ay;have e11:(k==11)=false:=ay;have e12:(k==12)=false:=ay;have e13:(k==13)=false:=ay;have e14:(k==14)=false:=ay;clear hk;obtain⟨W0,hW0⟩:∃W0,W0=jy (⟨k,fr,aG,t,rg,ep,cd,s,pv,cm,n,mx,ks,sn,ws,ps,rs,rc,st⟩:Mg) h w:=⟨_,rfl⟩;have I:=jm.start hW0;unfold jy qP eF at hW0;have HW:=au hW0;clear hW0;go_enter Tryz.func28,Tryz.ntmps28;clear I HW W0;go_upto_region 3 with fail;go_wp2_with (first
  |(guard_target=~ wpList _ _ _ _ _ _;refine wpList_load_row rfl 41 _ rfl w.heap.size ah _ _ (0,0) _ (((aj.new _ _ _).alloc _).alloc _) rfl rfl ah ?_)
  |(guard_target=~ wpList _ _ _ _ _ _;refine wpList_store_row rfl 41 _ _ rfl (w.heap.size+1) _ rfl rfl _ _ ((aj.new' _ _ aA).alloc _) ah ah ah ?_))
 (try simp only[Exit.inBlock,Exit.then])
 refine jR rfl aI (((aj.new' _ _ aA).alloc _).setRow _) rfl rfl ah ?_;exact⟨rfl,below_setRow aJ byOmega _⟩
theorem afc (m:Mg) (h:Hm) (w:World):
 Calls Tryz.prog 28 #[.agg (m.vals h)] w fun e w'=>e=.returned (.tuple #[.agg ((fE m).vals (fF m.k h)),.bool (iK m.k)])/\Below w.heap.size w w':=by
 cases hk:iK m.k
 · have hk':=hk;unfold iK at hk';rw[decide_eq_false_iff_not]at hk';have e1:fE m=m:=(by unfold fE;repeat (rw[if_neg byOmega]));have e2:fF m.k h=h:=(by unfold fF;repeat (rw[if_neg byOmega]));rw[e1,e2];exact afb m h w hk
 · unfold iK at hk;rw[decide_eq_true_eq]at hk;have hc:m.k=1∨m.k=2∨m.k=3∨m.k=4∨m.k=5∨m.k=6∨m.k=7∨m.k=8∨m.k=9∨m.k=10∨m.k=11∨m.k=12∨m.k=13∨m.k=14:=byOmega;rcases hc with e|e|e|e|e|e|e|e|e|e|e|e|e|e
   · have e1:fE m={m with t:=⟨0,0,0⟩,rg:=0,ep:=0,s:=⟨0,0,0⟩,ks:=[]}:=(by unfold fE;simp[e]);have e2:fF m.k h={h with a:=Hd.nil}:=(by unfold fF;simp[e]);rw[e1,e2];exact aeY m h w e
   · have e1:fE m={m with t:=⟨0,0,0⟩,rg:=0,cd:=0,s:=⟨0,0,0⟩,sn:=[],rs:=[]}:=(by unfold fE;simp[e]);have e2:fF m.k h={h with b:=Hd.nil,e:=Hd.nil}:=(by unfold fF;simp[e]);rw[e1,e2];exact aeZ m h w e
   · have e1:fE m={m with t:=⟨0,0,0⟩,rg:=0,ep:=0,s:=⟨0,0,0⟩,sn:=[],ws:=[],ps:=[]}:=(by unfold fE;simp[e]);have e2:fF m.k h={h with b:=Hd.nil,c:=Hd.nil,d:=Hd.nil}:=(by unfold fF;simp[e]);rw[e1,e2];exact ae0 m h w e
   · have e1:fE m={m with t:=⟨0,0,0⟩,rg:=0,cd:=0,s:=⟨0,0,0⟩,rs:=[]}:=(by unfold fE;simp[e]);have e2:fF m.k h={h with e:=Hd.nil}:=(by unfold fF;simp[e]);rw[e1,e2];exact ae1 m h w e
   · have e1:fE m={m with t:=⟨0,0,0⟩,rg:=0,cm:=false,s:=⟨0,0,0⟩}:=(by unfold fE;simp[e]);have e2:fF m.k h=h:=(by unfold fF;simp[e]);rw[e1,e2];exact ae2 m h w e
   · have e1:fE m={m with t:=⟨0,0,0⟩,rg:=0}:=(by unfold fE;simp[e]);have e2:fF m.k h=h:=(by unfold fF;simp[e]);rw[e1,e2];exact ae3 m h w e
   · have e1:fE m={m with t:=⟨0,0,0⟩,rg:=0}:=(by unfold fE;simp[e]);have e2:fF m.k h=h:=(by unfold fF;simp[e]);rw[e1,e2];exact ae4 m h w e
   · have e1:fE m={m with rg:=0,n:=0,mx:=0,s:=⟨0,0,0⟩}:=(by unfold fE;simp[e]);have e2:fF m.k h=h:=(by unfold fF;simp[e]);rw[e1,e2];exact ae5 m h w e
   · have e1:fE m={m with rg:=0,n:=0,rc:=[]}:=(by unfold fE;simp[e]);have e2:fF m.k h={h with f:=Hd.nil}:=(by unfold fF;simp[e]);rw[e1,e2];exact ae6 m h w e
   · have e1:fE m={m with rg:=0,st:=zeroS}:=(by unfold fE;simp[e]);have e2:fF m.k h={h with g:=Hd.nil,i:=Hd.nil}:=(by unfold fF;simp[e]);rw[e1,e2];exact ae7 m h w e
   · have e1:fE m={m with rg:=0}:=(by unfold fE;simp[e]);have e2:fF m.k h=h:=(by unfold fF;simp[e]);rw[e1,e2];exact ae8 m h w e
   · have e1:fE m={m with pv:=⟨0,0,0⟩,s:=⟨0,0,0⟩,t:=⟨0,0,0⟩,ws:=[]}:=(by unfold fE;simp[e]);have e2:fF m.k h={h with c:=Hd.nil}:=(by unfold fF;simp[e]);rw[e1,e2];exact ae9 m h w e
   · have e1:fE m=m:=(by unfold fE;simp[e]);have e2:fF m.k h=h:=(by unfold fF;simp[e]);rw[e1,e2];exact ae' m h w e
   · have e1:fE m={m with s:=⟨0,0,0⟩}:=(by unfold fE;simp[e]);have e2:fF m.k h=h:=(by unfold fF;simp[e]);rw[e1,e2];exact afa m h w e
