/- The walk of the document's own: a message with the fields alone that its kind names. -/
import Derived.Test.YtcalkfgibflbnaaGreatDacc
import Derived.Test.YtcalkfgibflbnaaGreatDadc
namespace Go.Proofs.YtcalkfgibflbnaaGreat
set_option maxHeartbeats 8000000
set_option maxRecDepth 100000
set_option linter.unusedVariables false
open Go.RowKit Fl
attribute [local go_sem] run_store_float
abbrev Mg.bare (m:Mg):Mg:=⟨m.k,m.fr,m.ton,⟨0,0,0⟩,0,0,0,⟨0,0,0⟩,⟨0,0,0⟩,false,0,0,[],[],[],[],[],[],zeroS⟩
abbrev Hm.nil:Hm:=⟨Hd.nil,Hd.nil,Hd.nil,Hd.nil,Hd.nil,Hd.nil,Hd.nil,Hd.nil⟩
def ownM (m:Mg):Mg:=
 if m.k=1 then {m.bare with t:=m.t,rg:=m.rg,ep:=m.ep,s:=m.s,ks:=m.ks} else
 if m.k=2 then {m.bare with t:=m.t,rg:=m.rg,cd:=m.cd,s:=m.s,sn:=m.sn,rs:=m.rs} else
 if m.k=3 then {m.bare with t:=m.t,rg:=m.rg,ep:=m.ep,s:=m.s,sn:=m.sn,ws:=m.ws,ps:=m.ps} else
 if m.k=4 then {m.bare with t:=m.t,rg:=m.rg,cd:=m.cd,s:=m.s,rs:=m.rs} else
 if m.k=5 then {m.bare with t:=m.t,rg:=m.rg,cm:=m.cm,s:=m.s} else
 if m.k=6 then {m.bare with t:=m.t,rg:=m.rg} else
 if m.k=7 then {m.bare with t:=m.t,rg:=m.rg} else
 if m.k=8 then {m.bare with rg:=m.rg,n:=m.n,mx:=m.mx,s:=m.s} else
 if m.k=9 then {m.bare with rg:=m.rg,n:=m.n,rc:=m.rc} else
 if m.k=10 then {m.bare with rg:=m.rg,st:=m.st} else
 if m.k=11 then {m.bare with rg:=m.rg} else
 if m.k=12 then {m.bare with pv:=m.pv,s:=m.s,t:=m.t,ws:=m.ws} else
 if m.k=14 then {m.bare with s:=m.s} else
 m.bare
def ownHm (k:Int) (h:Hm):Hm:=
 if k=1 then {Hm.nil with a:=h.a} else
 if k=2 then {Hm.nil with b:=h.b,e:=h.e} else
 if k=3 then {Hm.nil with b:=h.b,c:=h.c,d:=h.d} else
 if k=4 then {Hm.nil with e:=h.e} else
 if k=9 then {Hm.nil with f:=h.f} else
 if k=10 then {Hm.nil with g:=h.g,i:=h.i} else
 if k=12 then {Hm.nil with c:=h.c} else
 Hm.nil
theorem mown_1 (m:Mg) (h:Hm) (w:World) (hk:m.k=1):
 Calls Tryz.prog 31 #[.agg (m.vals h)] w fun e w'=>e=.returned (.agg (Mg.vals {m.bare with t:=m.t,rg:=m.rg,ep:=m.ep,s:=m.s,ks:=m.ks} {Hm.nil with a:=h.a}))∧Below w.heap.size w w':=by
 obtain⟨k,fr,ton,t,rg,ep,cd,s,pv,cm,n,mx,ks,sn,ws,ps,rs,rc,st⟩:=m
 change k=1 at hk
 subst hk
 go_enter Tryz.func31,Tryz.ntmps31
 go_upto_region 2 with (refine wpList_store_at rfl 41 _ _ rfl (w.heap.size+1+1) _ rfl rfl (by simp) _ _ (by kernel_rfl) (by kernel_rfl) (by kernel_rfl) ?_)
 go_frame
 go_upto_region 10 with fail
 go_region
 go_upto_region 18 with fail
 go_region
 go_upto_region 37 with fail
 go_wp2_with (first
  |(guard_target=~ wpList _ _ _ _ _ _;refine wpList_load_row rfl 41 _ rfl (w.heap.size+1+1) rfl _ _ (0,0) _ (Blk.new' (g:=w.heap.size+1+1) _ _ (by simp)).drew.drew rfl rfl (by kernel_rfl) ?_)
  |(guard_target=~ wpList _ _ _ _ _ _;refine wpList_store_row rfl 41 _ _ rfl (w.heap.size+1) _ rfl rfl _ _ ((Blk.new' (g:=w.heap.size+1) _ _ (by simp)).alloc _).drew.drew (by kernel_rfl) (by kernel_rfl) (by kernel_rfl) ?_))
 refine post_cell rfl (by rfl) ((((Blk.new' (g:=w.heap.size+1) _ _ (by simp)).alloc _).drew.drew).setRow _) rfl rfl (by kernel_rfl) ?_
 exact⟨rfl,below_setRow (by go_grown) (by omega) _⟩
theorem mown_2 (m:Mg) (h:Hm) (w:World) (hk:m.k=2):
 Calls Tryz.prog 31 #[.agg (m.vals h)] w fun e w'=>e=.returned (.agg (Mg.vals {m.bare with t:=m.t,rg:=m.rg,cd:=m.cd,s:=m.s,sn:=m.sn,rs:=m.rs} {Hm.nil with b:=h.b,e:=h.e}))∧Below w.heap.size w w':=by
 obtain⟨k,fr,ton,t,rg,ep,cd,s,pv,cm,n,mx,ks,sn,ws,ps,rs,rc,st⟩:=m
 change k=2 at hk
 subst hk
 go_enter Tryz.func31,Tryz.ntmps31
 go_upto_region 2 with (refine wpList_store_at rfl 41 _ _ rfl (w.heap.size+1+1) _ rfl rfl (by simp) _ _ (by kernel_rfl) (by kernel_rfl) (by kernel_rfl) ?_)
 go_frame
 go_upto_region 10 with fail
 go_region
 go_upto_region 20 with fail
 go_region
 go_upto_region 37 with fail
 go_wp2_with (first
  |(guard_target=~ wpList _ _ _ _ _ _;refine wpList_load_row rfl 41 _ rfl (w.heap.size+1+1) rfl _ _ (0,0) _ (Blk.new' (g:=w.heap.size+1+1) _ _ (by simp)).drew.drew rfl rfl (by kernel_rfl) ?_)
  |(guard_target=~ wpList _ _ _ _ _ _;refine wpList_store_row rfl 41 _ _ rfl (w.heap.size+1) _ rfl rfl _ _ ((Blk.new' (g:=w.heap.size+1) _ _ (by simp)).alloc _).drew.drew (by kernel_rfl) (by kernel_rfl) (by kernel_rfl) ?_))
 refine post_cell rfl (by rfl) ((((Blk.new' (g:=w.heap.size+1) _ _ (by simp)).alloc _).drew.drew).setRow _) rfl rfl (by kernel_rfl) ?_
 exact⟨rfl,below_setRow (by go_grown) (by omega) _⟩
theorem mown_3 (m:Mg) (h:Hm) (w:World) (hk:m.k=3):
 Calls Tryz.prog 31 #[.agg (m.vals h)] w fun e w'=>e=.returned (.agg (Mg.vals {m.bare with t:=m.t,rg:=m.rg,ep:=m.ep,s:=m.s,sn:=m.sn,ws:=m.ws,ps:=m.ps} {Hm.nil with b:=h.b,c:=h.c,d:=h.d}))∧Below w.heap.size w w':=by
 obtain⟨k,fr,ton,t,rg,ep,cd,s,pv,cm,n,mx,ks,sn,ws,ps,rs,rc,st⟩:=m
 change k=3 at hk
 subst hk
 go_enter Tryz.func31,Tryz.ntmps31
 go_upto_region 2 with (refine wpList_store_at rfl 41 _ _ rfl (w.heap.size+1+1) _ rfl rfl (by simp) _ _ (by kernel_rfl) (by kernel_rfl) (by kernel_rfl) ?_)
 go_frame
 go_upto_region 10 with fail
 go_region
 go_upto_region 22 with fail
 go_region
 go_upto_region 37 with fail
 go_wp2_with (first
  |(guard_target=~ wpList _ _ _ _ _ _;refine wpList_load_row rfl 41 _ rfl (w.heap.size+1+1) rfl _ _ (0,0) _ (Blk.new' (g:=w.heap.size+1+1) _ _ (by simp)).drew.drew rfl rfl (by kernel_rfl) ?_)
  |(guard_target=~ wpList _ _ _ _ _ _;refine wpList_store_row rfl 41 _ _ rfl (w.heap.size+1) _ rfl rfl _ _ ((Blk.new' (g:=w.heap.size+1) _ _ (by simp)).alloc _).drew.drew (by kernel_rfl) (by kernel_rfl) (by kernel_rfl) ?_))
 refine post_cell rfl (by rfl) ((((Blk.new' (g:=w.heap.size+1) _ _ (by simp)).alloc _).drew.drew).setRow _) rfl rfl (by kernel_rfl) ?_
 exact⟨rfl,below_setRow (by go_grown) (by omega) _⟩
theorem mown_4 (m:Mg) (h:Hm) (w:World) (hk:m.k=4):
 Calls Tryz.prog 31 #[.agg (m.vals h)] w fun e w'=>e=.returned (.agg (Mg.vals {m.bare with t:=m.t,rg:=m.rg,cd:=m.cd,s:=m.s,rs:=m.rs} {Hm.nil with e:=h.e}))∧Below w.heap.size w w':=by
 obtain⟨k,fr,ton,t,rg,ep,cd,s,pv,cm,n,mx,ks,sn,ws,ps,rs,rc,st⟩:=m
 change k=4 at hk
 subst hk
 go_enter Tryz.func31,Tryz.ntmps31
 go_upto_region 2 with (refine wpList_store_at rfl 41 _ _ rfl (w.heap.size+1+1) _ rfl rfl (by simp) _ _ (by kernel_rfl) (by kernel_rfl) (by kernel_rfl) ?_)
 go_frame
 go_upto_region 10 with fail
 go_region
 go_upto_region 24 with fail
 go_region
 go_upto_region 37 with fail
 go_wp2_with (first
  |(guard_target=~ wpList _ _ _ _ _ _;refine wpList_load_row rfl 41 _ rfl (w.heap.size+1+1) rfl _ _ (0,0) _ (Blk.new' (g:=w.heap.size+1+1) _ _ (by simp)).drew.drew rfl rfl (by kernel_rfl) ?_)
  |(guard_target=~ wpList _ _ _ _ _ _;refine wpList_store_row rfl 41 _ _ rfl (w.heap.size+1) _ rfl rfl _ _ ((Blk.new' (g:=w.heap.size+1) _ _ (by simp)).alloc _).drew.drew (by kernel_rfl) (by kernel_rfl) (by kernel_rfl) ?_))
 refine post_cell rfl (by rfl) ((((Blk.new' (g:=w.heap.size+1) _ _ (by simp)).alloc _).drew.drew).setRow _) rfl rfl (by kernel_rfl) ?_
 exact⟨rfl,below_setRow (by go_grown) (by omega) _⟩
theorem mown_5 (m:Mg) (h:Hm) (w:World) (hk:m.k=5):
 Calls Tryz.prog 31 #[.agg (m.vals h)] w fun e w'=>e=.returned (.agg (Mg.vals {m.bare with t:=m.t,rg:=m.rg,cm:=m.cm,s:=m.s} Hm.nil))∧Below w.heap.size w w':=by
 obtain⟨k,fr,ton,t,rg,ep,cd,s,pv,cm,n,mx,ks,sn,ws,ps,rs,rc,st⟩:=m
 change k=5 at hk
 subst hk
 go_enter Tryz.func31,Tryz.ntmps31
 go_upto_region 2 with (refine wpList_store_at rfl 41 _ _ rfl (w.heap.size+1+1) _ rfl rfl (by simp) _ _ (by kernel_rfl) (by kernel_rfl) (by kernel_rfl) ?_)
 go_frame
 go_upto_region 10 with fail
 go_region
 go_upto_region 26 with fail
 go_region
 go_upto_region 37 with fail
 go_wp2_with (first
  |(guard_target=~ wpList _ _ _ _ _ _;refine wpList_load_row rfl 41 _ rfl (w.heap.size+1+1) rfl _ _ (0,0) _ (Blk.new' (g:=w.heap.size+1+1) _ _ (by simp)).drew.drew rfl rfl (by kernel_rfl) ?_)
  |(guard_target=~ wpList _ _ _ _ _ _;refine wpList_store_row rfl 41 _ _ rfl (w.heap.size+1) _ rfl rfl _ _ ((Blk.new' (g:=w.heap.size+1) _ _ (by simp)).alloc _).drew.drew (by kernel_rfl) (by kernel_rfl) (by kernel_rfl) ?_))
 refine post_cell rfl (by rfl) ((((Blk.new' (g:=w.heap.size+1) _ _ (by simp)).alloc _).drew.drew).setRow _) rfl rfl (by kernel_rfl) ?_
 exact⟨rfl,below_setRow (by go_grown) (by omega) _⟩
theorem mown_6 (m:Mg) (h:Hm) (w:World) (hk:m.k=6):
 Calls Tryz.prog 31 #[.agg (m.vals h)] w fun e w'=>e=.returned (.agg (Mg.vals {m.bare with t:=m.t,rg:=m.rg} Hm.nil))∧Below w.heap.size w w':=by
 obtain⟨k,fr,ton,t,rg,ep,cd,s,pv,cm,n,mx,ks,sn,ws,ps,rs,rc,st⟩:=m
 change k=6 at hk
 subst hk
 go_enter Tryz.func31,Tryz.ntmps31
 go_upto_region 2 with (refine wpList_store_at rfl 41 _ _ rfl (w.heap.size+1+1) _ rfl rfl (by simp) _ _ (by kernel_rfl) (by kernel_rfl) (by kernel_rfl) ?_)
 go_frame
 go_upto_region 10 with fail
 go_region
 go_upto_region 37 with fail
 go_wp2_with (first
  |(guard_target=~ wpList _ _ _ _ _ _;refine wpList_load_row rfl 41 _ rfl (w.heap.size+1+1) rfl _ _ (0,0) _ (Blk.new' (g:=w.heap.size+1+1) _ _ (by simp)).drew rfl rfl (by kernel_rfl) ?_)
  |(guard_target=~ wpList _ _ _ _ _ _;refine wpList_store_row rfl 41 _ _ rfl (w.heap.size+1) _ rfl rfl _ _ ((Blk.new' (g:=w.heap.size+1) _ _ (by simp)).alloc _).drew (by kernel_rfl) (by kernel_rfl) (by kernel_rfl) ?_))
 refine post_cell rfl (by rfl) ((((Blk.new' (g:=w.heap.size+1) _ _ (by simp)).alloc _).drew).setRow _) rfl rfl (by kernel_rfl) ?_
 exact⟨rfl,below_setRow (by go_grown) (by omega) _⟩
theorem mown_7 (m:Mg) (h:Hm) (w:World) (hk:m.k=7):
 Calls Tryz.prog 31 #[.agg (m.vals h)] w fun e w'=>e=.returned (.agg (Mg.vals {m.bare with t:=m.t,rg:=m.rg} Hm.nil))∧Below w.heap.size w w':=by
 obtain⟨k,fr,ton,t,rg,ep,cd,s,pv,cm,n,mx,ks,sn,ws,ps,rs,rc,st⟩:=m
 change k=7 at hk
 subst hk
 go_enter Tryz.func31,Tryz.ntmps31
 go_upto_region 2 with (refine wpList_store_at rfl 41 _ _ rfl (w.heap.size+1+1) _ rfl rfl (by simp) _ _ (by kernel_rfl) (by kernel_rfl) (by kernel_rfl) ?_)
 go_frame
 go_upto_region 10 with fail
 go_region
 go_upto_region 37 with fail
 go_wp2_with (first
  |(guard_target=~ wpList _ _ _ _ _ _;refine wpList_load_row rfl 41 _ rfl (w.heap.size+1+1) rfl _ _ (0,0) _ (Blk.new' (g:=w.heap.size+1+1) _ _ (by simp)).drew rfl rfl (by kernel_rfl) ?_)
  |(guard_target=~ wpList _ _ _ _ _ _;refine wpList_store_row rfl 41 _ _ rfl (w.heap.size+1) _ rfl rfl _ _ ((Blk.new' (g:=w.heap.size+1) _ _ (by simp)).alloc _).drew (by kernel_rfl) (by kernel_rfl) (by kernel_rfl) ?_))
 refine post_cell rfl (by rfl) ((((Blk.new' (g:=w.heap.size+1) _ _ (by simp)).alloc _).drew).setRow _) rfl rfl (by kernel_rfl) ?_
 exact⟨rfl,below_setRow (by go_grown) (by omega) _⟩
theorem mown_8 (m:Mg) (h:Hm) (w:World) (hk:m.k=8):
 Calls Tryz.prog 31 #[.agg (m.vals h)] w fun e w'=>e=.returned (.agg (Mg.vals {m.bare with rg:=m.rg,n:=m.n,mx:=m.mx,s:=m.s} Hm.nil))∧Below w.heap.size w w':=by
 obtain⟨k,fr,ton,t,rg,ep,cd,s,pv,cm,n,mx,ks,sn,ws,ps,rs,rc,st⟩:=m
 change k=8 at hk
 subst hk
 go_enter Tryz.func31,Tryz.ntmps31
 go_upto_region 2 with (refine wpList_store_at rfl 41 _ _ rfl (w.heap.size+1+1) _ rfl rfl (by simp) _ _ (by kernel_rfl) (by kernel_rfl) (by kernel_rfl) ?_)
 go_frame
 go_upto_region 28 with fail
 go_region
 go_upto_region 37 with fail
 go_wp2_with (first
  |(guard_target=~ wpList _ _ _ _ _ _;refine wpList_load_row rfl 41 _ rfl (w.heap.size+1+1) rfl _ _ (0,0) _ (Blk.new' (g:=w.heap.size+1+1) _ _ (by simp)).drew rfl rfl (by kernel_rfl) ?_)
  |(guard_target=~ wpList _ _ _ _ _ _;refine wpList_store_row rfl 41 _ _ rfl (w.heap.size+1) _ rfl rfl _ _ ((Blk.new' (g:=w.heap.size+1) _ _ (by simp)).alloc _).drew (by kernel_rfl) (by kernel_rfl) (by kernel_rfl) ?_))
 refine post_cell rfl (by rfl) ((((Blk.new' (g:=w.heap.size+1) _ _ (by simp)).alloc _).drew).setRow _) rfl rfl (by kernel_rfl) ?_
 exact⟨rfl,below_setRow (by go_grown) (by omega) _⟩
theorem mown_9 (m:Mg) (h:Hm) (w:World) (hk:m.k=9):
 Calls Tryz.prog 31 #[.agg (m.vals h)] w fun e w'=>e=.returned (.agg (Mg.vals {m.bare with rg:=m.rg,n:=m.n,rc:=m.rc} {Hm.nil with f:=h.f}))∧Below w.heap.size w w':=by
 obtain⟨k,fr,ton,t,rg,ep,cd,s,pv,cm,n,mx,ks,sn,ws,ps,rs,rc,st⟩:=m
 change k=9 at hk
 subst hk
 go_enter Tryz.func31,Tryz.ntmps31
 go_upto_region 2 with (refine wpList_store_at rfl 41 _ _ rfl (w.heap.size+1+1) _ rfl rfl (by simp) _ _ (by kernel_rfl) (by kernel_rfl) (by kernel_rfl) ?_)
 go_frame
 go_upto_region 30 with fail
 go_region
 go_upto_region 37 with fail
 go_wp2_with (first
  |(guard_target=~ wpList _ _ _ _ _ _;refine wpList_load_row rfl 41 _ rfl (w.heap.size+1+1) rfl _ _ (0,0) _ (Blk.new' (g:=w.heap.size+1+1) _ _ (by simp)).drew rfl rfl (by kernel_rfl) ?_)
  |(guard_target=~ wpList _ _ _ _ _ _;refine wpList_store_row rfl 41 _ _ rfl (w.heap.size+1) _ rfl rfl _ _ ((Blk.new' (g:=w.heap.size+1) _ _ (by simp)).alloc _).drew (by kernel_rfl) (by kernel_rfl) (by kernel_rfl) ?_))
 refine post_cell rfl (by rfl) ((((Blk.new' (g:=w.heap.size+1) _ _ (by simp)).alloc _).drew).setRow _) rfl rfl (by kernel_rfl) ?_
 exact⟨rfl,below_setRow (by go_grown) (by omega) _⟩
theorem mown_10 (m:Mg) (h:Hm) (w:World) (hk:m.k=10):
 Calls Tryz.prog 31 #[.agg (m.vals h)] w fun e w'=>e=.returned (.agg (Mg.vals {m.bare with rg:=m.rg,st:=m.st} {Hm.nil with g:=h.g,i:=h.i}))∧Below w.heap.size w w':=by
 obtain⟨k,fr,ton,t,rg,ep,cd,s,pv,cm,n,mx,ks,sn,ws,ps,rs,rc,st⟩:=m
 change k=10 at hk
 subst hk
 go_enter Tryz.func31,Tryz.ntmps31
 go_upto_region 2 with (refine wpList_store_at rfl 41 _ _ rfl (w.heap.size+1+1) _ rfl rfl (by simp) _ _ (by kernel_rfl) (by kernel_rfl) (by kernel_rfl) ?_)
 go_frame
 go_upto_region 37 with fail
 go_wp2_with (first
  |(guard_target=~ wpList _ _ _ _ _ _;refine wpList_load_row rfl 41 _ rfl (w.heap.size+1+1) rfl _ _ (0,0) _ (Blk.new' (g:=w.heap.size+1+1) _ _ (by simp)) rfl rfl (by kernel_rfl) ?_)
  |(guard_target=~ wpList _ _ _ _ _ _;refine wpList_store_row rfl 41 _ _ rfl (w.heap.size+1) _ rfl rfl _ _ ((Blk.new' (g:=w.heap.size+1) _ _ (by simp)).alloc _) (by kernel_rfl) (by kernel_rfl) (by kernel_rfl) ?_))
 refine post_cell rfl (by rfl) ((((Blk.new' (g:=w.heap.size+1) _ _ (by simp)).alloc _)).setRow _) rfl rfl (by kernel_rfl) ?_
 exact⟨rfl,below_setRow (by go_grown) (by omega) _⟩
theorem mown_11 (m:Mg) (h:Hm) (w:World) (hk:m.k=11):
 Calls Tryz.prog 31 #[.agg (m.vals h)] w fun e w'=>e=.returned (.agg (Mg.vals {m.bare with rg:=m.rg} Hm.nil))∧Below w.heap.size w w':=by
 obtain⟨k,fr,ton,t,rg,ep,cd,s,pv,cm,n,mx,ks,sn,ws,ps,rs,rc,st⟩:=m
 change k=11 at hk
 subst hk
 go_enter Tryz.func31,Tryz.ntmps31
 go_upto_region 2 with (refine wpList_store_at rfl 41 _ _ rfl (w.heap.size+1+1) _ rfl rfl (by simp) _ _ (by kernel_rfl) (by kernel_rfl) (by kernel_rfl) ?_)
 go_frame
 go_upto_region 37 with fail
 go_wp2_with (first
  |(guard_target=~ wpList _ _ _ _ _ _;refine wpList_load_row rfl 41 _ rfl (w.heap.size+1+1) rfl _ _ (0,0) _ (Blk.new' (g:=w.heap.size+1+1) _ _ (by simp)) rfl rfl (by kernel_rfl) ?_)
  |(guard_target=~ wpList _ _ _ _ _ _;refine wpList_store_row rfl 41 _ _ rfl (w.heap.size+1) _ rfl rfl _ _ ((Blk.new' (g:=w.heap.size+1) _ _ (by simp)).alloc _) (by kernel_rfl) (by kernel_rfl) (by kernel_rfl) ?_))
 refine post_cell rfl (by rfl) ((((Blk.new' (g:=w.heap.size+1) _ _ (by simp)).alloc _)).setRow _) rfl rfl (by kernel_rfl) ?_
 exact⟨rfl,below_setRow (by go_grown) (by omega) _⟩
theorem mown_12 (m:Mg) (h:Hm) (w:World) (hk:m.k=12):
 Calls Tryz.prog 31 #[.agg (m.vals h)] w fun e w'=>e=.returned (.agg (Mg.vals {m.bare with pv:=m.pv,s:=m.s,t:=m.t,ws:=m.ws} {Hm.nil with c:=h.c}))∧Below w.heap.size w w':=by
 obtain⟨k,fr,ton,t,rg,ep,cd,s,pv,cm,n,mx,ks,sn,ws,ps,rs,rc,st⟩:=m
 change k=12 at hk
 subst hk
 go_enter Tryz.func31,Tryz.ntmps31
 go_upto_region 2 with (refine wpList_store_at rfl 41 _ _ rfl (w.heap.size+1+1) _ rfl rfl (by simp) _ _ (by kernel_rfl) (by kernel_rfl) (by kernel_rfl) ?_)
 go_frame
 go_upto_region 34 with fail
 go_region
 go_upto_region 37 with fail
 go_wp2_with (first
  |(guard_target=~ wpList _ _ _ _ _ _;refine wpList_load_row rfl 41 _ rfl (w.heap.size+1+1) rfl _ _ (0,0) _ (Blk.new' (g:=w.heap.size+1+1) _ _ (by simp)).drew rfl rfl (by kernel_rfl) ?_)
  |(guard_target=~ wpList _ _ _ _ _ _;refine wpList_store_row rfl 41 _ _ rfl (w.heap.size+1) _ rfl rfl _ _ ((Blk.new' (g:=w.heap.size+1) _ _ (by simp)).alloc _).drew (by kernel_rfl) (by kernel_rfl) (by kernel_rfl) ?_))
 refine post_cell rfl (by rfl) ((((Blk.new' (g:=w.heap.size+1) _ _ (by simp)).alloc _).drew).setRow _) rfl rfl (by kernel_rfl) ?_
 exact⟨rfl,below_setRow (by go_grown) (by omega) _⟩
theorem mown_13 (m:Mg) (h:Hm) (w:World) (hk:m.k=13):
 Calls Tryz.prog 31 #[.agg (m.vals h)] w fun e w'=>e=.returned (.agg (Mg.vals m.bare Hm.nil))∧Below w.heap.size w w':=by
 obtain⟨k,fr,ton,t,rg,ep,cd,s,pv,cm,n,mx,ks,sn,ws,ps,rs,rc,st⟩:=m
 change k=13 at hk
 subst hk
 go_enter Tryz.func31,Tryz.ntmps31
 go_upto_region 2 with (refine wpList_store_at rfl 41 _ _ rfl (w.heap.size+1+1) _ rfl rfl (by simp) _ _ (by kernel_rfl) (by kernel_rfl) (by kernel_rfl) ?_)
 go_frame
 go_upto_region 37 with fail
 go_wp2_with (first
  |(guard_target=~ wpList _ _ _ _ _ _;refine wpList_load_row rfl 41 _ rfl (w.heap.size+1+1) rfl _ _ (0,0) _ (Blk.new' (g:=w.heap.size+1+1) _ _ (by simp)) rfl rfl (by kernel_rfl) ?_)
  |(guard_target=~ wpList _ _ _ _ _ _;refine wpList_store_row rfl 41 _ _ rfl (w.heap.size+1) _ rfl rfl _ _ ((Blk.new' (g:=w.heap.size+1) _ _ (by simp)).alloc _) (by kernel_rfl) (by kernel_rfl) (by kernel_rfl) ?_))
 refine post_cell rfl (by rfl) ((((Blk.new' (g:=w.heap.size+1) _ _ (by simp)).alloc _)).setRow _) rfl rfl (by kernel_rfl) ?_
 exact⟨rfl,below_setRow (by go_grown) (by omega) _⟩
theorem mown_14 (m:Mg) (h:Hm) (w:World) (hk:m.k=14):
 Calls Tryz.prog 31 #[.agg (m.vals h)] w fun e w'=>e=.returned (.agg (Mg.vals {m.bare with s:=m.s} Hm.nil))∧Below w.heap.size w w':=by
 obtain⟨k,fr,ton,t,rg,ep,cd,s,pv,cm,n,mx,ks,sn,ws,ps,rs,rc,st⟩:=m
 change k=14 at hk
 subst hk
 go_enter Tryz.func31,Tryz.ntmps31
 go_upto_region 2 with (refine wpList_store_at rfl 41 _ _ rfl (w.heap.size+1+1) _ rfl rfl (by simp) _ _ (by kernel_rfl) (by kernel_rfl) (by kernel_rfl) ?_)
 go_frame
 go_upto_region 37 with fail
 go_wp2_with (first
  |(guard_target=~ wpList _ _ _ _ _ _;refine wpList_load_row rfl 41 _ rfl (w.heap.size+1+1) rfl _ _ (0,0) _ (Blk.new' (g:=w.heap.size+1+1) _ _ (by simp)) rfl rfl (by kernel_rfl) ?_)
  |(guard_target=~ wpList _ _ _ _ _ _;refine wpList_store_row rfl 41 _ _ rfl (w.heap.size+1) _ rfl rfl _ _ ((Blk.new' (g:=w.heap.size+1) _ _ (by simp)).alloc _) (by kernel_rfl) (by kernel_rfl) (by kernel_rfl) ?_))
 refine post_cell rfl (by rfl) ((((Blk.new' (g:=w.heap.size+1) _ _ (by simp)).alloc _)).setRow _) rfl rfl (by kernel_rfl) ?_
 exact⟨rfl,below_setRow (by go_grown) (by omega) _⟩
theorem mown_any (m:Mg) (h:Hm) (w:World) (hk:kindM m.k=true):
 Calls Tryz.prog 31 #[.agg (m.vals h)] w fun e w'=>e=.returned (.agg ((ownM m).vals (ownHm m.k h)))∧Below w.heap.size w w':=by
 unfold kindM at hk
 rw[decide_eq_true_eq]at hk
 have hc:m.k=1∨m.k=2∨m.k=3∨m.k=4∨m.k=5∨m.k=6∨m.k=7∨m.k=8∨m.k=9∨m.k=10∨m.k=11∨m.k=12∨m.k=13∨m.k=14:=by omega
 rcases hc with e|e|e|e|e|e|e|e|e|e|e|e|e|e
 · have e1:ownM m={m.bare with t:=m.t,rg:=m.rg,ep:=m.ep,s:=m.s,ks:=m.ks}:=by unfold ownM;simp[e]
   have e2:ownHm m.k h={Hm.nil with a:=h.a}:=by unfold ownHm;simp[e]
   rw[e1,e2];exact mown_1 m h w e
 · have e1:ownM m={m.bare with t:=m.t,rg:=m.rg,cd:=m.cd,s:=m.s,sn:=m.sn,rs:=m.rs}:=by unfold ownM;simp[e]
   have e2:ownHm m.k h={Hm.nil with b:=h.b,e:=h.e}:=by unfold ownHm;simp[e]
   rw[e1,e2];exact mown_2 m h w e
 · have e1:ownM m={m.bare with t:=m.t,rg:=m.rg,ep:=m.ep,s:=m.s,sn:=m.sn,ws:=m.ws,ps:=m.ps}:=by unfold ownM;simp[e]
   have e2:ownHm m.k h={Hm.nil with b:=h.b,c:=h.c,d:=h.d}:=by unfold ownHm;simp[e]
   rw[e1,e2];exact mown_3 m h w e
 · have e1:ownM m={m.bare with t:=m.t,rg:=m.rg,cd:=m.cd,s:=m.s,rs:=m.rs}:=by unfold ownM;simp[e]
   have e2:ownHm m.k h={Hm.nil with e:=h.e}:=by unfold ownHm;simp[e]
   rw[e1,e2];exact mown_4 m h w e
 · have e1:ownM m={m.bare with t:=m.t,rg:=m.rg,cm:=m.cm,s:=m.s}:=by unfold ownM;simp[e]
   have e2:ownHm m.k h=Hm.nil:=by unfold ownHm;simp[e]
   rw[e1,e2];exact mown_5 m h w e
 · have e1:ownM m={m.bare with t:=m.t,rg:=m.rg}:=by unfold ownM;simp[e]
   have e2:ownHm m.k h=Hm.nil:=by unfold ownHm;simp[e]
   rw[e1,e2];exact mown_6 m h w e
 · have e1:ownM m={m.bare with t:=m.t,rg:=m.rg}:=by unfold ownM;simp[e]
   have e2:ownHm m.k h=Hm.nil:=by unfold ownHm;simp[e]
   rw[e1,e2];exact mown_7 m h w e
 · have e1:ownM m={m.bare with rg:=m.rg,n:=m.n,mx:=m.mx,s:=m.s}:=by unfold ownM;simp[e]
   have e2:ownHm m.k h=Hm.nil:=by unfold ownHm;simp[e]
   rw[e1,e2];exact mown_8 m h w e
 · have e1:ownM m={m.bare with rg:=m.rg,n:=m.n,rc:=m.rc}:=by unfold ownM;simp[e]
   have e2:ownHm m.k h={Hm.nil with f:=h.f}:=by unfold ownHm;simp[e]
   rw[e1,e2];exact mown_9 m h w e
 · have e1:ownM m={m.bare with rg:=m.rg,st:=m.st}:=by unfold ownM;simp[e]
   have e2:ownHm m.k h={Hm.nil with g:=h.g,i:=h.i}:=by unfold ownHm;simp[e]
   rw[e1,e2];exact mown_10 m h w e
 · have e1:ownM m={m.bare with rg:=m.rg}:=by unfold ownM;simp[e]
   have e2:ownHm m.k h=Hm.nil:=by unfold ownHm;simp[e]
   rw[e1,e2];exact mown_11 m h w e
 · have e1:ownM m={m.bare with pv:=m.pv,s:=m.s,t:=m.t,ws:=m.ws}:=by unfold ownM;simp[e]
   have e2:ownHm m.k h={Hm.nil with c:=h.c}:=by unfold ownHm;simp[e]
   rw[e1,e2];exact mown_12 m h w e
 · have e1:ownM m=m.bare:=by unfold ownM;simp[e]
   have e2:ownHm m.k h=Hm.nil:=by unfold ownHm;simp[e]
   rw[e1,e2];exact mown_13 m h w e
 · have e1:ownM m={m.bare with s:=m.s}:=by unfold ownM;simp[e]
   have e2:ownHm m.k h=Hm.nil:=by unfold ownHm;simp[e]
   rw[e1,e2];exact mown_14 m h w e
end Go.Proofs.YtcalkfgibflbnaaGreat
