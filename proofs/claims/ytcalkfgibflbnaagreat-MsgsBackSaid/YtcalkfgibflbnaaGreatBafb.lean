/- The walk of the document's own: a message with the fields alone that its kind names. -/
import Derived.Test.YtcalkfgibflbnaaGreatBacd
import Derived.Test.YtcalkfgibflbnaaGreatBadd
namespace Go.Proofs.YtcalkfgibflbnaaGreat
set_option maxHeartbeats 8000000
set_option maxRecDepth 100000
set_option linter.unusedVariables false
open Go.RowKit Fl
attribute [local go_sem] dJ
abbrev Mg.bare (m:Mg):Mg:=⟨m.k,m.fr,m.aG,⟨0,0,0⟩,0,0,0,⟨0,0,0⟩,⟨0,0,0⟩,false,0,0,[],[],[],[],[],[],zeroS⟩
abbrev Hm.nil:Hm:=⟨Hd.nil,Hd.nil,Hd.nil,Hd.nil,Hd.nil,Hd.nil,Hd.nil,Hd.nil⟩
def fG (m:Mg):Mg:=
 if m.k=1 then {m.bare with t:=m.t,rg:=m.rg,ep:=m.ep,s:=m.s,ks:=m.ks} else
 if m.k=2 then {m.bare with t:=m.t,rg:=m.rg,cd:=m.cd,s:=m.s,sn:=m.sn,rs:=m.rs} else
 if m.k=3 then {m.bare with t:=m.t,rg:=m.rg,ep:=m.ep,s:=m.s,sn:=m.sn,ws:=m.ws,ps:=m.ps} else
 if m.k=4 then {m.bare with t:=m.t,rg:=m.rg,cd:=m.cd,s:=m.s,rs:=m.rs} else
 if m.k=5 then {m.bare with t:=m.t,rg:=m.rg,cm:=m.cm,s:=m.s} else
 if m.k=6 then {m.bare with t:=m.t,rg:=m.rg} else
 if m.k=7 then {m.bare with t:=m.t,rg:=m.rg} else
 if m.k=8 then {m.bare with rg:=m.rg,n:=m.n,mx:=m.mx,s:=m.s} else
 if m.k=9 then {m.bare with rg:=m.rg,n:=m.n,rc:=m.rc} else
 if m.k=10 then {m.bare with rg:=m.rg,st:=m.st} else
 if m.k=11 then {m.bare with rg:=m.rg} else
 if m.k=12 then {m.bare with pv:=m.pv,s:=m.s,t:=m.t,ws:=m.ws} else
 if m.k=14 then {m.bare with s:=m.s} else
 m.bare
def dG (k:Int) (h:Hm):Hm:=
 if k=1 then {Hm.nil with a:=h.a} else
 if k=2 then {Hm.nil with b:=h.b,e:=h.e} else
 if k=3 then {Hm.nil with b:=h.b,c:=h.c,d:=h.d} else
 if k=4 then {Hm.nil with e:=h.e} else
 if k=9 then {Hm.nil with f:=h.f} else
 if k=10 then {Hm.nil with g:=h.g,i:=h.i} else
 if k=12 then {Hm.nil with c:=h.c} else
 Hm.nil
theorem aiF (m:Mg) (h:Hm) (w:World) (hk:m.k=1):
 Calls Tryz.prog 31 #[.agg (m.vals h)] w fun e w'=>e=.returned (.agg (Mg.vals {m.bare with t:=m.t,rg:=m.rg,ep:=m.ep,s:=m.s,ks:=m.ks} {Hm.nil with a:=h.a}))/\Below w.heap.size w w':=by
 obtain⟨k,fr,aG,t,rg,ep,cd,s,pv,cm,n,mx,ks,sn,ws,ps,rs,rc,st⟩:=m;change k=1 at hk;subst hk;go_enter Tryz.func31,Tryz.ntmps31;go_upto_region 2 with (refine iO rfl 41 _ _ rfl (w.heap.size+1+1) _ rfl rfl aA _ _ ah ah ah ?_);go_frame;go_upto_region 10 with fail;go_region;go_upto_region 18 with fail;go_region;go_upto_region 37 with fail;go_wp2_with (first
  |(guard_target=~ wpList _ _ _ _ _ _;refine wpList_load_row rfl 41 _ rfl (w.heap.size+1+1) rfl _ _ (0,0) _ (aj.new' (g:=w.heap.size+1+1) _ _ aA).drew.drew rfl rfl ah ?_)
  |(guard_target=~ wpList _ _ _ _ _ _;refine wpList_store_row rfl 41 _ _ rfl (w.heap.size+1) _ rfl rfl _ _ ((aj.new' (g:=w.heap.size+1) _ _ aA).alloc _).drew.drew ah ah ah ?_))
 refine gJ rfl aI ((((aj.new' (g:=w.heap.size+1) _ _ aA).alloc _).drew.drew).setRow _) rfl rfl ah ?_;exact⟨rfl,below_setRow aJ byOmega _⟩
theorem aiG (m:Mg) (h:Hm) (w:World) (hk:m.k=2):
 Calls Tryz.prog 31 #[.agg (m.vals h)] w fun e w'=>e=.returned (.agg (Mg.vals {m.bare with t:=m.t,rg:=m.rg,cd:=m.cd,s:=m.s,sn:=m.sn,rs:=m.rs} {Hm.nil with b:=h.b,e:=h.e}))/\Below w.heap.size w w':=by
 obtain⟨k,fr,aG,t,rg,ep,cd,s,pv,cm,n,mx,ks,sn,ws,ps,rs,rc,st⟩:=m;change k=2 at hk;subst hk;go_enter Tryz.func31,Tryz.ntmps31;go_upto_region 2 with (refine iO rfl 41 _ _ rfl (w.heap.size+1+1) _ rfl rfl aA _ _ ah ah ah ?_);go_frame;go_upto_region 10 with fail;go_region;go_upto_region 20 with fail;go_region;go_upto_region 37 with fail;go_wp2_with (first
  |(guard_target=~ wpList _ _ _ _ _ _;refine wpList_load_row rfl 41 _ rfl (w.heap.size+1+1) rfl _ _ (0,0) _ (aj.new' (g:=w.heap.size+1+1) _ _ aA).drew.drew rfl rfl ah ?_)
  |(guard_target=~ wpList _ _ _ _ _ _;refine wpList_store_row rfl 41 _ _ rfl (w.heap.size+1) _ rfl rfl _ _ ((aj.new' (g:=w.heap.size+1) _ _ aA).alloc _).drew.drew ah ah ah ?_))
 refine gJ rfl aI ((((aj.new' (g:=w.heap.size+1) _ _ aA).alloc _).drew.drew).setRow _) rfl rfl ah ?_;exact⟨rfl,below_setRow aJ byOmega _⟩
theorem aiH (m:Mg) (h:Hm) (w:World) (hk:m.k=3):
 Calls Tryz.prog 31 #[.agg (m.vals h)] w fun e w'=>e=.returned (.agg (Mg.vals {m.bare with t:=m.t,rg:=m.rg,ep:=m.ep,s:=m.s,sn:=m.sn,ws:=m.ws,ps:=m.ps} {Hm.nil with b:=h.b,c:=h.c,d:=h.d}))/\Below w.heap.size w w':=by
 obtain⟨k,fr,aG,t,rg,ep,cd,s,pv,cm,n,mx,ks,sn,ws,ps,rs,rc,st⟩:=m;change k=3 at hk;subst hk;go_enter Tryz.func31,Tryz.ntmps31;go_upto_region 2 with (refine iO rfl 41 _ _ rfl (w.heap.size+1+1) _ rfl rfl aA _ _ ah ah ah ?_);go_frame;go_upto_region 10 with fail;go_region;go_upto_region 22 with fail;go_region;go_upto_region 37 with fail;go_wp2_with (first
  |(guard_target=~ wpList _ _ _ _ _ _;refine wpList_load_row rfl 41 _ rfl (w.heap.size+1+1) rfl _ _ (0,0) _ (aj.new' (g:=w.heap.size+1+1) _ _ aA).drew.drew rfl rfl ah ?_)
  |(guard_target=~ wpList _ _ _ _ _ _;refine wpList_store_row rfl 41 _ _ rfl (w.heap.size+1) _ rfl rfl _ _ ((aj.new' (g:=w.heap.size+1) _ _ aA).alloc _).drew.drew ah ah ah ?_))
 refine gJ rfl aI ((((aj.new' (g:=w.heap.size+1) _ _ aA).alloc _).drew.drew).setRow _) rfl rfl ah ?_;exact⟨rfl,below_setRow aJ byOmega _⟩
theorem aiI (m:Mg) (h:Hm) (w:World) (hk:m.k=4):
 Calls Tryz.prog 31 #[.agg (m.vals h)] w fun e w'=>e=.returned (.agg (Mg.vals {m.bare with t:=m.t,rg:=m.rg,cd:=m.cd,s:=m.s,rs:=m.rs} {Hm.nil with e:=h.e}))/\Below w.heap.size w w':=by
 obtain⟨k,fr,aG,t,rg,ep,cd,s,pv,cm,n,mx,ks,sn,ws,ps,rs,rc,st⟩:=m;change k=4 at hk;subst hk;go_enter Tryz.func31,Tryz.ntmps31;go_upto_region 2 with (refine iO rfl 41 _ _ rfl (w.heap.size+1+1) _ rfl rfl aA _ _ ah ah ah ?_);go_frame;go_upto_region 10 with fail;go_region;go_upto_region 24 with fail;go_region;go_upto_region 37 with fail;go_wp2_with (first
  |(guard_target=~ wpList _ _ _ _ _ _;refine wpList_load_row rfl 41 _ rfl (w.heap.size+1+1) rfl _ _ (0,0) _ (aj.new' (g:=w.heap.size+1+1) _ _ aA).drew.drew rfl rfl ah ?_)
  |(guard_target=~ wpList _ _ _ _ _ _;refine wpList_store_row rfl 41 _ _ rfl (w.heap.size+1) _ rfl rfl _ _ ((aj.new' (g:=w.heap.size+1) _ _ aA).alloc _).drew.drew ah ah ah ?_))
 refine gJ rfl aI ((((aj.new' (g:=w.heap.size+1) _ _ aA).alloc _).drew.drew).setRow _) rfl rfl ah ?_;exact⟨rfl,below_setRow aJ byOmega _⟩
theorem aiJ (m:Mg) (h:Hm) (w:World) (hk:m.k=5):
 Calls Tryz.prog 31 #[.agg (m.vals h)] w fun e w'=>e=.returned (.agg (Mg.vals {m.bare with t:=m.t,rg:=m.rg,cm:=m.cm,s:=m.s} Hm.nil))/\Below w.heap.size w w':=by
 obtain⟨k,fr,aG,t,rg,ep,cd,s,pv,cm,n,mx,ks,sn,ws,ps,rs,rc,st⟩:=m;change k=5 at hk;subst hk;go_enter Tryz.func31,Tryz.ntmps31;go_upto_region 2 with (refine iO rfl 41 _ _ rfl (w.heap.size+1+1) _ rfl rfl aA _ _ ah ah ah ?_);go_frame;go_upto_region 10 with fail;go_region;go_upto_region 26 with fail;go_region;go_upto_region 37 with fail;go_wp2_with (first
  |(guard_target=~ wpList _ _ _ _ _ _;refine wpList_load_row rfl 41 _ rfl (w.heap.size+1+1) rfl _ _ (0,0) _ (aj.new' (g:=w.heap.size+1+1) _ _ aA).drew.drew rfl rfl ah ?_)
  |(guard_target=~ wpList _ _ _ _ _ _;refine wpList_store_row rfl 41 _ _ rfl (w.heap.size+1) _ rfl rfl _ _ ((aj.new' (g:=w.heap.size+1) _ _ aA).alloc _).drew.drew ah ah ah ?_))
 refine gJ rfl aI ((((aj.new' (g:=w.heap.size+1) _ _ aA).alloc _).drew.drew).setRow _) rfl rfl ah ?_;exact⟨rfl,below_setRow aJ byOmega _⟩
theorem aiK (m:Mg) (h:Hm) (w:World) (hk:m.k=6):
 Calls Tryz.prog 31 #[.agg (m.vals h)] w fun e w'=>e=.returned (.agg (Mg.vals {m.bare with t:=m.t,rg:=m.rg} Hm.nil))/\Below w.heap.size w w':=by
 obtain⟨k,fr,aG,t,rg,ep,cd,s,pv,cm,n,mx,ks,sn,ws,ps,rs,rc,st⟩:=m;change k=6 at hk;subst hk;go_enter Tryz.func31,Tryz.ntmps31;go_upto_region 2 with (refine iO rfl 41 _ _ rfl (w.heap.size+1+1) _ rfl rfl aA _ _ ah ah ah ?_);go_frame;go_upto_region 10 with fail;go_region;go_upto_region 37 with fail;go_wp2_with (first
  |(guard_target=~ wpList _ _ _ _ _ _;refine wpList_load_row rfl 41 _ rfl (w.heap.size+1+1) rfl _ _ (0,0) _ (aj.new' (g:=w.heap.size+1+1) _ _ aA).drew rfl rfl ah ?_)
  |(guard_target=~ wpList _ _ _ _ _ _;refine wpList_store_row rfl 41 _ _ rfl (w.heap.size+1) _ rfl rfl _ _ ((aj.new' (g:=w.heap.size+1) _ _ aA).alloc _).drew ah ah ah ?_))
 refine gJ rfl aI ((((aj.new' (g:=w.heap.size+1) _ _ aA).alloc _).drew).setRow _) rfl rfl ah ?_;exact⟨rfl,below_setRow aJ byOmega _⟩
theorem aiL (m:Mg) (h:Hm) (w:World) (hk:m.k=7):
 Calls Tryz.prog 31 #[.agg (m.vals h)] w fun e w'=>e=.returned (.agg (Mg.vals {m.bare with t:=m.t,rg:=m.rg} Hm.nil))/\Below w.heap.size w w':=by
 obtain⟨k,fr,aG,t,rg,ep,cd,s,pv,cm,n,mx,ks,sn,ws,ps,rs,rc,st⟩:=m;change k=7 at hk;subst hk;go_enter Tryz.func31,Tryz.ntmps31;go_upto_region 2 with (refine iO rfl 41 _ _ rfl (w.heap.size+1+1) _ rfl rfl aA _ _ ah ah ah ?_);go_frame;go_upto_region 10 with fail;go_region;go_upto_region 37 with fail;go_wp2_with (first
  |(guard_target=~ wpList _ _ _ _ _ _;refine wpList_load_row rfl 41 _ rfl (w.heap.size+1+1) rfl _ _ (0,0) _ (aj.new' (g:=w.heap.size+1+1) _ _ aA).drew rfl rfl ah ?_)
  |(guard_target=~ wpList _ _ _ _ _ _;refine wpList_store_row rfl 41 _ _ rfl (w.heap.size+1) _ rfl rfl _ _ ((aj.new' (g:=w.heap.size+1) _ _ aA).alloc _).drew ah ah ah ?_))
 refine gJ rfl aI ((((aj.new' (g:=w.heap.size+1) _ _ aA).alloc _).drew).setRow _) rfl rfl ah ?_;exact⟨rfl,below_setRow aJ byOmega _⟩
theorem aiM (m:Mg) (h:Hm) (w:World) (hk:m.k=8):
 Calls Tryz.prog 31 #[.agg (m.vals h)] w fun e w'=>e=.returned (.agg (Mg.vals {m.bare with rg:=m.rg,n:=m.n,mx:=m.mx,s:=m.s} Hm.nil))/\Below w.heap.size w w':=by
 obtain⟨k,fr,aG,t,rg,ep,cd,s,pv,cm,n,mx,ks,sn,ws,ps,rs,rc,st⟩:=m;change k=8 at hk;subst hk;go_enter Tryz.func31,Tryz.ntmps31;go_upto_region 2 with (refine iO rfl 41 _ _ rfl (w.heap.size+1+1) _ rfl rfl aA _ _ ah ah ah ?_);go_frame;go_upto_region 28 with fail;go_region;go_upto_region 37 with fail;go_wp2_with (first
  |(guard_target=~ wpList _ _ _ _ _ _;refine wpList_load_row rfl 41 _ rfl (w.heap.size+1+1) rfl _ _ (0,0) _ (aj.new' (g:=w.heap.size+1+1) _ _ aA).drew rfl rfl ah ?_)
  |(guard_target=~ wpList _ _ _ _ _ _;refine wpList_store_row rfl 41 _ _ rfl (w.heap.size+1) _ rfl rfl _ _ ((aj.new' (g:=w.heap.size+1) _ _ aA).alloc _).drew ah ah ah ?_))
 refine gJ rfl aI ((((aj.new' (g:=w.heap.size+1) _ _ aA).alloc _).drew).setRow _) rfl rfl ah ?_;exact⟨rfl,below_setRow aJ byOmega _⟩
theorem aiN (m:Mg) (h:Hm) (w:World) (hk:m.k=9):
 Calls Tryz.prog 31 #[.agg (m.vals h)] w fun e w'=>e=.returned (.agg (Mg.vals {m.bare with rg:=m.rg,n:=m.n,rc:=m.rc} {Hm.nil with f:=h.f}))/\Below w.heap.size w w':=by
 obtain⟨k,fr,aG,t,rg,ep,cd,s,pv,cm,n,mx,ks,sn,ws,ps,rs,rc,st⟩:=m;change k=9 at hk;subst hk;go_enter Tryz.func31,Tryz.ntmps31;go_upto_region 2 with (refine iO rfl 41 _ _ rfl (w.heap.size+1+1) _ rfl rfl aA _ _ ah ah ah ?_);go_frame;go_upto_region 30 with fail;go_region;go_upto_region 37 with fail;go_wp2_with (first
  |(guard_target=~ wpList _ _ _ _ _ _;refine wpList_load_row rfl 41 _ rfl (w.heap.size+1+1) rfl _ _ (0,0) _ (aj.new' (g:=w.heap.size+1+1) _ _ aA).drew rfl rfl ah ?_)
  |(guard_target=~ wpList _ _ _ _ _ _;refine wpList_store_row rfl 41 _ _ rfl (w.heap.size+1) _ rfl rfl _ _ ((aj.new' (g:=w.heap.size+1) _ _ aA).alloc _).drew ah ah ah ?_))
 refine gJ rfl aI ((((aj.new' (g:=w.heap.size+1) _ _ aA).alloc _).drew).setRow _) rfl rfl ah ?_;exact⟨rfl,below_setRow aJ byOmega _⟩
theorem aiO (m:Mg) (h:Hm) (w:World) (hk:m.k=10):
 Calls Tryz.prog 31 #[.agg (m.vals h)] w fun e w'=>e=.returned (.agg (Mg.vals {m.bare with rg:=m.rg,st:=m.st} {Hm.nil with g:=h.g,i:=h.i}))/\Below w.heap.size w w':=by
 obtain⟨k,fr,aG,t,rg,ep,cd,s,pv,cm,n,mx,ks,sn,ws,ps,rs,rc,st⟩:=m;change k=10 at hk;subst hk;go_enter Tryz.func31,Tryz.ntmps31;go_upto_region 2 with (refine iO rfl 41 _ _ rfl (w.heap.size+1+1) _ rfl rfl aA _ _ ah ah ah ?_);go_frame;go_upto_region 37 with fail;go_wp2_with (first
  |(guard_target=~ wpList _ _ _ _ _ _;refine wpList_load_row rfl 41 _ rfl (w.heap.size+1+1) rfl _ _ (0,0) _ (aj.new' (g:=w.heap.size+1+1) _ _ aA) rfl rfl ah ?_)
  |(guard_target=~ wpList _ _ _ _ _ _;refine wpList_store_row rfl 41 _ _ rfl (w.heap.size+1) _ rfl rfl _ _ ((aj.new' (g:=w.heap.size+1) _ _ aA).alloc _) ah ah ah ?_))
 refine gJ rfl aI ((((aj.new' (g:=w.heap.size+1) _ _ aA).alloc _)).setRow _) rfl rfl ah ?_;exact⟨rfl,below_setRow aJ byOmega _⟩
theorem aiP (m:Mg) (h:Hm) (w:World) (hk:m.k=11):
 Calls Tryz.prog 31 #[.agg (m.vals h)] w fun e w'=>e=.returned (.agg (Mg.vals {m.bare with rg:=m.rg} Hm.nil))/\Below w.heap.size w w':=by
 obtain⟨k,fr,aG,t,rg,ep,cd,s,pv,cm,n,mx,ks,sn,ws,ps,rs,rc,st⟩:=m;change k=11 at hk;subst hk;go_enter Tryz.func31,Tryz.ntmps31;go_upto_region 2 with (refine iO rfl 41 _ _ rfl (w.heap.size+1+1) _ rfl rfl aA _ _ ah ah ah ?_);go_frame;go_upto_region 37 with fail;go_wp2_with (first
  |(guard_target=~ wpList _ _ _ _ _ _;refine wpList_load_row rfl 41 _ rfl (w.heap.size+1+1) rfl _ _ (0,0) _ (aj.new' (g:=w.heap.size+1+1) _ _ aA) rfl rfl ah ?_)
  |(guard_target=~ wpList _ _ _ _ _ _;refine wpList_store_row rfl 41 _ _ rfl (w.heap.size+1) _ rfl rfl _ _ ((aj.new' (g:=w.heap.size+1) _ _ aA).alloc _) ah ah ah ?_))
 refine gJ rfl aI ((((aj.new' (g:=w.heap.size+1) _ _ aA).alloc _)).setRow _) rfl rfl ah ?_;exact⟨rfl,below_setRow aJ byOmega _⟩
theorem aiQ (m:Mg) (h:Hm) (w:World) (hk:m.k=12):
 Calls Tryz.prog 31 #[.agg (m.vals h)] w fun e w'=>e=.returned (.agg (Mg.vals {m.bare with pv:=m.pv,s:=m.s,t:=m.t,ws:=m.ws} {Hm.nil with c:=h.c}))/\Below w.heap.size w w':=by
 obtain⟨k,fr,aG,t,rg,ep,cd,s,pv,cm,n,mx,ks,sn,ws,ps,rs,rc,st⟩:=m;change k=12 at hk;subst hk;go_enter Tryz.func31,Tryz.ntmps31;go_upto_region 2 with (refine iO rfl 41 _ _ rfl (w.heap.size+1+1) _ rfl rfl aA _ _ ah ah ah ?_);go_frame;go_upto_region 34 with fail;go_region;go_upto_region 37 with fail;go_wp2_with (first
  |(guard_target=~ wpList _ _ _ _ _ _;refine wpList_load_row rfl 41 _ rfl (w.heap.size+1+1) rfl _ _ (0,0) _ (aj.new' (g:=w.heap.size+1+1) _ _ aA).drew rfl rfl ah ?_)
  |(guard_target=~ wpList _ _ _ _ _ _;refine wpList_store_row rfl 41 _ _ rfl (w.heap.size+1) _ rfl rfl _ _ ((aj.new' (g:=w.heap.size+1) _ _ aA).alloc _).drew ah ah ah ?_))
 refine gJ rfl aI ((((aj.new' (g:=w.heap.size+1) _ _ aA).alloc _).drew).setRow _) rfl rfl ah ?_;exact⟨rfl,below_setRow aJ byOmega _⟩
theorem aiR (m:Mg) (h:Hm) (w:World) (hk:m.k=13):
 Calls Tryz.prog 31 #[.agg (m.vals h)] w fun e w'=>e=.returned (.agg (Mg.vals m.bare Hm.nil))/\Below w.heap.size w w':=by
 obtain⟨k,fr,aG,t,rg,ep,cd,s,pv,cm,n,mx,ks,sn,ws,ps,rs,rc,st⟩:=m;change k=13 at hk;subst hk;go_enter Tryz.func31,Tryz.ntmps31;go_upto_region 2 with (refine iO rfl 41 _ _ rfl (w.heap.size+1+1) _ rfl rfl aA _ _ ah ah ah ?_);go_frame;go_upto_region 37 with fail;go_wp2_with (first
  |(guard_target=~ wpList _ _ _ _ _ _;refine wpList_load_row rfl 41 _ rfl (w.heap.size+1+1) rfl _ _ (0,0) _ (aj.new' (g:=w.heap.size+1+1) _ _ aA) rfl rfl ah ?_)
  |(guard_target=~ wpList _ _ _ _ _ _;refine wpList_store_row rfl 41 _ _ rfl (w.heap.size+1) _ rfl rfl _ _ ((aj.new' (g:=w.heap.size+1) _ _ aA).alloc _) ah ah ah ?_))
 refine gJ rfl aI ((((aj.new' (g:=w.heap.size+1) _ _ aA).alloc _)).setRow _) rfl rfl ah ?_;exact⟨rfl,below_setRow aJ byOmega _⟩
theorem aiS (m:Mg) (h:Hm) (w:World) (hk:m.k=14):
 Calls Tryz.prog 31 #[.agg (m.vals h)] w fun e w'=>e=.returned (.agg (Mg.vals {m.bare with s:=m.s} Hm.nil))/\Below w.heap.size w w':=by
 obtain⟨k,fr,aG,t,rg,ep,cd,s,pv,cm,n,mx,ks,sn,ws,ps,rs,rc,st⟩:=m;change k=14 at hk;subst hk;go_enter Tryz.func31,Tryz.ntmps31;go_upto_region 2 with (refine iO rfl 41 _ _ rfl (w.heap.size+1+1) _ rfl rfl aA _ _ ah ah ah ?_);go_frame;go_upto_region 37 with fail;go_wp2_with (first
  |(guard_target=~ wpList _ _ _ _ _ _;refine wpList_load_row rfl 41 _ rfl (w.heap.size+1+1) rfl _ _ (0,0) _ (aj.new' (g:=w.heap.size+1+1) _ _ aA) rfl rfl ah ?_)
  |(guard_target=~ wpList _ _ _ _ _ _;refine wpList_store_row rfl 41 _ _ rfl (w.heap.size+1) _ rfl rfl _ _ ((aj.new' (g:=w.heap.size+1) _ _ aA).alloc _) ah ah ah ?_))
 refine gJ rfl aI ((((aj.new' (g:=w.heap.size+1) _ _ aA).alloc _)).setRow _) rfl rfl ah ?_;exact⟨rfl,below_setRow aJ byOmega _⟩
theorem aiw (m:Mg) (h:Hm) (w:World) (hk:iK m.k=true):
 Calls Tryz.prog 31 #[.agg (m.vals h)] w fun e w'=>e=.returned (.agg ((fG m).vals (dG m.k h)))/\Below w.heap.size w w':=by
 unfold iK at hk;rw[decide_eq_true_eq]at hk;have hc:m.k=1∨m.k=2∨m.k=3∨m.k=4∨m.k=5∨m.k=6∨m.k=7∨m.k=8∨m.k=9∨m.k=10∨m.k=11∨m.k=12∨m.k=13∨m.k=14:=byOmega;rcases hc with e|e|e|e|e|e|e|e|e|e|e|e|e|e
 · have e1:fG m={m.bare with t:=m.t,rg:=m.rg,ep:=m.ep,s:=m.s,ks:=m.ks}:=(by unfold fG;simp[e]);have e2:dG m.k h={Hm.nil with a:=h.a}:=(by unfold dG;simp[e]);rw[e1,e2];exact aiF m h w e
 · have e1:fG m={m.bare with t:=m.t,rg:=m.rg,cd:=m.cd,s:=m.s,sn:=m.sn,rs:=m.rs}:=(by unfold fG;simp[e]);have e2:dG m.k h={Hm.nil with b:=h.b,e:=h.e}:=(by unfold dG;simp[e]);rw[e1,e2];exact aiG m h w e
 · have e1:fG m={m.bare with t:=m.t,rg:=m.rg,ep:=m.ep,s:=m.s,sn:=m.sn,ws:=m.ws,ps:=m.ps}:=(by unfold fG;simp[e]);have e2:dG m.k h={Hm.nil with b:=h.b,c:=h.c,d:=h.d}:=(by unfold dG;simp[e]);rw[e1,e2];exact aiH m h w e
 · have e1:fG m={m.bare with t:=m.t,rg:=m.rg,cd:=m.cd,s:=m.s,rs:=m.rs}:=(by unfold fG;simp[e]);have e2:dG m.k h={Hm.nil with e:=h.e}:=(by unfold dG;simp[e]);rw[e1,e2];exact aiI m h w e
 · have e1:fG m={m.bare with t:=m.t,rg:=m.rg,cm:=m.cm,s:=m.s}:=(by unfold fG;simp[e]);have e2:dG m.k h=Hm.nil:=(by unfold dG;simp[e]);rw[e1,e2];exact aiJ m h w e
 · have e1:fG m={m.bare with t:=m.t,rg:=m.rg}:=(by unfold fG;simp[e]);have e2:dG m.k h=Hm.nil:=(by unfold dG;simp[e]);rw[e1,e2];exact aiK m h w e
 · have e1:fG m={m.bare with t:=m.t,rg:=m.rg}:=(by unfold fG;simp[e]);have e2:dG m.k h=Hm.nil:=(by unfold dG;simp[e]);rw[e1,e2];exact aiL m h w e
 · have e1:fG m={m.bare with rg:=m.rg,n:=m.n,mx:=m.mx,s:=m.s}:=(by unfold fG;simp[e]);have e2:dG m.k h=Hm.nil:=(by unfold dG;simp[e]);rw[e1,e2];exact aiM m h w e
 · have e1:fG m={m.bare with rg:=m.rg,n:=m.n,rc:=m.rc}:=(by unfold fG;simp[e]);have e2:dG m.k h={Hm.nil with f:=h.f}:=(by unfold dG;simp[e]);rw[e1,e2];exact aiN m h w e
 · have e1:fG m={m.bare with rg:=m.rg,st:=m.st}:=(by unfold fG;simp[e]);have e2:dG m.k h={Hm.nil with g:=h.g,i:=h.i}:=(by unfold dG;simp[e]);rw[e1,e2];exact aiO m h w e
 · have e1:fG m={m.bare with rg:=m.rg}:=(by unfold fG;simp[e]);have e2:dG m.k h=Hm.nil:=(by unfold dG;simp[e]);rw[e1,e2];exact aiP m h w e
 · have e1:fG m={m.bare with pv:=m.pv,s:=m.s,t:=m.t,ws:=m.ws}:=(by unfold fG;simp[e]);have e2:dG m.k h={Hm.nil with c:=h.c}:=(by unfold dG;simp[e]);rw[e1,e2];exact aiQ m h w e
 · have e1:fG m=m.bare:=(by unfold fG;simp[e]);have e2:dG m.k h=Hm.nil:=(by unfold dG;simp[e]);rw[e1,e2];exact aiR m h w e
 · have e1:fG m={m.bare with s:=m.s}:=(by unfold fG;simp[e]);have e2:dG m.k h=Hm.nil:=(by unfold dG;simp[e]);rw[e1,e2];exact aiS m h w e
