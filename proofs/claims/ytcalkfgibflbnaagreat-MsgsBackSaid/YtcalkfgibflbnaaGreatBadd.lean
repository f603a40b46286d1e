/- The walk of the document's own: a record with the fields alone that its kind names. -/
import Derived.Test.YtcalkfgibflbnaaGreatBabg
namespace Go.Proofs.YtcalkfgibflbnaaGreat
set_option maxHeartbeats 4000000
set_option maxRecDepth 100000
set_option linter.unusedVariables false
open Go.RowKit Fl
attribute [local go_sem] dJ
theorem iO {P:Program} {ops:Array Oper} {rest:List Oper} {o:Oper} {a:Act} {w:World} {Q:Exit->Act->World->Prop} (hgd:o.guard=none) (ty:TypeId) (x y:Operand) (ho:o.op=.store ty x y)
 (g:Nat) (cells:Array Value) (hx:a.eval x=.pointer (some ⟨g,0,none⟩)) (hy:a.eval y=.agg cells) (hg:g=w.heap.size)
 (t:TypeId) (old:Array Value) (hi:(P.info? ty).map (·.size)=some cells.size)
 (hold:old.size=cells.size) (h1:cells.all (·.oneCell')=true)
 (h:wpList P ops Q rest (a.put o.dst undef) (w.alloc (.cells cells t))):wpList P ops Q (o::rest) a (w.alloc (.cells old t)):=by
 subst hg;exact xO hgd ty x y ho cells hx hy t old hi hold h1 h
def iy (r:Rc):Rc:=
 if r.k=1 then {k:=r.k,t:=⟨0,0,0⟩,s:=⟨0,0,0⟩,pv:=⟨0,0,0⟩,cm:=false,n:=0,pt:=0,rd:=[],wr:=[],ps:=[],pr:=[],st:=r.st} else
 if r.k=2 then {k:=r.k,t:=⟨0,0,0⟩,s:=⟨0,0,0⟩,pv:=⟨0,0,0⟩,cm:=false,n:=r.n,pt:=0,rd:=[],wr:=[],ps:=[],pr:=[],st:=zeroS} else
 if r.k=3 then {k:=r.k,t:=r.t,s:=r.s,pv:=⟨0,0,0⟩,cm:=false,n:=0,pt:=0,rd:=r.rd,wr:=r.wr,ps:=r.ps,pr:=[],st:=zeroS} else
 if r.k=4 then {k:=r.k,t:=r.t,s:=r.s,pv:=⟨0,0,0⟩,cm:=r.cm,n:=0,pt:=0,rd:=[],wr:=[],ps:=[],pr:=[],st:=zeroS} else
 if r.k=5 then {k:=r.k,t:=⟨0,0,0⟩,s:=r.s,pv:=⟨0,0,0⟩,cm:=false,n:=0,pt:=0,rd:=[],wr:=[],ps:=[],pr:=[],st:=zeroS} else
 if r.k=6 then {k:=r.k,t:=⟨0,0,0⟩,s:=r.s,pv:=⟨0,0,0⟩,cm:=false,n:=r.n,pt:=r.pt,rd:=[],wr:=[],ps:=[],pr:=[],st:=zeroS} else
 if r.k=7 then {k:=r.k,t:=⟨0,0,0⟩,s:=⟨0,0,0⟩,pv:=⟨0,0,0⟩,cm:=false,n:=r.n,pt:=0,rd:=[],wr:=[],ps:=[],pr:=[],st:=zeroS} else
 if r.k=8 then {k:=r.k,t:=⟨0,0,0⟩,s:=⟨0,0,0⟩,pv:=⟨0,0,0⟩,cm:=false,n:=r.n,pt:=0,rd:=[],wr:=[],ps:=[],pr:=[],st:=zeroS} else
 if r.k=9 then {k:=r.k,t:=r.t,s:=r.s,pv:=⟨0,0,0⟩,cm:=false,n:=0,pt:=0,rd:=[],wr:=[],ps:=r.ps,pr:=[],st:=zeroS} else
 if r.k=10 then {k:=r.k,t:=r.t,s:=⟨0,0,0⟩,pv:=⟨0,0,0⟩,cm:=false,n:=0,pt:=0,rd:=[],wr:=[],ps:=[],pr:=[],st:=zeroS} else
 if r.k=11 then {k:=r.k,t:=r.t,s:=r.s,pv:=r.pv,cm:=false,n:=0,pt:=0,rd:=[],wr:=r.wr,ps:=[],pr:=[],st:=zeroS} else
 if r.k=12 then {k:=r.k,t:=⟨0,0,0⟩,s:=r.s,pv:=⟨0,0,0⟩,cm:=false,n:=0,pt:=0,rd:=[],wr:=[],ps:=[],pr:=r.pr,st:=zeroS} else
 {k:=r.k,t:=⟨0,0,0⟩,s:=⟨0,0,0⟩,pv:=⟨0,0,0⟩,cm:=false,n:=0,pt:=0,rd:=[],wr:=[],ps:=[],pr:=[],st:=zeroS}
def fJ (k:Int) (h:aV):aV:=
 if k=1 then {a:=Hd.nil,b:=Hd.nil,c:=Hd.nil,d:=Hd.nil,e:=h.e,f:=h.f} else
 if k=3 then {a:=h.a,b:=h.b,c:=h.c,d:=Hd.nil,e:=Hd.nil,f:=Hd.nil} else
 if k=9 then {a:=Hd.nil,b:=Hd.nil,c:=h.c,d:=Hd.nil,e:=Hd.nil,f:=Hd.nil} else
 if k=11 then {a:=Hd.nil,b:=h.b,c:=Hd.nil,d:=Hd.nil,e:=Hd.nil,f:=Hd.nil} else
 if k=12 then {a:=Hd.nil,b:=Hd.nil,c:=Hd.nil,d:=h.d,e:=Hd.nil,f:=Hd.nil} else
 {a:=Hd.nil,b:=Hd.nil,c:=Hd.nil,d:=Hd.nil,e:=Hd.nil,f:=Hd.nil}
theorem agN (r:Rc) (h:aV) (w:World) (hk:r.k=1):
 Calls Tryz.prog 172 #[.agg (r.vals h)] w fun e w'=>e=.returned (.agg (Rc.vals {k:=r.k,t:=⟨0,0,0⟩,s:=⟨0,0,0⟩,pv:=⟨0,0,0⟩,cm:=false,n:=0,pt:=0,rd:=[],wr:=[],ps:=[],pr:=[],st:=r.st} {a:=Hd.nil,b:=Hd.nil,c:=Hd.nil,d:=Hd.nil,e:=h.e,f:=h.f}))/\Below w.heap.size w w':=by
 obtain⟨k,t,s,pv,cm,n,pt,rd,wr,ps,pr,st⟩:=r;change k=1 at hk;subst hk;go_enter Tryz.func172,Tryz.ntmps172;go_upto_region 2 with (refine iO rfl 69 _ _ rfl (w.heap.size+1+1) _ rfl rfl aA _ _ ah ah ah ?_);go_frame;go_upto_region 25 with fail;go_wp2_with (first
  |(refine wpList_load_row rfl 69 _ rfl (w.heap.size+1+1) rfl _ _ (0,0) _ (aj.new' (g:=w.heap.size+1+1) _ _ aA) rfl rfl ah ?_)
  |(refine wpList_store_row rfl 69 _ _ rfl (w.heap.size+1) _ rfl rfl _ _ ((aj.new' (g:=w.heap.size+1) _ _ aA).alloc _) ah ah ah ?_))
 refine gJ rfl aI ((((aj.new' (g:=w.heap.size+1) _ _ aA).alloc _)).setRow _) rfl rfl ah ?_;exact⟨rfl,below_setRow aJ byOmega _⟩
theorem agO (r:Rc) (h:aV) (w:World) (hk:r.k=2):
 Calls Tryz.prog 172 #[.agg (r.vals h)] w fun e w'=>e=.returned (.agg (Rc.vals {k:=r.k,t:=⟨0,0,0⟩,s:=⟨0,0,0⟩,pv:=⟨0,0,0⟩,cm:=false,n:=r.n,pt:=0,rd:=[],wr:=[],ps:=[],pr:=[],st:=zeroS} {a:=Hd.nil,b:=Hd.nil,c:=Hd.nil,d:=Hd.nil,e:=Hd.nil,f:=Hd.nil}))/\Below w.heap.size w w':=by
 obtain⟨k,t,s,pv,cm,n,pt,rd,wr,ps,pr,st⟩:=r;change k=2 at hk;subst hk;go_enter Tryz.func172,Tryz.ntmps172;go_upto_region 2 with (refine iO rfl 69 _ _ rfl (w.heap.size+1+1) _ rfl rfl aA _ _ ah ah ah ?_);go_frame;go_upto_region 25 with fail;go_wp2_with (first
  |(refine wpList_load_row rfl 69 _ rfl (w.heap.size+1+1) rfl _ _ (0,0) _ (aj.new' (g:=w.heap.size+1+1) _ _ aA) rfl rfl ah ?_)
  |(refine wpList_store_row rfl 69 _ _ rfl (w.heap.size+1) _ rfl rfl _ _ ((aj.new' (g:=w.heap.size+1) _ _ aA).alloc _) ah ah ah ?_))
 refine gJ rfl aI ((((aj.new' (g:=w.heap.size+1) _ _ aA).alloc _)).setRow _) rfl rfl ah ?_;exact⟨rfl,below_setRow aJ byOmega _⟩
theorem agP (r:Rc) (h:aV) (w:World) (hk:r.k=3):
 Calls Tryz.prog 172 #[.agg (r.vals h)] w fun e w'=>e=.returned (.agg (Rc.vals {k:=r.k,t:=r.t,s:=r.s,pv:=⟨0,0,0⟩,cm:=false,n:=0,pt:=0,rd:=r.rd,wr:=r.wr,ps:=r.ps,pr:=[],st:=zeroS} {a:=h.a,b:=h.b,c:=h.c,d:=Hd.nil,e:=Hd.nil,f:=Hd.nil}))/\Below w.heap.size w w':=by
 obtain⟨k,t,s,pv,cm,n,pt,rd,wr,ps,pr,st⟩:=r;change k=3 at hk;subst hk;go_enter Tryz.func172,Tryz.ntmps172;go_upto_region 2 with (refine iO rfl 69 _ _ rfl (w.heap.size+1+1) _ rfl rfl aA _ _ ah ah ah ?_);go_frame;go_upto_region 10 with fail;go_region;go_upto_region 25 with fail;go_wp2_with (first
  |(refine wpList_load_row rfl 69 _ rfl (w.heap.size+1+1) rfl _ _ (0,0) _ (aj.new' (g:=w.heap.size+1+1) _ _ aA).drew rfl rfl ah ?_)
  |(refine wpList_store_row rfl 69 _ _ rfl (w.heap.size+1) _ rfl rfl _ _ ((aj.new' (g:=w.heap.size+1) _ _ aA).alloc _).drew ah ah ah ?_))
 refine gJ rfl aI ((((aj.new' (g:=w.heap.size+1) _ _ aA).alloc _).drew).setRow _) rfl rfl ah ?_;exact⟨rfl,below_setRow aJ byOmega _⟩
theorem agQ (r:Rc) (h:aV) (w:World) (hk:r.k=4):
 Calls Tryz.prog 172 #[.agg (r.vals h)] w fun e w'=>e=.returned (.agg (Rc.vals {k:=r.k,t:=r.t,s:=r.s,pv:=⟨0,0,0⟩,cm:=r.cm,n:=0,pt:=0,rd:=[],wr:=[],ps:=[],pr:=[],st:=zeroS} {a:=Hd.nil,b:=Hd.nil,c:=Hd.nil,d:=Hd.nil,e:=Hd.nil,f:=Hd.nil}))/\Below w.heap.size w w':=by
 obtain⟨k,t,s,pv,cm,n,pt,rd,wr,ps,pr,st⟩:=r;change k=4 at hk;subst hk;go_enter Tryz.func172,Tryz.ntmps172;go_upto_region 2 with (refine iO rfl 69 _ _ rfl (w.heap.size+1+1) _ rfl rfl aA _ _ ah ah ah ?_);go_frame;go_upto_region 12 with fail;go_region;go_upto_region 25 with fail;go_wp2_with (first
  |(refine wpList_load_row rfl 69 _ rfl (w.heap.size+1+1) rfl _ _ (0,0) _ (aj.new' (g:=w.heap.size+1+1) _ _ aA).drew rfl rfl ah ?_)
  |(refine wpList_store_row rfl 69 _ _ rfl (w.heap.size+1) _ rfl rfl _ _ ((aj.new' (g:=w.heap.size+1) _ _ aA).alloc _).drew ah ah ah ?_))
 refine gJ rfl aI ((((aj.new' (g:=w.heap.size+1) _ _ aA).alloc _).drew).setRow _) rfl rfl ah ?_;exact⟨rfl,below_setRow aJ byOmega _⟩
theorem agR (r:Rc) (h:aV) (w:World) (hk:r.k=5):
 Calls Tryz.prog 172 #[.agg (r.vals h)] w fun e w'=>e=.returned (.agg (Rc.vals {k:=r.k,t:=⟨0,0,0⟩,s:=r.s,pv:=⟨0,0,0⟩,cm:=false,n:=0,pt:=0,rd:=[],wr:=[],ps:=[],pr:=[],st:=zeroS} {a:=Hd.nil,b:=Hd.nil,c:=Hd.nil,d:=Hd.nil,e:=Hd.nil,f:=Hd.nil}))/\Below w.heap.size w w':=by
 obtain⟨k,t,s,pv,cm,n,pt,rd,wr,ps,pr,st⟩:=r;change k=5 at hk;subst hk;go_enter Tryz.func172,Tryz.ntmps172;go_upto_region 2 with (refine iO rfl 69 _ _ rfl (w.heap.size+1+1) _ rfl rfl aA _ _ ah ah ah ?_);go_frame;go_upto_region 25 with fail;go_wp2_with (first
  |(refine wpList_load_row rfl 69 _ rfl (w.heap.size+1+1) rfl _ _ (0,0) _ (aj.new' (g:=w.heap.size+1+1) _ _ aA) rfl rfl ah ?_)
  |(refine wpList_store_row rfl 69 _ _ rfl (w.heap.size+1) _ rfl rfl _ _ ((aj.new' (g:=w.heap.size+1) _ _ aA).alloc _) ah ah ah ?_))
 refine gJ rfl aI ((((aj.new' (g:=w.heap.size+1) _ _ aA).alloc _)).setRow _) rfl rfl ah ?_;exact⟨rfl,below_setRow aJ byOmega _⟩
theorem agS (r:Rc) (h:aV) (w:World) (hk:r.k=6):
 Calls Tryz.prog 172 #[.agg (r.vals h)] w fun e w'=>e=.returned (.agg (Rc.vals {k:=r.k,t:=⟨0,0,0⟩,s:=r.s,pv:=⟨0,0,0⟩,cm:=false,n:=r.n,pt:=r.pt,rd:=[],wr:=[],ps:=[],pr:=[],st:=zeroS} {a:=Hd.nil,b:=Hd.nil,c:=Hd.nil,d:=Hd.nil,e:=Hd.nil,f:=Hd.nil}))/\Below w.heap.size w w':=by
 obtain⟨k,t,s,pv,cm,n,pt,rd,wr,ps,pr,st⟩:=r;change k=6 at hk;subst hk;go_enter Tryz.func172,Tryz.ntmps172;go_upto_region 2 with (refine iO rfl 69 _ _ rfl (w.heap.size+1+1) _ rfl rfl aA _ _ ah ah ah ?_);go_frame;go_upto_region 16 with fail;go_region;go_upto_region 25 with fail;go_wp2_with (first
  |(refine wpList_load_row rfl 69 _ rfl (w.heap.size+1+1) rfl _ _ (0,0) _ (aj.new' (g:=w.heap.size+1+1) _ _ aA).drew rfl rfl ah ?_)
  |(refine wpList_store_row rfl 69 _ _ rfl (w.heap.size+1) _ rfl rfl _ _ ((aj.new' (g:=w.heap.size+1) _ _ aA).alloc _).drew ah ah ah ?_))
 refine gJ rfl aI ((((aj.new' (g:=w.heap.size+1) _ _ aA).alloc _).drew).setRow _) rfl rfl ah ?_;exact⟨rfl,below_setRow aJ byOmega _⟩
theorem agT (r:Rc) (h:aV) (w:World) (hk:r.k=7):
 Calls Tryz.prog 172 #[.agg (r.vals h)] w fun e w'=>e=.returned (.agg (Rc.vals {k:=r.k,t:=⟨0,0,0⟩,s:=⟨0,0,0⟩,pv:=⟨0,0,0⟩,cm:=false,n:=r.n,pt:=0,rd:=[],wr:=[],ps:=[],pr:=[],st:=zeroS} {a:=Hd.nil,b:=Hd.nil,c:=Hd.nil,d:=Hd.nil,e:=Hd.nil,f:=Hd.nil}))/\Below w.heap.size w w':=by
 obtain⟨k,t,s,pv,cm,n,pt,rd,wr,ps,pr,st⟩:=r;change k=7 at hk;subst hk;go_enter Tryz.func172,Tryz.ntmps172;go_upto_region 2 with (refine iO rfl 69 _ _ rfl (w.heap.size+1+1) _ rfl rfl aA _ _ ah ah ah ?_);go_frame;go_upto_region 25 with fail;go_wp2_with (first
  |(refine wpList_load_row rfl 69 _ rfl (w.heap.size+1+1) rfl _ _ (0,0) _ (aj.new' (g:=w.heap.size+1+1) _ _ aA) rfl rfl ah ?_)
  |(refine wpList_store_row rfl 69 _ _ rfl (w.heap.size+1) _ rfl rfl _ _ ((aj.new' (g:=w.heap.size+1) _ _ aA).alloc _) ah ah ah ?_))
 refine gJ rfl aI ((((aj.new' (g:=w.heap.size+1) _ _ aA).alloc _)).setRow _) rfl rfl ah ?_;exact⟨rfl,below_setRow aJ byOmega _⟩
theorem agU (r:Rc) (h:aV) (w:World) (hk:r.k=8):
 Calls Tryz.prog 172 #[.agg (r.vals h)] w fun e w'=>e=.returned (.agg (Rc.vals {k:=r.k,t:=⟨0,0,0⟩,s:=⟨0,0,0⟩,pv:=⟨0,0,0⟩,cm:=false,n:=r.n,pt:=0,rd:=[],wr:=[],ps:=[],pr:=[],st:=zeroS} {a:=Hd.nil,b:=Hd.nil,c:=Hd.nil,d:=Hd.nil,e:=Hd.nil,f:=Hd.nil}))/\Below w.heap.size w w':=by
 obtain⟨k,t,s,pv,cm,n,pt,rd,wr,ps,pr,st⟩:=r;change k=8 at hk;subst hk;go_enter Tryz.func172,Tryz.ntmps172;go_upto_region 2 with (refine iO rfl 69 _ _ rfl (w.heap.size+1+1) _ rfl rfl aA _ _ ah ah ah ?_);go_frame;go_upto_region 25 with fail;go_wp2_with (first
  |(refine wpList_load_row rfl 69 _ rfl (w.heap.size+1+1) rfl _ _ (0,0) _ (aj.new' (g:=w.heap.size+1+1) _ _ aA) rfl rfl ah ?_)
  |(refine wpList_store_row rfl 69 _ _ rfl (w.heap.size+1) _ rfl rfl _ _ ((aj.new' (g:=w.heap.size+1) _ _ aA).alloc _) ah ah ah ?_))
 refine gJ rfl aI ((((aj.new' (g:=w.heap.size+1) _ _ aA).alloc _)).setRow _) rfl rfl ah ?_;exact⟨rfl,below_setRow aJ byOmega _⟩
theorem agV (r:Rc) (h:aV) (w:World) (hk:r.k=9):
 Calls Tryz.prog 172 #[.agg (r.vals h)] w fun e w'=>e=.returned (.agg (Rc.vals {k:=r.k,t:=r.t,s:=r.s,pv:=⟨0,0,0⟩,cm:=false,n:=0,pt:=0,rd:=[],wr:=[],ps:=r.ps,pr:=[],st:=zeroS} {a:=Hd.nil,b:=Hd.nil,c:=h.c,d:=Hd.nil,e:=Hd.nil,f:=Hd.nil}))/\Below w.heap.size w w':=by
 obtain⟨k,t,s,pv,cm,n,pt,rd,wr,ps,pr,st⟩:=r;change k=9 at hk;subst hk;go_enter Tryz.func172,Tryz.ntmps172;go_upto_region 2 with (refine iO rfl 69 _ _ rfl (w.heap.size+1+1) _ rfl rfl aA _ _ ah ah ah ?_);go_frame;go_upto_region 18 with fail;go_region;go_upto_region 25 with fail;go_wp2_with (first
  |(refine wpList_load_row rfl 69 _ rfl (w.heap.size+1+1) rfl _ _ (0,0) _ (aj.new' (g:=w.heap.size+1+1) _ _ aA).drew rfl rfl ah ?_)
  |(refine wpList_store_row rfl 69 _ _ rfl (w.heap.size+1) _ rfl rfl _ _ ((aj.new' (g:=w.heap.size+1) _ _ aA).alloc _).drew ah ah ah ?_))
 refine gJ rfl aI ((((aj.new' (g:=w.heap.size+1) _ _ aA).alloc _).drew).setRow _) rfl rfl ah ?_;exact⟨rfl,below_setRow aJ byOmega _⟩
theorem agW (r:Rc) (h:aV) (w:World) (hk:r.k=10):
 Calls Tryz.prog 172 #[.agg (r.vals h)] w fun e w'=>e=.returned (.agg (Rc.vals {k:=r.k,t:=r.t,s:=⟨0,0,0⟩,pv:=⟨0,0,0⟩,cm:=false,n:=0,pt:=0,rd:=[],wr:=[],ps:=[],pr:=[],st:=zeroS} {a:=Hd.nil,b:=Hd.nil,c:=Hd.nil,d:=Hd.nil,e:=Hd.nil,f:=Hd.nil}))/\Below w.heap.size w w':=by
 obtain⟨k,t,s,pv,cm,n,pt,rd,wr,ps,pr,st⟩:=r;change k=10 at hk;subst hk;go_enter Tryz.func172,Tryz.ntmps172;go_upto_region 2 with (refine iO rfl 69 _ _ rfl (w.heap.size+1+1) _ rfl rfl aA _ _ ah ah ah ?_);go_frame;go_upto_region 25 with fail;go_wp2_with (first
  |(refine wpList_load_row rfl 69 _ rfl (w.heap.size+1+1) rfl _ _ (0,0) _ (aj.new' (g:=w.heap.size+1+1) _ _ aA) rfl rfl ah ?_)
  |(refine wpList_store_row rfl 69 _ _ rfl (w.heap.size+1) _ rfl rfl _ _ ((aj.new' (g:=w.heap.size+1) _ _ aA).alloc _) ah ah ah ?_))
 refine gJ rfl aI ((((aj.new' (g:=w.heap.size+1) _ _ aA).alloc _)).setRow _) rfl rfl ah ?_;exact⟨rfl,below_setRow aJ byOmega _⟩
theorem agX (r:Rc) (h:aV) (w:World) (hk:r.k=11):
 Calls Tryz.prog 172 #[.agg (r.vals h)] w fun e w'=>e=.returned (.agg (Rc.vals {k:=r.k,t:=r.t,s:=r.s,pv:=r.pv,cm:=false,n:=0,pt:=0,rd:=[],wr:=r.wr,ps:=[],pr:=[],st:=zeroS} {a:=Hd.nil,b:=h.b,c:=Hd.nil,d:=Hd.nil,e:=Hd.nil,f:=Hd.nil}))/\Below w.heap.size w w':=by
 obtain⟨k,t,s,pv,cm,n,pt,rd,wr,ps,pr,st⟩:=r;change k=11 at hk;subst hk;go_enter Tryz.func172,Tryz.ntmps172;go_upto_region 2 with (refine iO rfl 69 _ _ rfl (w.heap.size+1+1) _ rfl rfl aA _ _ ah ah ah ?_);go_frame;go_upto_region 22 with fail;go_region;go_upto_region 25 with fail;go_wp2_with (first
  |(refine wpList_load_row rfl 69 _ rfl (w.heap.size+1+1) rfl _ _ (0,0) _ (aj.new' (g:=w.heap.size+1+1) _ _ aA).drew rfl rfl ah ?_)
  |(refine wpList_store_row rfl 69 _ _ rfl (w.heap.size+1) _ rfl rfl _ _ ((aj.new' (g:=w.heap.size+1) _ _ aA).alloc _).drew ah ah ah ?_))
 refine gJ rfl aI ((((aj.new' (g:=w.heap.size+1) _ _ aA).alloc _).drew).setRow _) rfl rfl ah ?_;exact⟨rfl,below_setRow aJ byOmega _⟩
theorem agY (r:Rc) (h:aV) (w:World) (hk:r.k=12):
 Calls Tryz.prog 172 #[.agg (r.vals h)] w fun e w'=>e=.returned (.agg (Rc.vals {k:=r.k,t:=⟨0,0,0⟩,s:=r.s,pv:=⟨0,0,0⟩,cm:=false,n:=0,pt:=0,rd:=[],wr:=[],ps:=[],pr:=r.pr,st:=zeroS} {a:=Hd.nil,b:=Hd.nil,c:=Hd.nil,d:=h.d,e:=Hd.nil,f:=Hd.nil}))/\Below w.heap.size w w':=by
 obtain⟨k,t,s,pv,cm,n,pt,rd,wr,ps,pr,st⟩:=r;change k=12 at hk;subst hk;go_enter Tryz.func172,Tryz.ntmps172;go_upto_region 2 with (refine iO rfl 69 _ _ rfl (w.heap.size+1+1) _ rfl rfl aA _ _ ah ah ah ?_);go_frame;go_upto_region 24 with fail;go_region;go_upto_region 25 with fail;go_wp2_with (first
  |(refine wpList_load_row rfl 69 _ rfl (w.heap.size+1+1) rfl _ _ (0,0) _ (aj.new' (g:=w.heap.size+1+1) _ _ aA).drew rfl rfl ah ?_)
  |(refine wpList_store_row rfl 69 _ _ rfl (w.heap.size+1) _ rfl rfl _ _ ((aj.new' (g:=w.heap.size+1) _ _ aA).alloc _).drew ah ah ah ?_))
 refine gJ rfl aI ((((aj.new' (g:=w.heap.size+1) _ _ aA).alloc _).drew).setRow _) rfl rfl ah ?_;exact⟨rfl,below_setRow aJ byOmega _⟩
theorem agZ (r:Rc) (h:aV) (w:World) (hk:gy r.k=true):
 Calls Tryz.prog 172 #[.agg (r.vals h)] w fun e w'=>e=.returned (.agg ((iy r).vals (fJ r.k h)))/\Below w.heap.size w w':=by
 unfold gy at hk;rw[decide_eq_true_eq]at hk;have hc:r.k=1∨r.k=2∨r.k=3∨r.k=4∨r.k=5∨r.k=6∨r.k=7∨r.k=8∨r.k=9∨r.k=10∨r.k=11∨r.k=12:=byOmega;rcases hc with e|e|e|e|e|e|e|e|e|e|e|e
 · have e1:iy r={k:=r.k,t:=⟨0,0,0⟩,s:=⟨0,0,0⟩,pv:=⟨0,0,0⟩,cm:=false,n:=0,pt:=0,rd:=[],wr:=[],ps:=[],pr:=[],st:=r.st}:=(by unfold iy;simp[e]);have e2:fJ r.k h={a:=Hd.nil,b:=Hd.nil,c:=Hd.nil,d:=Hd.nil,e:=h.e,f:=h.f}:=(by unfold fJ;simp[e]);rw[e1,e2];exact agN r h w e
 · have e1:iy r={k:=r.k,t:=⟨0,0,0⟩,s:=⟨0,0,0⟩,pv:=⟨0,0,0⟩,cm:=false,n:=r.n,pt:=0,rd:=[],wr:=[],ps:=[],pr:=[],st:=zeroS}:=(by unfold iy;simp[e]);have e2:fJ r.k h={a:=Hd.nil,b:=Hd.nil,c:=Hd.nil,d:=Hd.nil,e:=Hd.nil,f:=Hd.nil}:=(by unfold fJ;simp[e]);rw[e1,e2];exact agO r h w e
 · have e1:iy r={k:=r.k,t:=r.t,s:=r.s,pv:=⟨0,0,0⟩,cm:=false,n:=0,pt:=0,rd:=r.rd,wr:=r.wr,ps:=r.ps,pr:=[],st:=zeroS}:=(by unfold iy;simp[e]);have e2:fJ r.k h={a:=h.a,b:=h.b,c:=h.c,d:=Hd.nil,e:=Hd.nil,f:=Hd.nil}:=(by unfold fJ;simp[e]);rw[e1,e2];exact agP r h w e
 · have e1:iy r={k:=r.k,t:=r.t,s:=r.s,pv:=⟨0,0,0⟩,cm:=r.cm,n:=0,pt:=0,rd:=[],wr:=[],ps:=[],pr:=[],st:=zeroS}:=(by unfold iy;simp[e]);have e2:fJ r.k h={a:=Hd.nil,b:=Hd.nil,c:=Hd.nil,d:=Hd.nil,e:=Hd.nil,f:=Hd.nil}:=(by unfold fJ;simp[e]);rw[e1,e2];exact agQ r h w e
 · have e1:iy r={k:=r.k,t:=⟨0,0,0⟩,s:=r.s,pv:=⟨0,0,0⟩,cm:=false,n:=0,pt:=0,rd:=[],wr:=[],ps:=[],pr:=[],st:=zeroS}:=(by unfold iy;simp[e]);have e2:fJ r.k h={a:=Hd.nil,b:=Hd.nil,c:=Hd.nil,d:=Hd.nil,e:=Hd.nil,f:=Hd.nil}:=(by unfold fJ;simp[e]);rw[e1,e2];exact agR r h w e
 · have e1:iy r={k:=r.k,t:=⟨0,0,0⟩,s:=r.s,pv:=⟨0,0,0⟩,cm:=false,n:=r.n,pt:=r.pt,rd:=[],wr:=[],ps:=[],pr:=[],st:=zeroS}:=(by unfold iy;simp[e]);have e2:fJ r.k h={a:=Hd.nil,b:=Hd.nil,c:=Hd.nil,d:=Hd.nil,e:=Hd.nil,f:=Hd.nil}:=(by unfold fJ;simp[e]);rw[e1,e2];exact agS r h w e
 · have e1:iy r={k:=r.k,t:=⟨0,0,0⟩,s:=⟨0,0,0⟩,pv:=⟨0,0,0⟩,cm:=false,n:=r.n,pt:=0,rd:=[],wr:=[],ps:=[],pr:=[],st:=zeroS}:=(by unfold iy;simp[e]);have e2:fJ r.k h={a:=Hd.nil,b:=Hd.nil,c:=Hd.nil,d:=Hd.nil,e:=Hd.nil,f:=Hd.nil}:=(by unfold fJ;simp[e]);rw[e1,e2];exact agT r h w e
 · have e1:iy r={k:=r.k,t:=⟨0,0,0⟩,s:=⟨0,0,0⟩,pv:=⟨0,0,0⟩,cm:=false,n:=r.n,pt:=0,rd:=[],wr:=[],ps:=[],pr:=[],st:=zeroS}:=(by unfold iy;simp[e]);have e2:fJ r.k h={a:=Hd.nil,b:=Hd.nil,c:=Hd.nil,d:=Hd.nil,e:=Hd.nil,f:=Hd.nil}:=(by unfold fJ;simp[e]);rw[e1,e2];exact agU r h w e
 · have e1:iy r={k:=r.k,t:=r.t,s:=r.s,pv:=⟨0,0,0⟩,cm:=false,n:=0,pt:=0,rd:=[],wr:=[],ps:=r.ps,pr:=[],st:=zeroS}:=(by unfold iy;simp[e]);have e2:fJ r.k h={a:=Hd.nil,b:=Hd.nil,c:=h.c,d:=Hd.nil,e:=Hd.nil,f:=Hd.nil}:=(by unfold fJ;simp[e]);rw[e1,e2];exact agV r h w e
 · have e1:iy r={k:=r.k,t:=r.t,s:=⟨0,0,0⟩,pv:=⟨0,0,0⟩,cm:=false,n:=0,pt:=0,rd:=[],wr:=[],ps:=[],pr:=[],st:=zeroS}:=(by unfold iy;simp[e]);have e2:fJ r.k h={a:=Hd.nil,b:=Hd.nil,c:=Hd.nil,d:=Hd.nil,e:=Hd.nil,f:=Hd.nil}:=(by unfold fJ;simp[e]);rw[e1,e2];exact agW r h w e
 · have e1:iy r={k:=r.k,t:=r.t,s:=r.s,pv:=r.pv,cm:=false,n:=0,pt:=0,rd:=[],wr:=r.wr,ps:=[],pr:=[],st:=zeroS}:=(by unfold iy;simp[e]);have e2:fJ r.k h={a:=Hd.nil,b:=h.b,c:=Hd.nil,d:=Hd.nil,e:=Hd.nil,f:=Hd.nil}:=(by unfold fJ;simp[e]);rw[e1,e2];exact agX r h w e
 · have e1:iy r={k:=r.k,t:=⟨0,0,0⟩,s:=r.s,pv:=⟨0,0,0⟩,cm:=false,n:=0,pt:=0,rd:=[],wr:=[],ps:=[],pr:=r.pr,st:=zeroS}:=(by unfold iy;simp[e]);have e2:fJ r.k h={a:=Hd.nil,b:=Hd.nil,c:=Hd.nil,d:=h.d,e:=Hd.nil,f:=Hd.nil}:=(by unfold fJ;simp[e]);rw[e1,e2];exact agY r h w e
