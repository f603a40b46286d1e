/- The walks of recs' zeroState, zero, without. -/
import Derived.Test.YthdmanadhbpogaaGreatDaag
namespace Go.Proofs.YthdmanadhbpogaaGreat
set_option maxHeartbeats 8000000
set_option maxRecDepth 100000
set_option linter.unusedVariables false
open Go.RowKit Fl
attribute [local go_sem] run_store_float
def Stt.zeroB (s:Stt):Bool:=(s.r.id==0)&&(s.r.ep==0)&&((s.r.lo:Int)==0)&&((s.r.hi:Int)==0)&&s.f.zero&&s.c.zero&&((s.h.length:Int)==0)&&((s.p.length:Int)==0)
theorem zeroState_any (s:Stt) (A1 A2:Option Addr) (n1 n2 c1 c2:Nat) (w:World) (h1:s.h.length=n1) (h2:s.p.length=n2):
 Calls Tryz.prog 89 #[.agg (s.arr (.slice A1 n1 c1) (.slice A2 n2 c2))] w fun e w'=>e=.returned (.bool s.zeroB)∧Below w.heap.size w w':=by
 have z1:=fun w=>zero_run s.f w
 have z2:=fun w=>zero_run s.c w
 have HZ:=Lib.hid (show s.zeroB=((s.r.id==0)&&(s.r.ep==0)&&((s.r.lo:Int)==0)&&((s.r.hi:Int)==0)&&s.f.zero&&s.c.zero&&((n1:Int)==0)&&((n2:Int)==0)) by unfold Stt.zeroB;rw[h1,h2])
 clear h1 h2
 generalize s.f.zero=b1 at*
 generalize s.c.zero=b2 at*
 go_enter Tryz.func89,Tryz.ntmps89
 go_wp2
 all_goals go_ret
 all_goals refine⟨ret_bool ?_,by go_grown⟩
 all_goals rw[HZ.out]
 all_goals simp_all
def Rc.zeroB (r:Rc):Bool:=decide (r.t=⟨0,0,0⟩)&&r.s.zero&&r.pv.zero&& !r.cm&&(r.n==0)&&((r.pt:Int)==0)&&((r.rd.length:Int)==0)&&((r.wr.length:Int)==0)&&((r.ps.length:Int)==0)&&((r.pr.length:Int)==0)&&r.st.zeroB
theorem zero_any (r:Rc) (h:Hds) (w:World) (h1:r.rd.length=h.a.n) (h2:r.wr.length=h.b.n) (h3:r.ps.length=h.c.n) (h4:r.pr.length=h.d.n) (h5:r.st.h.length=h.e.n) (h6:r.st.p.length=h.f.n):
 Calls Tryz.prog 42 #[.agg (r.vals h)] w fun e w'=>e=.returned (.bool r.zeroB)∧Below w.heap.size w w':=by
 have z0:=fun w=>txn_run r.t ⟨0,0,0⟩ w
 have z1:=fun w=>zero_run r.s w
 have z2:=fun w=>zero_run r.pv w
 have hS:=fun w=>zeroState_any r.st h.e.A h.f.A h.e.n h.f.n h.e.c h.f.c w h5 h6
 have HZ:=Lib.hid (show r.zeroB=(decide (r.t=⟨0,0,0⟩)&&r.s.zero&&r.pv.zero&& !r.cm&&(r.n==0)&&((r.pt:Int)==0)&&((h.a.n:Int)==0)&&((h.b.n:Int)==0)&&((h.c.n:Int)==0)&&((h.d.n:Int)==0)&&r.st.zeroB) by unfold Rc.zeroB;rw[h1,h2,h3,h4])
 clear h1 h2 h3 h4 h5 h6
 generalize decide (r.t=⟨0,0,0⟩)=b0 at*
 generalize r.s.zero=b1 at*
 generalize r.pv.zero=b2 at*
 generalize r.st.zeroB=b3 at*
 have hX:Below w.heap.size w (w.alloc (.cells (r.vals h) 38)):=by go_grown
 go_enter Tryz.func42,Tryz.ntmps42
 go_wp2_with ((with_reducible refine(hS _).mono ?_);rintro e w1 ⟨rfl,hb1⟩)
 all_goals go_ret
 all_goals refine⟨ret_bool ?_,by first|exact hX|exact hX.trans (hb1.mono hX.size)⟩
 all_goals rw[HZ.out]
 all_goals simp_all
def zeroS:Stt:=⟨⟨0,0,0,0⟩,⟨0,0,0⟩,⟨0,0,0⟩,[],[]⟩
def wipe (r:Rc):Rc:=
 if r.k=1 then {r with st:=zeroS} else
 if r.k=2 then {r with n:=0} else
 if r.k=3 then {r with t:=⟨0,0,0⟩,s:=⟨0,0,0⟩,rd:=[],wr:=[],ps:=[]} else
 if r.k=4 then {r with t:=⟨0,0,0⟩,cm:=false,s:=⟨0,0,0⟩} else
 if r.k=5 then {r with s:=⟨0,0,0⟩} else
 if r.k=6 then {r with pt:=0,n:=0,s:=⟨0,0,0⟩} else
 if r.k=7 then {r with n:=0} else
 if r.k=8 then {r with n:=0} else
 if r.k=9 then {r with t:=⟨0,0,0⟩,s:=⟨0,0,0⟩,ps:=[]} else
 if r.k=10 then {r with t:=⟨0,0,0⟩} else
 if r.k=11 then {r with pv:=⟨0,0,0⟩,s:=⟨0,0,0⟩,t:=⟨0,0,0⟩,wr:=[]} else
 if r.k=12 then {r with s:=⟨0,0,0⟩,pr:=[]} else
 r
def wipeH (k:Int) (h:Hds):Hds:=
 if k=1 then {h with e:=Hd.nil,f:=Hd.nil} else
 if k=3 then {h with a:=Hd.nil,b:=Hd.nil,c:=Hd.nil} else
 if k=9 then {h with c:=Hd.nil} else
 if k=11 then {h with b:=Hd.nil} else
 if k=12 then {h with d:=Hd.nil} else
 h
theorem wpList_store_second {P:Program} {ops:Array Oper} {rest:List Oper} {o:Oper} {a:Act} {w:World} {Q:Exit→Act→World→Prop} (hgd:o.guard=none) (ty:TypeId) (x y:Operand) (ho:o.op=.store ty x y)
 (cells:Array Value) (hx:a.eval x=.pointer (some ⟨w.heap.size+1,0,none⟩)) (hy:a.eval y=.agg cells)
 (t:TypeId) (old:Array Value) (ob:Obj) (hi:(P.info? ty).map (·.size)=some cells.size)
 (hold:old.size=cells.size) (h1:cells.all (·.oneCell')=true)
 (h:wpList P ops Q rest (a.put o.dst undef) ((w.alloc ob).alloc (.cells cells t))):wpList P ops Q (o::rest) a ((w.alloc ob).alloc (.cells old t)):=by
 have hs:(w.alloc ob).heap.size=w.heap.size+1:=by simp
 exact wpList_store_new hgd ty x y ho cells (by rw[hs];exact hx) hy t old hi hold h1 h
def kindB (k:Int):Bool:=decide (1≤k∧k≤12)
theorem without_1 (r:Rc) (h:Hds) (w:World) (hk:r.k=1):
 Calls Tryz.prog 41 #[.agg (r.vals h)] w fun e w'=>e=.returned (.tuple #[.agg (({r with st:=zeroS}:Rc).vals {h with e:=Hd.nil,f:=Hd.nil}),.bool true])∧Below w.heap.size w w':=by
 obtain⟨k,t,s,pv,cm,n,pt,rd,wr,ps,pr,st⟩:=r
 change k=1 at hk
 subst hk
 go_enter Tryz.func41,Tryz.ntmps41
 go_upto_region 25 with fail
 go_wp2_with (first
  |(refine wpList_load_row rfl 38 _ rfl _ rfl _ _ (0,0) _ ((Blk.new _ _ _).alloc _) rfl rfl (by kernel_rfl) ?_)
  |(refine wpList_store_second rfl 38 _ _ rfl _ rfl rfl _ _ _ (by kernel_rfl) (by kernel_rfl) (by kernel_rfl) ?_))
 refine post_cell_tmp rfl (by rfl) (Blk.new' (g:=w.heap.size+1) _ _ (by simp)) rfl rfl (by kernel_rfl) ?_
 exact⟨rfl,by go_grown⟩
theorem without_2 (r:Rc) (h:Hds) (w:World) (hk:r.k=2):
 Calls Tryz.prog 41 #[.agg (r.vals h)] w fun e w'=>e=.returned (.tuple #[.agg (({r with n:=0}:Rc).vals h),.bool true])∧Below w.heap.size w w':=by
 obtain⟨k,t,s,pv,cm,n,pt,rd,wr,ps,pr,st⟩:=r
 change k=2 at hk
 subst hk
 go_enter Tryz.func41,Tryz.ntmps41
 go_upto_region 25 with fail
 go_wp2_with (first
  |(refine wpList_load_row rfl 38 _ rfl _ rfl _ _ (0,0) _ ((Blk.new _ _ _).alloc _) rfl rfl (by kernel_rfl) ?_)
  |(refine wpList_store_second rfl 38 _ _ rfl _ rfl rfl _ _ _ (by kernel_rfl) (by kernel_rfl) (by kernel_rfl) ?_))
 refine post_cell_tmp rfl (by rfl) (Blk.new' (g:=w.heap.size+1) _ _ (by simp)) rfl rfl (by kernel_rfl) ?_
 exact⟨rfl,by go_grown⟩
theorem without_3 (r:Rc) (h:Hds) (w:World) (hk:r.k=3):
 Calls Tryz.prog 41 #[.agg (r.vals h)] w fun e w'=>e=.returned (.tuple #[.agg (({r with t:=⟨0,0,0⟩,s:=⟨0,0,0⟩,rd:=[],wr:=[],ps:=[]}:Rc).vals {h with a:=Hd.nil,b:=Hd.nil,c:=Hd.nil}),.bool true])∧Below w.heap.size w w':=by
 obtain⟨k,t,s,pv,cm,n,pt,rd,wr,ps,pr,st⟩:=r
 change k=3 at hk
 subst hk
 go_enter Tryz.func41,Tryz.ntmps41
 go_upto_region 25 with fail
 go_wp2_with (first
  |(refine wpList_load_row rfl 38 _ rfl _ rfl _ _ (0,0) _ ((Blk.new _ _ _).alloc _) rfl rfl (by kernel_rfl) ?_)
  |(refine wpList_store_second rfl 38 _ _ rfl _ rfl rfl _ _ _ (by kernel_rfl) (by kernel_rfl) (by kernel_rfl) ?_))
 refine post_cell_tmp rfl (by rfl) (Blk.new' (g:=w.heap.size+1) _ _ (by simp)) rfl rfl (by kernel_rfl) ?_
 exact⟨rfl,by go_grown⟩
theorem without_4 (r:Rc) (h:Hds) (w:World) (hk:r.k=4):
 Calls Tryz.prog 41 #[.agg (r.vals h)] w fun e w'=>e=.returned (.tuple #[.agg (({r with t:=⟨0,0,0⟩,cm:=false,s:=⟨0,0,0⟩}:Rc).vals h),.bool true])∧Below w.heap.size w w':=by
 obtain⟨k,t,s,pv,cm,n,pt,rd,wr,ps,pr,st⟩:=r
 change k=4 at hk
 subst hk
 go_enter Tryz.func41,Tryz.ntmps41
 go_upto_region 25 with fail
 go_wp2_with (first
  |(refine wpList_load_row rfl 38 _ rfl _ rfl _ _ (0,0) _ ((Blk.new _ _ _).alloc _) rfl rfl (by kernel_rfl) ?_)
  |(refine wpList_store_second rfl 38 _ _ rfl _ rfl rfl _ _ _ (by kernel_rfl) (by kernel_rfl) (by kernel_rfl) ?_))
 refine post_cell_tmp rfl (by rfl) (Blk.new' (g:=w.heap.size+1) _ _ (by simp)) rfl rfl (by kernel_rfl) ?_
 exact⟨rfl,by go_grown⟩
theorem without_5 (r:Rc) (h:Hds) (w:World) (hk:r.k=5):
 Calls Tryz.prog 41 #[.agg (r.vals h)] w fun e w'=>e=.returned (.tuple #[.agg (({r with s:=⟨0,0,0⟩}:Rc).vals h),.bool true])∧Below w.heap.size w w':=by
 obtain⟨k,t,s,pv,cm,n,pt,rd,wr,ps,pr,st⟩:=r
 change k=5 at hk
 subst hk
 go_enter Tryz.func41,Tryz.ntmps41
 go_upto_region 25 with fail
 go_wp2_with (first
  |(refine wpList_load_row rfl 38 _ rfl _ rfl _ _ (0,0) _ ((Blk.new _ _ _).alloc _) rfl rfl (by kernel_rfl) ?_)
  |(refine wpList_store_second rfl 38 _ _ rfl _ rfl rfl _ _ _ (by kernel_rfl) (by kernel_rfl) (by kernel_rfl) ?_))
 refine post_cell_tmp rfl (by rfl) (Blk.new' (g:=w.heap.size+1) _ _ (by simp)) rfl rfl (by kernel_rfl) ?_
 exact⟨rfl,by go_grown⟩
theorem without_6 (r:Rc) (h:Hds) (w:World) (hk:r.k=6):
 Calls Tryz.prog 41 #[.agg (r.vals h)] w fun e w'=>e=.returned (.tuple #[.agg (({r with pt:=0,n:=0,s:=⟨0,0,0⟩}:Rc).vals h),.bool true])∧Below w.heap.size w w':=by
 obtain⟨k,t,s,pv,cm,n,pt,rd,wr,ps,pr,st⟩:=r
 change k=6 at hk
 subst hk
 go_enter Tryz.func41,Tryz.ntmps41
 go_upto_region 25 with fail
 go_wp2_with (first
  |(refine wpList_load_row rfl 38 _ rfl _ rfl _ _ (0,0) _ ((Blk.new _ _ _).alloc _) rfl rfl (by kernel_rfl) ?_)
  |(refine wpList_store_second rfl 38 _ _ rfl _ rfl rfl _ _ _ (by kernel_rfl) (by kernel_rfl) (by kernel_rfl) ?_))
 refine post_cell_tmp rfl (by rfl) (Blk.new' (g:=w.heap.size+1) _ _ (by simp)) rfl rfl (by kernel_rfl) ?_
 exact⟨rfl,by go_grown⟩
theorem without_7 (r:Rc) (h:Hds) (w:World) (hk:r.k=7):
 Calls Tryz.prog 41 #[.agg (r.vals h)] w fun e w'=>e=.returned (.tuple #[.agg (({r with n:=0}:Rc).vals h),.bool true])∧Below w.heap.size w w':=by
 obtain⟨k,t,s,pv,cm,n,pt,rd,wr,ps,pr,st⟩:=r
 change k=7 at hk
 subst hk
 go_enter Tryz.func41,Tryz.ntmps41
 go_upto_region 25 with fail
 go_wp2_with (first
  |(refine wpList_load_row rfl 38 _ rfl _ rfl _ _ (0,0) _ ((Blk.new _ _ _).alloc _) rfl rfl (by kernel_rfl) ?_)
  |(refine wpList_store_second rfl 38 _ _ rfl _ rfl rfl _ _ _ (by kernel_rfl) (by kernel_rfl) (by kernel_rfl) ?_))
 refine post_cell_tmp rfl (by rfl) (Blk.new' (g:=w.heap.size+1) _ _ (by simp)) rfl rfl (by kernel_rfl) ?_
 exact⟨rfl,by go_grown⟩
theorem without_8 (r:Rc) (h:Hds) (w:World) (hk:r.k=8):
 Calls Tryz.prog 41 #[.agg (r.vals h)] w fun e w'=>e=.returned (.tuple #[.agg (({r with n:=0}:Rc).vals h),.bool true])∧Below w.heap.size w w':=by
 obtain⟨k,t,s,pv,cm,n,pt,rd,wr,ps,pr,st⟩:=r
 change k=8 at hk
 subst hk
 go_enter Tryz.func41,Tryz.ntmps41
 go_upto_region 25 with fail
 go_wp2_with (first
  |(refine wpList_load_row rfl 38 _ rfl _ rfl _ _ (0,0) _ ((Blk.new _ _ _).alloc _) rfl rfl (by kernel_rfl) ?_)
  |(refine wpList_store_second rfl 38 _ _ rfl _ rfl rfl _ _ _ (by kernel_rfl) (by kernel_rfl) (by kernel_rfl) ?_))
 refine post_cell_tmp rfl (by rfl) (Blk.new' (g:=w.heap.size+1) _ _ (by simp)) rfl rfl (by kernel_rfl) ?_
 exact⟨rfl,by go_grown⟩
theorem without_9 (r:Rc) (h:Hds) (w:World) (hk:r.k=9):
 Calls Tryz.prog 41 #[.agg (r.vals h)] w fun e w'=>e=.returned (.tuple #[.agg (({r with t:=⟨0,0,0⟩,s:=⟨0,0,0⟩,ps:=[]}:Rc).vals {h with c:=Hd.nil}),.bool true])∧Below w.heap.size w w':=by
 obtain⟨k,t,s,pv,cm,n,pt,rd,wr,ps,pr,st⟩:=r
 change k=9 at hk
 subst hk
 go_enter Tryz.func41,Tryz.ntmps41
 go_upto_region 25 with fail
 go_wp2_with (first
  |(refine wpList_load_row rfl 38 _ rfl _ rfl _ _ (0,0) _ ((Blk.new _ _ _).alloc _) rfl rfl (by kernel_rfl) ?_)
  |(refine wpList_store_second rfl 38 _ _ rfl _ rfl rfl _ _ _ (by kernel_rfl) (by kernel_rfl) (by kernel_rfl) ?_))
 refine post_cell_tmp rfl (by rfl) (Blk.new' (g:=w.heap.size+1) _ _ (by simp)) rfl rfl (by kernel_rfl) ?_
 exact⟨rfl,by go_grown⟩
theorem without_10 (r:Rc) (h:Hds) (w:World) (hk:r.k=10):
 Calls Tryz.prog 41 #[.agg (r.vals h)] w fun e w'=>e=.returned (.tuple #[.agg (({r with t:=⟨0,0,0⟩}:Rc).vals h),.bool true])∧Below w.heap.size w w':=by
 obtain⟨k,t,s,pv,cm,n,pt,rd,wr,ps,pr,st⟩:=r
 change k=10 at hk
 subst hk
 go_enter Tryz.func41,Tryz.ntmps41
 go_upto_region 25 with fail
 go_wp2_with (first
  |(refine wpList_load_row rfl 38 _ rfl _ rfl _ _ (0,0) _ ((Blk.new _ _ _).alloc _) rfl rfl (by kernel_rfl) ?_)
  |(refine wpList_store_second rfl 38 _ _ rfl _ rfl rfl _ _ _ (by kernel_rfl) (by kernel_rfl) (by kernel_rfl) ?_))
 refine post_cell_tmp rfl (by rfl) (Blk.new' (g:=w.heap.size+1) _ _ (by simp)) rfl rfl (by kernel_rfl) ?_
 exact⟨rfl,by go_grown⟩
theorem without_11 (r:Rc) (h:Hds) (w:World) (hk:r.k=11):
 Calls Tryz.prog 41 #[.agg (r.vals h)] w fun e w'=>e=.returned (.tuple #[.agg (({r with pv:=⟨0,0,0⟩,s:=⟨0,0,0⟩,t:=⟨0,0,0⟩,wr:=[]}:Rc).vals {h with b:=Hd.nil}),.bool true])∧Below w.heap.size w w':=by
 obtain⟨k,t,s,pv,cm,n,pt,rd,wr,ps,pr,st⟩:=r
 change k=11 at hk
 subst hk
 go_enter Tryz.func41,Tryz.ntmps41
 go_upto_region 25 with fail
 go_wp2_with (first
  |(refine wpList_load_row rfl 38 _ rfl _ rfl _ _ (0,0) _ ((Blk.new _ _ _).alloc _) rfl rfl (by kernel_rfl) ?_)
  |(refine wpList_store_second rfl 38 _ _ rfl _ rfl rfl _ _ _ (by kernel_rfl) (by kernel_rfl) (by kernel_rfl) ?_))
 refine post_cell_tmp rfl (by rfl) (Blk.new' (g:=w.heap.size+1) _ _ (by simp)) rfl rfl (by kernel_rfl) ?_
 exact⟨rfl,by go_grown⟩
theorem without_12 (r:Rc) (h:Hds) (w:World) (hk:r.k=12):
 Calls Tryz.prog 41 #[.agg (r.vals h)] w fun e w'=>e=.returned (.tuple #[.agg (({r with s:=⟨0,0,0⟩,pr:=[]}:Rc).vals {h with d:=Hd.nil}),.bool true])∧Below w.heap.size w w':=by
 obtain⟨k,t,s,pv,cm,n,pt,rd,wr,ps,pr,st⟩:=r
 change k=12 at hk
 subst hk
 go_enter Tryz.func41,Tryz.ntmps41
 go_upto_region 25 with fail
 go_wp2_with (first
  |(refine wpList_load_row rfl 38 _ rfl _ rfl _ _ (0,0) _ ((Blk.new _ _ _).alloc _) rfl rfl (by kernel_rfl) ?_)
  |(refine wpList_store_second rfl 38 _ _ rfl _ rfl rfl _ _ _ (by kernel_rfl) (by kernel_rfl) (by kernel_rfl) ?_))
 refine post_cell_tmp rfl (by rfl) (Blk.new' (g:=w.heap.size+1) _ _ (by simp)) rfl rfl (by kernel_rfl) ?_
 exact⟨rfl,by go_grown⟩
theorem without_0 (r:Rc) (h:Hds) (w:World) (hk:kindB r.k=false):
 Calls Tryz.prog 41 #[.agg (r.vals h)] w fun e w'=>e=.returned (.tuple #[.agg (r.vals h),.bool false])∧Below w.heap.size w w':=by
 obtain⟨k,t,s,pv,cm,n,pt,rd,wr,ps,pr,st⟩:=r
 change kindB k=false at hk
 unfold kindB at hk
 rw[decide_eq_false_iff_not]at hk
 have e1:(k==1)=false:=by simp;omega
 have e2:(k==2)=false:=by simp;omega
 have e3:(k==3)=false:=by simp;omega
 have e4:(k==4)=false:=by simp;omega
 have e5:(k==5)=false:=by simp;omega
 have e6:(k==6)=false:=by simp;omega
 have e7:(k==7)=false:=by simp;omega
 have e8:(k==8)=false:=by simp;omega
 have e9:(k==9)=false:=by simp;omega
 have e10:(k==10)=false:=by simp;omega
 have e11:(k==11)=false:=by simp;omega
 have e12:(k==12)=false:=by simp;omega
 clear hk
 go_enter Tryz.func41,Tryz.ntmps41
 go_upto_region 2 with fail
 go_wp2_with (first
  |(refine wpList_load_row rfl 38 _ rfl _ rfl _ _ (0,0) _ ((Blk.new _ _ _).alloc _) rfl rfl (by kernel_rfl) ?_)
  |(refine wpList_store_second rfl 38 _ _ rfl _ rfl rfl _ _ _ (by kernel_rfl) (by kernel_rfl) (by kernel_rfl) ?_))
 refine post_cell_tmp rfl (by rfl) (Blk.new' (g:=w.heap.size+1) _ _ (by simp)) rfl rfl (by kernel_rfl) ?_
 exact⟨rfl,by go_grown⟩
theorem without_any (r:Rc) (h:Hds) (w:World):
 Calls Tryz.prog 41 #[.agg (r.vals h)] w fun e w'=>e=.returned (.tuple #[.agg ((wipe r).vals (wipeH r.k h)),.bool (kindB r.k)])∧Below w.heap.size w w':=by
 cases hk:kindB r.k
 · have hk':=hk
   unfold kindB at hk'
   rw[decide_eq_false_iff_not]at hk'
   have e1:wipe r=r:=by unfold wipe;repeat (rw[if_neg (by omega)])
   have e2:wipeH r.k h=h:=by unfold wipeH;repeat (rw[if_neg (by omega)])
   rw[e1,e2]
   exact without_0 r h w hk
 · unfold kindB at hk
   rw[decide_eq_true_eq]at hk
   have hc:r.k=1∨r.k=2∨r.k=3∨r.k=4∨r.k=5∨r.k=6∨r.k=7∨r.k=8∨r.k=9∨r.k=10∨r.k=11∨r.k=12:=by omega
   rcases hc with e|e|e|e|e|e|e|e|e|e|e|e
   · have e1:wipe r={r with st:=zeroS}:=by unfold wipe;simp[e]
     have e2:wipeH r.k h={h with e:=Hd.nil,f:=Hd.nil}:=by unfold wipeH;simp[e]
     rw[e1,e2];exact without_1 r h w e
   · have e1:wipe r={r with n:=0}:=by unfold wipe;simp[e]
     have e2:wipeH r.k h=h:=by unfold wipeH;simp[e]
     rw[e1,e2];exact without_2 r h w e
   · have e1:wipe r={r with t:=⟨0,0,0⟩,s:=⟨0,0,0⟩,rd:=[],wr:=[],ps:=[]}:=by unfold wipe;simp[e]
     have e2:wipeH r.k h={h with a:=Hd.nil,b:=Hd.nil,c:=Hd.nil}:=by unfold wipeH;simp[e]
     rw[e1,e2];exact without_3 r h w e
   · have e1:wipe r={r with t:=⟨0,0,0⟩,cm:=false,s:=⟨0,0,0⟩}:=by unfold wipe;simp[e]
     have e2:wipeH r.k h=h:=by unfold wipeH;simp[e]
     rw[e1,e2];exact without_4 r h w e
   · have e1:wipe r={r with s:=⟨0,0,0⟩}:=by unfold wipe;simp[e]
     have e2:wipeH r.k h=h:=by unfold wipeH;simp[e]
     rw[e1,e2];exact without_5 r h w e
   · have e1:wipe r={r with pt:=0,n:=0,s:=⟨0,0,0⟩}:=by unfold wipe;simp[e]
     have e2:wipeH r.k h=h:=by unfold wipeH;simp[e]
     rw[e1,e2];exact without_6 r h w e
   · have e1:wipe r={r with n:=0}:=by unfold wipe;simp[e]
     have e2:wipeH r.k h=h:=by unfold wipeH;simp[e]
     rw[e1,e2];exact without_7 r h w e
   · have e1:wipe r={r with n:=0}:=by unfold wipe;simp[e]
     have e2:wipeH r.k h=h:=by unfold wipeH;simp[e]
     rw[e1,e2];exact without_8 r h w e
   · have e1:wipe r={r with t:=⟨0,0,0⟩,s:=⟨0,0,0⟩,ps:=[]}:=by unfold wipe;simp[e]
     have e2:wipeH r.k h={h with c:=Hd.nil}:=by unfold wipeH;simp[e]
     rw[e1,e2];exact without_9 r h w e
   · have e1:wipe r={r with t:=⟨0,0,0⟩}:=by unfold wipe;simp[e]
     have e2:wipeH r.k h=h:=by unfold wipeH;simp[e]
     rw[e1,e2];exact without_10 r h w e
   · have e1:wipe r={r with pv:=⟨0,0,0⟩,s:=⟨0,0,0⟩,t:=⟨0,0,0⟩,wr:=[]}:=by unfold wipe;simp[e]
     have e2:wipeH r.k h={h with b:=Hd.nil}:=by unfold wipeH;simp[e]
     rw[e1,e2];exact without_11 r h w e
   · have e1:wipe r={r with s:=⟨0,0,0⟩,pr:=[]}:=by unfold wipe;simp[e]
     have e2:wipeH r.k h={h with d:=Hd.nil}:=by unfold wipeH;simp[e]
     rw[e1,e2];exact without_12 r h w e
end Go.Proofs.YthdmanadhbpogaaGreat
