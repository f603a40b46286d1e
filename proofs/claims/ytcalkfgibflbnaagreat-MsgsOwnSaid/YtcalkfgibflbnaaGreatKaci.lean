/- What lists and states weigh: the document's WeighTexts, WeighHistories, WeighPendings, WeighState. -/
import Derived.Test.YtcalkfgibflbnaaGreatKaae
import Derived.Test.YtcalkfgibflbnaaGreatKach
namespace Go.Proofs.YtcalkfgibflbnaaGreat
set_option maxHeartbeats 4000000
set_option maxRecDepth 100000
set_option linter.unusedVariables false
open Go.RowKit Fl
def weighG {α:Type} (f:α→Int→Int) (most:Int):Int→List α→Int
 |n,[]=>n
 |n,a::l=>if n≤most then weighG f most (f a n) l else n
section
variable {α:Type} {f:α→Int→Int} {most n:Int} {l:List α}
theorem weighG_drop {k:Nat} {a:α} (h:l[k]?=some a) (hn:n≤most):weighG f most n (l.drop k)=weighG f most (f a n) (l.drop (k+1)):=by
 have h1:=List.getElem?_eq_some_iff.1 h
 rw[List.drop_eq_getElem_cons h1.1,h1.2]
 show (if _ then _ else _)=_
 rw[if_pos hn]
theorem weighG_stop (l:List α) (hn:most<n):weighG f most n l=n:=by
 cases l with
 |nil=>rfl
 |cons a l=>show (if _ then _ else _)=_;rw[if_neg (by omega)]
theorem weighG_range (hf:∀a∈l,∀n,0≤n→n≤most→0≤f a n∧f a n≤2*most+1) (h0:0≤n) (h1:n≤2*most+1):0≤weighG f most n l∧weighG f most n l≤2*most+1:=by
 induction l generalizing n with
 |nil=>exact⟨h0,h1⟩
 |cons a l ih=>
  by_cases hn:n≤most
  · have e:weighG f most n (a::l)=weighG f most (f a n) l:=by show (if _ then _ else _)=_;rw[if_pos hn]
    rw[e]
    have:=hf a (List.mem_cons_self ..) n h0 hn
    exact ih (fun b hb=>hf b (List.mem_cons_of_mem _ hb)) this.1 this.2
  · rw[weighG_stop _ (by omega)];exact⟨h0,h1⟩
theorem weighG_le (P:α→Prop) (hf:∀a n,0≤n→n≤most→0≤f a n∧(f a n≤most→n+1≤f a n∧P a)) (h0:0≤n) (h:weighG f most n l≤most):n+(l.length:Int)≤most∧∀a∈l,P a:=by
 induction l generalizing n with
 |nil=>exact⟨by simpa [weighG] using h,by simp⟩
 |cons a l ih=>
  by_cases hn:n≤most
  · have e:weighG f most n (a::l)=weighG f most (f a n) l:=by show (if _ then _ else _)=_;rw[if_pos hn]
    rw[e]at h
    obtain⟨h1,h2⟩:=hf a n h0 hn
    obtain⟨h3,h4⟩:=ih h1 h
    obtain⟨h5,h6⟩:=h2 (by omega)
    refine⟨by rw[List.length_cons];omega,fun b hb=>?_⟩
    rcases List.mem_cons.1 hb with rfl|hb
    · exact h6
    · exact h4 b hb
  · rw[weighG_stop _ (by omega)]at h;omega
end
def stepT (most:Int) (a:ByteArray) (n:Int):Int:=fewI n (1+(a.size:Int)) most
def weighT (most:Int) (l:List ByteArray):Int:=weighG (stepT most) most 0 l
def stepV (most:Int) (a:Vn) (n:Int):Int:=fewI n (1+(a.v.t.size:Int)) most
def stepH (most:Int) (h:Hs) (n:Int):Int:=weighG (stepV most) most (fewI n (1+(h.key.size:Int)) most) h.vs
def weighH (most:Int) (l:List Hs):Int:=weighG (stepH most) most 0 l
def stepP (most:Int) (p:Pn) (n:Int):Int:=fewI (fewI n (1+weighT most p.r) most) (weighW most 0 p.w) most
def weighP (most:Int) (l:List Pn):Int:=weighG (stepP most) most 0 l
def weighS (most:Int) (s:Stt):Int:=fewI (weighH most s.h) (weighP most s.p) most
section
variable {most n:Int}
theorem stepT_range (a:ByteArray) (hm:0≤most) (h0:0≤n):0≤stepT most a n∧stepT most a n≤2*most+1∧(stepT most a n≤most→n+1≤stepT most a n):=by
 have:=fewI_range (n:=n) (more:=1+(a.size:Int)) (most:=most) h0 (by omega) hm
 unfold stepT
 exact⟨this.1,this.2.1,fun h=>by rw[this.2.2 h];omega⟩
theorem stepV_range (a:Vn) (hm:0≤most) (h0:0≤n):0≤stepV most a n∧stepV most a n≤2*most+1∧(stepV most a n≤most→n+1≤stepV most a n):=by
 have:=fewI_range (n:=n) (more:=1+(a.v.t.size:Int)) (most:=most) h0 (by omega) hm
 unfold stepV
 exact⟨this.1,this.2.1,fun h=>by rw[this.2.2 h];omega⟩
theorem weighT_range (l:List ByteArray) (hm:0≤most):0≤weighT most l∧weighT most l≤2*most+1:=weighG_range (fun a _ n h0 _=>⟨(stepT_range a hm h0).1,(stepT_range a hm h0).2.1⟩) (by omega) (by omega)
theorem weighT_le {l:List ByteArray} (hm:0≤most) (h:weighT most l≤most):(l.length:Int)≤most:=by
 have:=(weighG_le (f:=stepT most) (fun _=>True) (fun a n h0 _=>⟨(stepT_range a hm h0).1,fun h=>⟨(stepT_range a hm h0).2.2 h,trivial⟩⟩) (by omega) h).1
 omega
theorem stepH_range (a:Hs) (hm:0≤most) (h0:0≤n):0≤stepH most a n∧stepH most a n≤2*most+1∧(stepH most a n≤most→n+1≤stepH most a n∧(a.vs.length:Int)≤most):=by
 have h2:=fewI_range (n:=n) (more:=1+(a.key.size:Int)) (most:=most) h0 (by omega) hm
 have h3:=weighG_range (f:=stepV most) (most:=most) (n:=fewI n (1+(a.key.size:Int)) most) (l:=a.vs) (fun a _ n h0 _=>⟨(stepV_range a hm h0).1,(stepV_range a hm h0).2.1⟩) h2.1 h2.2.1
 unfold stepH
 refine⟨h3.1,h3.2,fun h=>?_⟩
 have h4:=(weighG_le (f:=stepV most) (fun _=>True) (fun a n h0 _=>⟨(stepV_range a hm h0).1,fun h=>⟨(stepV_range a hm h0).2.2 h,trivial⟩⟩) h2.1 h).1
 have h5:=h2.2.2 (by omega)
 have h6:fewI n (1+(a.key.size:Int)) most≤weighG (stepV most) most (fewI n (1+(a.key.size:Int)) most) a.vs:=by
  have up:∀(l:List Vn) (n:Int),0≤n→weighG (stepV most) most n l≤most→n≤weighG (stepV most) most n l:=by
   intro l
   induction l with
   |nil=>intro n _ _;exact Int.le_refl _
   |cons b l ih=>
    intro n hn hl
    by_cases hle:n≤most
    · have e:weighG (stepV most) most n (b::l)=weighG (stepV most) most (stepV most b n) l:=by show (if _ then _ else _)=_;rw[if_pos hle]
      rw[e]at hl ⊢
      have h7:=stepV_range b hm hn
      have h8:=ih _ h7.1 hl
      have h9:=h7.2.2 (by omega)
      omega
    · rw[weighG_stop _ (by omega)];exact Int.le_refl _
  exact up _ _ h2.1 h
 omega
theorem weighH_range (l:List Hs) (hm:0≤most):0≤weighH most l∧weighH most l≤2*most+1:=weighG_range (fun a _ n h0 _=>⟨(stepH_range a hm h0).1,(stepH_range a hm h0).2.1⟩) (by omega) (by omega)
theorem weighW_len {l:List Wt} (hm:0≤most) (h:weighW most 0 l≤most):(l.length:Int)≤most:=by
 have h1:=weighW_le l most 0 (by omega) hm h
 have h2:(l.length:Int)≤(l.map fun a=>1+(a.key.size:Int)+(a.v.t.size:Int)).sum:=by
  clear h1 h
  induction l with
  |nil=>simp
  |cons a l ih=>simp only[List.map_cons,List.sum_cons,List.length_cons];omega
 omega
theorem weighW_range:∀(l:List Wt) (n:Int),0≤most→0≤n→n≤2*most+1→0≤weighW most n l∧weighW most n l≤2*most+1:=by
 intro l
 induction l with
 |nil=>intro n _ h0 h1;exact⟨h0,h1⟩
 |cons a l ih=>
  intro n hm h0 h1
  by_cases hle:n≤most
  · have e:weighW most n (a::l)=weighW most (stepW most n a) l:=by show (if _ then _ else _)=_;rw[if_pos hle]
    rw[e]
    have h2:=fewI_range (n:=n) (more:=1+(a.key.size:Int)) (most:=most) h0 (by omega) hm
    have h3:=fewI_range (n:=fewI n (1+(a.key.size:Int)) most) (more:=(a.v.t.size:Int)) (most:=most) h2.1 (by omega) hm
    exact ih _ hm h3.1 h3.2.1
  · rw[weighW_stop _ (by omega)];exact⟨h0,h1⟩
theorem stepP_range (p:Pn) (hm:0≤most) (h0:0≤n):0≤stepP most p n∧stepP most p n≤2*most+1∧(stepP most p n≤most→n+1≤stepP most p n∧(p.r.length:Int)≤most∧(p.w.length:Int)≤most):=by
 have h1:=weighT_range p.r hm
 have h2:=weighW_range p.w 0 hm (by omega) (by omega)
 have h3:=fewI_range (n:=n) (more:=1+weighT most p.r) (most:=most) h0 (by omega) hm
 have h4:=fewI_range (n:=fewI n (1+weighT most p.r) most) (more:=weighW most 0 p.w) (most:=most) h3.1 h2.1 hm
 unfold stepP
 refine⟨h4.1,h4.2.1,fun h=>?_⟩
 have h5:=h4.2.2 h
 have h6:=h3.2.2 (by omega)
 exact⟨by omega,weighT_le hm (by omega),weighW_len hm (by omega)⟩
theorem weighP_range (l:List Pn) (hm:0≤most):0≤weighP most l∧weighP most l≤2*most+1:=weighG_range (fun a _ n h0 _=>⟨(stepP_range a hm h0).1,(stepP_range a hm h0).2.1⟩) (by omega) (by omega)
theorem weighS_small {s:Stt} (hm:0≤most) (hm1:most≤1000000) (h:weighS most s≤most):SmallH s.h∧SmallP s.p:=by
 unfold weighS at h
 have h1:=weighH_range s.h hm
 have h2:=weighP_range s.p hm
 have h3:=(fewI_range (n:=weighH most s.h) (more:=weighP most s.p) (most:=most) h1.1 h2.1 hm).2.2 h
 have h4:weighH most s.h≤most:=by omega
 have h5:weighP most s.p≤most:=by omega
 obtain⟨a1,a2⟩:=weighG_le (f:=stepH most) (fun a=>(a.vs.length:Int)≤most) (fun a n h0 _=>⟨(stepH_range a hm h0).1,(stepH_range a hm h0).2.2⟩) (n:=0) (by omega) h4
 obtain⟨b1,b2⟩:=weighG_le (f:=stepP most) (fun p=>(p.r.length:Int)≤most∧(p.w.length:Int)≤most) (fun a n h0 _=>⟨(stepP_range a hm h0).1,(stepP_range a hm h0).2.2⟩) (n:=0) (by omega) h5
 exact⟨⟨by omega,fun x hx=>by have:=a2 x hx;omega⟩,⟨by omega,fun p hp=>by have:=b2 p hp;omega⟩⟩
end
def WeighGRel0 {α:Type} (f:α→Int→Int) (most:Int) (l:List α) (n0:Int) (w:World) (s i:Value) (wr:World):Prop:=
 ∃(k:Nat) (n:Int),k≤l.length∧i=.int .i64 (k:Int)∧s=.int .i64 n∧0≤n∧n≤2*most+1∧weighG f most n (l.drop k)=weighG f most n0 l∧w=wr
def WeighGRel {α:Type} (f:α→Int→Int) (most:Int) (l:List α) (n0:Int) (w:World) (s i:Value) (wr:World):Prop:=
 ∃(k q:Nat) (n:Int),k≤l.length∧i=.int .i64 (k:Int)∧s=.int .i64 n∧0≤n∧n≤2*most+1∧weighG f most n (l.drop k)=weighG f most n0 l∧w.drewN q=wr
theorem weighT_any (A:Option Addr) (n c:Nat) (l:List ByteArray) (most:Int) (w:World) (h:Sl KyRel 1 w w.heap.size A n l) (hn:n≤maxLen) (hm0:0≤most) (hm1:most≤1000000):
 Calls Tryz.prog 51 #[.slice A n c,.int .i64 most] w fun e w'=>e=.returned (.int .i64 (weighT most l))∧w=w':=by
 unfold maxLen at hn
 have hl:=h.1
 have hle:l.length≤n:=by omega
 have hge:n≤l.length:=by omega
 clear hl
 go_enter Tryz.func51,Tryz.ntmps51
 go_wp2
 go_loopw [5,6] (fun s i wr=>WeighGRel0 (stepT most) most l 0 w s i wr) (fun _ i _=>n-(intOf i).toNat)
 case atStart=>exact⟨0,0,by omega,rfl,rfl,by omega,by omega,rfl,rfl⟩
 case round=>
  obtain⟨k,s,hk,rfl,rfl,hs0,hs1,hs,rfl⟩:=hrel
  by_cases hlt:k<n
  · have hd1:decide ((k:Int)<(n:Int))=true:=by simp;omega
    by_cases hst:s≤most
    · obtain⟨ad,a,rfl,ha,hbk,hok,c0⟩:=h.ky hlt
      have hd2:decide (s≤most)=true:=by simp[hst]
      have hk0:(0:Int)≤(k:Int):=by omega
      have hk1:(k:Int)<(n:Int):=by omega
      rw[weighG_drop ha hst]at hs
      have HS:=Lib.hid hs
      have hr1:=stepT_range (n:=s) (most:=most) a hm0 hs0
      have hr2:=hr1.1
      have hr3:=hr1.2.1
      have hwr:IntKind.i64.wrap (1+(a.size:Int))=1+(a.size:Int):=by rw[IntKind.wrap_i64];omega
      clear hr1 ha hs
      go_wp2_with ((with_reducible refine(wfew _ _ _ _ (by omega) (by omega) (by omega) (by omega) hm0 (by omega)).mono ?_);rintro e w1 ⟨rfl,rfl⟩)
      go_roundw
      case rel=>exact⟨k+1,stepT most a s,by omega,by go_num,rfl,hr2,hr3,HS.out,rfl⟩
      case measure=>simp[intOf];omega
    · have hd2:decide (s≤most)=false:=by simp;omega
      rw[weighG_stop _ (by omega)]at hs
      have HS:=Lib.hid (show s=weighT most l from hs)
      clear hs
      go_wp2
      go_ret
      rw[←HS.out]
      exact⟨rfl,rfl⟩
  · have hd1:decide ((k:Int)<(n:Int))=false:=by simp;omega
    rw[List.drop_of_length_le (by omega)]at hs
    have HS:RowKit.Hid (s=weighT most l):=Lib.hid hs
    clear hs
    go_wp2
    go_ret
    rw[←HS.out]
    exact⟨rfl,rfl⟩
def WeighV (most:Int) (l:List Vn) (m0:Int) (w:World) (s i:Value) (wr:World):Prop:=WeighGRel0 (stepV most) most l m0 w s i wr
theorem weighH_any (A:Option Addr) (n c:Nat) (l:List Hs) (most:Int) (w:World) (h:Sl HsRel 2 w w.heap.size A n l) (hn:n≤maxLen) (hm0:0≤most) (hm1:most≤1000000):
 Calls Tryz.prog 98 #[.slice A n c,.int .i64 most] w fun e w'=>e=.returned (.int .i64 (weighH most l))∧w=w':=by
 unfold maxLen at hn
 have hl:=h.1
 have hle:l.length≤n:=by omega
 have hge:n≤l.length:=by omega
 clear hl
 go_enter Tryz.func98,Tryz.ntmps98
 go_wp2
 go_loopw [5,6] (fun s i wr=>WeighGRel0 (stepH most) most l 0 w s i wr) (fun _ i _=>n-(intOf i).toNat)
 case atStart=>exact⟨0,0,by omega,rfl,rfl,by omega,by omega,rfl,rfl⟩
 case round=>
  obtain⟨k,s,hk,rfl,rfl,hs0,hs1,hs,rfl⟩:=hrel
  by_cases hlt:k<n
  · have hd1:decide ((k:Int)<(n:Int))=true:=by simp;omega
    by_cases hst:s≤most
    · obtain⟨ad,a,A',n',c',rfl,ha,hbk,hok,c0,c1,hn',hc',hsv⟩:=h.hs hlt
      have hd2:decide (s≤most)=true:=by simp[hst]
      have hk0:(0:Int)≤(k:Int):=by omega
      have hk1:(k:Int)<(n:Int):=by omega
      unfold maxLen at hc'
      have hl':=hsv.1
      have hle':a.vs.length≤n':=by omega
      have hge':n'≤a.vs.length:=by omega
      clear hl'
      rw[weighG_drop ha hst]at hs
      have HS:=Lib.hid hs
      have hr1:=fewI_range (n:=s) (more:=1+(a.key.size:Int)) (most:=most) hs0 (by omega) hm0
      have hr2:=hr1.1
      have hr3:=hr1.2.1
      have hst1:=stepH_range (n:=s) a hm0 hs0
      have hst2:=hst1.1
      have hst3:=hst1.2.1
      have hwr:IntKind.i64.wrap (1+(a.key.size:Int))=1+(a.key.size:Int):=by rw[IntKind.wrap_i64];omega
      have HE:=Lib.hid (show stepH most a s=weighG (stepV most) most (fewI s (1+(a.key.size:Int)) most) a.vs from rfl)
      clear hr1 ha hs hst1
      go_wp2_with ((with_reducible refine(wfew _ _ _ _ (by omega) (by omega) (by omega) (by omega) hm0 (by omega)).mono ?_);rintro e w1 ⟨rfl,rfl⟩)
      generalize fewI s (1+(a.key.size:Int)) most=m0 at*
      generalize stepH most a s=m1 at*
      go_loopw [5,7] (fun s i wr=>WeighV most a.vs m0 w s i wr) (fun _ i _=>n'-(intOf i).toNat)
      case atStart=>exact⟨0,m0,by omega,rfl,rfl,hr2,hr3,rfl,rfl⟩
      case round=>
       obtain⟨k2,s2,hk2,rfl,rfl,hs02,hs12,hs2,rfl⟩:=hrel
       by_cases hlt2:k2<n'
       · have hd3:decide ((k2:Int)<(n':Int))=true:=by simp;omega
         by_cases hst2:s2≤most
         · obtain⟨ad2,v,rfl,hv,hbk2,hok2,e0,e1,e2,e3,e4,e5⟩:=hsv.vn hlt2
           have hd4:decide (s2≤most)=true:=by simp[hst2]
           have hk02:(0:Int)≤(k2:Int):=by omega
           have hk12:(k2:Int)<(n':Int):=by omega
           rw[weighG_drop hv hst2]at hs2
           have HS2:=Lib.hid hs2
           have hsz:=hok2.2.2.2
           have hr1:=stepV_range (n:=s2) (most:=most) v hm0 hs02
           have hr4:=hr1.1
           have hr5:=hr1.2.1
           have hwr2:IntKind.i64.wrap (1+(v.v.t.size:Int))=1+(v.v.t.size:Int):=by rw[IntKind.wrap_i64];omega
           clear hr1 hv hs2 hwr
           go_wp2_with ((with_reducible refine(wfew _ _ _ _ (by omega) (by omega) (by omega) (by omega) hm0 (by omega)).mono ?_);rintro e w1 ⟨rfl,rfl⟩)
           go_roundw
           case rel=>exact⟨k2+1,stepV most v s2,by omega,by go_num,rfl,hr4,hr5,HS2.out,rfl⟩
           case measure=>simp[intOf];omega
         · have hd4:decide (s2≤most)=false:=by simp;omega
           rw[weighG_stop _ (by omega)]at hs2
           have HS2:=Lib.hid (show m1=s2 by rw[HE.out,hs2])
           clear hs2 hwr
           go_wp2
           go_roundw
           case rel=>exact⟨k+1,s2,by omega,by go_num,rfl,hs02,hs12,by rw[←HS2.out];exact HS.out,rfl⟩
           case measure=>simp[intOf];omega
       · have hd3:decide ((k2:Int)<(n':Int))=false:=by simp;omega
         rw[List.drop_of_length_le (by omega)]at hs2
         have HS2:=Lib.hid (show m1=s2 by rw[HE.out,←hs2];rfl)
         clear hs2 hwr
         go_wp2
         go_roundw
         case rel=>exact⟨k+1,s2,by omega,by go_num,rfl,hs02,hs12,by rw[←HS2.out];exact HS.out,rfl⟩
         case measure=>simp[intOf];omega
    · have hd2:decide (s≤most)=false:=by simp;omega
      rw[weighG_stop _ (by omega)]at hs
      have HS:=Lib.hid (show s=weighH most l from hs)
      clear hs
      go_wp2
      go_ret
      rw[←HS.out]
      exact⟨rfl,rfl⟩
  · have hd1:decide ((k:Int)<(n:Int))=false:=by simp;omega
    rw[List.drop_of_length_le (by omega)]at hs
    have HS:RowKit.Hid (s=weighH most l):=Lib.hid hs
    clear hs
    go_wp2
    go_ret
    rw[←HS.out]
    exact⟨rfl,rfl⟩
theorem quiet_more {P:Program} {f:FuncId} {args:Array Value} {v:Value} {w:World} {Q q:Nat} (h:Calls P f args (w.drewN (Q+q)) fun e w'=>e=.returned v∧∃m,(w.drewN (Q+q)).drewN m=w'):
 Calls P f args (w.drewN (Q+q)) fun e w'=>e=.returned v∧∃m,w'=w.drewN (Q+m):=h.mono fun _ _ ⟨he,m,hw⟩=>⟨he,q+m,by rw[←hw,World.drewN_drewN,Nat.add_assoc]⟩
theorem quietMore {P:Program} {f:FuncId} {args:Array Value} {v:Value} {w:World} {q:Nat} (h:Calls P f args (w.drewN q) fun e w'=>e=.returned v∧∃m,(w.drewN q).drewN m=w'):
 Calls P f args (w.drewN q) fun e w'=>e=.returned v∧∃m,w'=w.drewN m:=h.mono fun _ _ ⟨he,m,hw⟩=>⟨he,q+m,by rw[←hw,World.drewN_drewN]⟩
theorem weighP_any (A:Option Addr) (n c:Nat) (l:List Pn) (most:Int) (w:World) (h:Sl PnRel 8 w w.heap.size A n l) (hn:n≤maxLen) (hm0:0≤most) (hm1:most≤1000000):
 Calls Tryz.prog 99 #[.slice A n c,.int .i64 most] w fun e w'=>e=.returned (.int .i64 (weighP most l))∧∃q,w.drewN q=w':=by
 unfold maxLen at hn
 have hl:=h.1
 have hle:l.length≤n:=by omega
 have hge:n≤l.length:=by omega
 clear hl
 go_enter Tryz.func99,Tryz.ntmps99
 go_wp2
 go_loopw [5,6] (fun s i wr=>WeighGRel (stepP most) most l 0 w s i wr) (fun _ i _=>n-(intOf i).toNat)
 case atStart=>exact⟨0,0,0,by omega,rfl,rfl,by omega,by omega,rfl,rfl⟩
 case round=>
  obtain⟨k,q,s,hk,rfl,rfl,hs0,hs1,hs,rfl⟩:=hrel
  by_cases hlt:k<n
  · have hd1:decide ((k:Int)<(n:Int))=true:=by simp;omega
    by_cases hst:s≤most
    · obtain⟨ad,p,A1,n1,c1,A2,n2,c2,rfl,ha,hbk,hpt,hps,d0,d1,d2,d3,d4,d5,d6,d7,hn1,hc1,hs1',hn2,hc2,hs2'⟩:=h.pn hlt
      have hd2:decide (s≤most)=true:=by simp[hst]
      have hk0:(0:Int)≤(k:Int):=by omega
      have hk1:(k:Int)<(n:Int):=by omega
      rw[weighG_drop ha hst]at hs
      have HS:=Lib.hid hs
      have hT:=weighT_range p.r hm0
      have hT1:=hT.1
      have hT2:=hT.2
      have hW:=weighW_range p.w 0 hm0 (by omega) (by omega)
      have hW1:=hW.1
      have hW2:=hW.2
      have hF:=fewI_range (n:=s) (more:=1+weighT most p.r) (most:=most) hs0 (by omega) hm0
      have hF1:=hF.1
      have hF2:=hF.2.1
      have hr1:=stepP_range (n:=s) p hm0 hs0
      have hr2:=hr1.1
      have hr3:=hr1.2.1
      have hwr:IntKind.i64.wrap (1+weighT most p.r)=1+weighT most p.r:=by rw[IntKind.wrap_i64];omega
      clear hr1 ha hs hT hW hF
      go_wp2
      go_quiet (first
       |(go_at_call 51;exact quiet_same (weighT_any A1 n1 c1 p.r most _ hs1' (by omega) hm0 hm1))
       |(go_at_call 53;exact quiet_more (weigh_any A2 n2 c2 p.w most _ hs2' (by omega) hm0 hm1))
       |(go_at_call 50;exact quiet_same (wfew _ _ _ _ (by omega) (by omega) (by omega) (by omega) hm0 (by omega))))
      go_wp2
      go_roundw
      case rel=>exact⟨k+1,q+nq,stepP most p s,by omega,by go_num,rfl,hr2,hr3,HS.out,rfl⟩
      case measure=>simp[intOf];omega
    · have hd2:decide (s≤most)=false:=by simp;omega
      rw[weighG_stop _ (by omega)]at hs
      have HS:=Lib.hid (show s=weighP most l from hs)
      clear hs
      go_wp2
      go_ret
      rw[←HS.out]
      exact⟨rfl,q,rfl⟩
  · have hd1:decide ((k:Int)<(n:Int))=false:=by simp;omega
    rw[List.drop_of_length_le (by omega)]at hs
    have HS:RowKit.Hid (s=weighP most l):=Lib.hid hs
    clear hs
    go_wp2
    go_ret
    rw[←HS.out]
    exact⟨rfl,q,rfl⟩
theorem weighS_any (s:Stt) (A1 A2:Option Addr) (n1 n2 c1 c2:Nat) (most:Int) (w:World) (h1:Sl HsRel 2 w w.heap.size A1 n1 s.h) (h2:Sl PnRel 8 w w.heap.size A2 n2 s.p) (hn1:n1≤maxLen) (hn2:n2≤maxLen) (hm0:0≤most) (hm1:most≤1000000):
 Calls Tryz.prog 55 #[.agg (s.arr (.slice A1 n1 c1) (.slice A2 n2 c2)),.int .i64 most] w fun e w'=>e=.returned (.int .i64 (weighS most s))∧Below w.heap.size w w':=by
 have hX:Below w.heap.size w (w.alloc (.cells (s.arr (.slice A1 n1 c1) (.slice A2 n2 c2)) 39)):=by go_grown
 have k1:=(h1.below HsRel.kept hX).more HsRel.kept hX.size
 have k2:=(h2.below PnRel.kept hX).more PnRel.kept hX.size
 have hH:=weighH_range s.h hm0
 have hH1:=hH.1
 have hH2:=hH.2
 have hP:=weighP_range s.p hm0
 have hP1:=hP.1
 have hP2:=hP.2
 clear hH hP
 go_enter Tryz.func55,Tryz.ntmps55
 go_wp2
 go_quiet (first
  |(go_at_call 98;exact quietSame (weighH_any A1 n1 c1 s.h most _ k1 hn1 hm0 hm1))
  |(go_at_call 99;exact quietMore (weighP_any A2 n2 c2 s.p most _ k2 hn2 hm0 hm1))
  |(go_at_call 50;exact quietSame (wfew _ _ _ _ (by omega) (by omega) (by omega) (by omega) hm0 (by omega))))
 go_wp2
 go_ret
 exact⟨rfl,hX.trans ((belowN _).mono hX.size)⟩
end Go.Proofs.YtcalkfgibflbnaaGreat
