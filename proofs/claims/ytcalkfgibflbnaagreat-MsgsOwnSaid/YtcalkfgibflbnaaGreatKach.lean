/- What lists weigh: WeighWrites. -/
import Derived.Test.YtcalkfgibflbnaaGreatKaac
namespace Go.Proofs.YtcalkfgibflbnaaGreat
open Go.RowKit Fl
theorem quiet_same {P:Program} {f:FuncId} {args:Array Value} {v:Value} {w:World} {Q q:Nat} (h:Calls P f args (w.drewN (Q+q)) fun e w'=>e=.returned v∧w.drewN (Q+q)=w'):
 Calls P f args (w.drewN (Q+q)) fun e w'=>e=.returned v∧∃m,w'=w.drewN (Q+m):=h.mono fun _ _ ⟨he,hw⟩=>⟨he,q,hw.symm⟩
theorem fewI_range {n more most:Int} (h0:0≤n) (h1:0≤more) (h2:0≤most):0≤fewI n more most∧fewI n more most≤2*most+1∧(fewI n more most≤most→fewI n more most=n+more):=by
 unfold fewI
 split<;>omega
def stepW (most n:Int) (a:Wt):Int:=fewI (fewI n (1+(a.key.size:Int)) most) (a.v.t.size:Int) most
def weighW (most:Int):Int→List Wt→Int
 |n,[]=>n
 |n,a::l=>if n≤most then weighW most (stepW most n a) l else n
theorem weighW_drop {most n:Int} {l:List Wt} {k:Nat} {a:Wt} (h:l[k]?=some a) (hn:n≤most):weighW most n (l.drop k)=weighW most (stepW most n a) (l.drop (k+1)):=by
 have h1:=List.getElem?_eq_some_iff.1 h
 rw[List.drop_eq_getElem_cons h1.1,h1.2]
 show (if _ then _ else _)=_
 rw[if_pos hn]
theorem weighW_stop {most n:Int} (l:List Wt) (hn:most<n):weighW most n l=n:=by
 cases l with
 |nil=>rfl
 |cons a l=>show (if _ then _ else _)=_;rw[if_neg (by omega)]
theorem weighW_le:∀(l:List Wt) (most n:Int),0≤n→0≤most→weighW most n l≤most→n+(l.map fun a=>1+(a.key.size:Int)+(a.v.t.size:Int)).sum≤most:=by
 intro l
 induction l with
 |nil=>intro most n h0 h1 h;simpa [weighW] using h
 |cons a l ih=>
  intro most n h0 h1 h
  by_cases hn:n≤most
  · have e:weighW most n (a::l)=weighW most (stepW most n a) l:=by show (if _ then _ else _)=_;rw[if_pos hn]
    rw[e]at h
    have h2:0≤fewI n (1+(a.key.size:Int)) most:=(fewI_range h0 (by omega) h1).1
    have h3:0≤stepW most n a:=by
        unfold stepW
        unfold fewI at h2 ⊢
        split<;>split at h2<;>omega
    have h4:=ih most _ h3 h1 h
    have hs:0≤(l.map fun a=>1+(a.key.size:Int)+(a.v.t.size:Int)).sum:=by
        clear h4 h e ih
        induction l with
        |nil=>simp
        |cons b l ih=>simp only[List.map_cons,List.sum_cons];omega
    have h5:stepW most n a=n+(1+(a.key.size:Int))+(a.v.t.size:Int):=by
        have:stepW most n a≤most:=by omega
        unfold stepW fewI at this ⊢
        split at this<;>split<;>omega
    simp only[List.map_cons,List.sum_cons]
    omega
  · rw[weighW_stop _ (by omega)]at h
    omega
def WeighRel (most:Int) (l:List Wt) (w:World) (s i:Value) (wr:World):Prop:=
 ∃(k q:Nat) (n:Int),k≤l.length∧i=.int .i64 (k:Int)∧s=.int .i64 n∧0≤n∧n≤2*most+1∧weighW most n (l.drop k)=weighW most 0 l∧w.drewN q=wr
set_option maxRecDepth 100000 in
set_option maxHeartbeats 4000000 in
theorem weigh_any (A:Option Addr) (n c:Nat) (l:List Wt) (most:Int) (w:World) (h:Sl WtRel 4 w w.heap.size A n l) (hn:n≤maxLen) (hm0:0≤most) (hm1:most≤1000000):
 Calls Tryz.prog 53 #[.slice A n c,.int .i64 most] w fun e w'=>e=.returned (.int .i64 (weighW most 0 l))∧∃q,w.drewN q=w':=by
 unfold maxLen at hn
 have hl:=h.1
 have hle:l.length≤n:=by omega
 have hge:n≤l.length:=by omega
 clear hl
 go_enter Tryz.func53,Tryz.ntmps53
 go_wp2
 go_loopw [5,6] (fun s i wr=>WeighRel most l w s i wr) (fun _ i _=>n-(intOf i).toNat)
 case atStart=>exact⟨0,0,0,by omega,rfl,rfl,by omega,by omega,rfl,rfl⟩
 case round=>
  obtain⟨k,q,s,hk,rfl,rfl,hs0,hs1,hs,rfl⟩:=hrel
  by_cases hlt:k<n
  · have hd1:decide ((k:Int)<(n:Int))=true:=by simp;omega
    by_cases hst:s≤most
    · obtain⟨ad,a,rfl,ha,hbk,hok,c0,c1,c2,c3⟩:=h.wt hlt
      have hd2:decide (s≤most)=true:=by simp[hst]
      have hk0:(0:Int)≤(k:Int):=by omega
      have hk1:(k:Int)<(n:Int):=by omega
      have hsz:=hok.1
      have hsz2:=hok.2.2.2
      rw[weighW_drop ha hst]at hs
      have HS:=Lib.hid hs
      have hr1:=fewI_range (n:=s) (more:=1+(a.key.size:Int)) (most:=most) hs0 (by omega) hm0
      have hr2:0≤stepW most s a∧stepW most s a≤2*most+1:=by
       unfold stepW
       have h9:fewI s (1+(a.key.size:Int)) most≤most+1∨fewI s (1+(a.key.size:Int)) most≤2*most+1:=.inr hr1.2.1
       have h8:=hr1.1
       have h7:fewI s (1+(a.key.size:Int)) most≤2*most+1:=hr1.2.1
       generalize fewI s (1+(a.key.size:Int)) most=z at*
       unfold fewI
       split<;>omega
      have hwr:IntKind.i64.wrap (1+(a.key.size:Int))=1+(a.key.size:Int):=by rw[IntKind.wrap_i64];omega
      have hr3:=hr1.1
      have hr4:=hr1.2.1
      have hr5:=hr2.1
      have hr6:=hr2.2
      clear hr1 hr2
      clear ha hs hok
      go_wp2
      go_quiet (first
       |(go_at_call 50;exact quiet_same (wfew _ _ _ _ (by omega) (by omega) (by omega) (by omega) hm0 (by omega))))
      go_wp2
      go_roundw
      case rel=>exact⟨k+1,q+nq,stepW most s a,by omega,by go_num,rfl,hr5,hr6,HS.out,rfl⟩
      case measure=>simp[intOf];omega
    · have hd2:decide (s≤most)=false:=by simp;omega
      rw[weighW_stop _ (by omega)]at hs
      have HS:=Lib.hid hs
      clear hs
      go_wp2
      go_ret
      rw[←HS.out]
      exact⟨rfl,q,rfl⟩
  · have hd1:decide ((k:Int)<(n:Int))=false:=by simp;omega
    rw[List.drop_of_length_le (by omega)]at hs
    have HS:RowKit.Hid (s=weighW most 0 l):=Lib.hid hs
    clear hs
    go_wp2
    go_ret
    rw[←HS.out]
    exact⟨rfl,q,rfl⟩
end Go.Proofs.YtcalkfgibflbnaaGreat
