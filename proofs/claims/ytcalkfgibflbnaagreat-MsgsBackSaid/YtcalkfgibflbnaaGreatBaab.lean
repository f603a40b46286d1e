/- Short forms of moves of a walk through a region that draws its order. -/
import Derived.Deep.RegionHeld3
import Derived.KernelRfl
import Derived.OwnWalk
import Derived.WalkKit
import Derived.Below
namespace Go.Proofs.YtcalkfgibflbnaaGreat
open Go.RowKit
section
variable {P:Program} {md:Region.Mode} {ops:Array Oper} {Q:Exit->Act->World->Prop} {S:World->Prop} {v:Value} {fuel:Nat} {listed:Array Bool} {a:Act} {w:World}
theorem t0 {x1 x2 x3 x4 x5} (i d:Nat) (h:wpAnyH P md ops Q S fuel (listed.setIfInBounds i true) (a.put (some d) v) w) (hi:ops[i]?=some ⟨some d,x1,x2,x3,x4,x5⟩:=by rfl)
 (hv:∀w,S w->(execOp a.eval ⟨some d,x1,x2,x3,x4,x5⟩).run P w=.ok (.value v) w:=by intro W hSw;go_simp;try with_reducible rfl) (hS:S w:=by assumption)
 (hw:Region.wanted ⟨some d,x1,x2,x3,x4,x5⟩ (yielded ops a.tmps)=true:=by kernel_rfl)
 (hs:Region.noSelect ops=true:=by kernel_rfl) (hf:Region.free md ops listed i=true:=by kernel_rfl) (hr:(Region.ready md ops listed).contains i=true:=by kernel_rfl)
 (hQ:∀c a w,Q (.panic c) (a.put (some d) v) w->Q (.panic c) a w:=by exact fun _ _ _ h=>h):wpAnyH P md ops Q S (fuel+1) listed a w:=
 wpAnyH_take (i:=i) (oi:=⟨some d,x1,x2,x3,x4,x5⟩) hi hs hf hr hQ (Or.inl ⟨hw,hv⟩) hS h
theorem tc {x1 x2 x3 x4 x5} (i d:Nat) (h:wpAnyH P md ops Q S fuel (listed.setIfInBounds i true) (a.put (some d) v) w) (hi:ops[i]?=some ⟨some d,x1,x2,x3,x4,x5⟩:=by rfl)
 (hv:∀w,(execOp a.eval ⟨some d,x1,x2,x3,x4,x5⟩).run P w=.ok (.value v) w:=by intro W;go_simp;try with_reducible rfl) (hS:S w:=by assumption)
 (hw:Region.wanted ⟨some d,x1,x2,x3,x4,x5⟩ (yielded ops a.tmps)=true:=by kernel_rfl)
 (hs:Region.noSelect ops=true:=by kernel_rfl) (hf:Region.free md ops listed i=true:=by kernel_rfl) (hr:(Region.ready md ops listed).contains i=true:=by kernel_rfl)
 (hQ:∀c a w,Q (.panic c) (a.put (some d) v) w->Q (.panic c) a w:=by exact fun _ _ _ h=>h):wpAnyH P md ops Q S (fuel+1) listed a w:=
 t0 i d h hi (fun w _=>hv w) hS hw hs hf hr hQ
theorem ts {x1 x2 x3 x4 x5} (i d:Nat) (hi:ops[i]?=some ⟨some d,x1,x2,x3,x4,x5⟩) (hv:∀w,S w->(execOp a.eval ⟨some d,x1,x2,x3,x4,x5⟩).run P w=.ok (.value v) w) (h:wpAnyH P md ops Q S fuel (listed.setIfInBounds i true) (a.put (some d) v) w)
 (hS:S w:=by assumption)
 (hw:Region.wanted ⟨some d,x1,x2,x3,x4,x5⟩ (yielded ops a.tmps)=true:=by kernel_rfl)
 (hs:Region.noSelect ops=true:=by kernel_rfl) (hf:Region.free md ops listed i=true:=by kernel_rfl) (hr:(Region.ready md ops listed).contains i=true:=by kernel_rfl)
 (hQ:∀c a w,Q (.panic c) (a.put (some d) v) w->Q (.panic c) a w:=by exact fun _ _ _ h=>h):wpAnyH P md ops Q S (fuel+1) listed a w:=
 t0 i d h hi hv hS hw hs hf hr hQ
theorem tn {x1 x2 x3 x4 x5} (i d:Nat) (h:wpAnyH P md ops Q S fuel (listed.setIfInBounds i true) (a.put (some d) undef) w) (hi:ops[i]?=some ⟨some d,x1,x2,x3,x4,x5⟩:=by rfl) (hS:S w:=by assumption)
 (hw:Region.wanted ⟨some d,x1,x2,x3,x4,x5⟩ (yielded ops a.tmps)=false:=by kernel_rfl)
 (hs:Region.noSelect ops=true:=by kernel_rfl) (hf:Region.free md ops listed i=true:=by kernel_rfl) (hr:(Region.ready md ops listed).contains i=true:=by kernel_rfl)
 (hQ:∀c a w,Q (.panic c) (a.put (some d) undef) w->Q (.panic c) a w:=by exact fun _ _ _ h=>h):wpAnyH P md ops Q S (fuel+1) listed a w:=
 wpAnyH_take (i:=i) (oi:=⟨some d,x1,x2,x3,x4,x5⟩) hi hs hf hr hQ (Or.inr ⟨hw,rfl⟩) hS h
theorem tl {ty x2 x3 x4 x5} {x:Operand} (i d:Nat) (hi:ops[i]?=some ⟨some d,.load ty x,x2,x3,x4,x5⟩) (hy:YieldsIf P ops S ⟨some d,.load ty x,x2,x3,x4,x5⟩ v a) (h:wpAnyH P md ops Q S fuel (listed.setIfInBounds i true) (a.put (some d) v) w) (hS:S w:=by assumption)
 (hs:Region.noSelect ops=true:=by kernel_rfl) (hf:Region.free md ops listed i=true:=by kernel_rfl) (hr:(Region.ready md ops listed).contains i=true:=by kernel_rfl)
 (hQ:∀c a w,Q (.panic c) (a.put (some d) v) w->Q (.panic c) a w:=by exact fun _ _ _ h=>h):wpAnyH P md ops Q S (fuel+1) listed a w:=
 wpAnyH_take (i:=i) (oi:=⟨some d,.load ty x,x2,x3,x4,x5⟩) hi hs hf hr hQ hy hS h
theorem tr {o:Oper} (i:Nat) (ho:ops[i]?=some o)
 (h:∀K':Act->World->Prop,Shut (∀a w,S w->(S w->wpAnyH P md ops Q S fuel (listed.setIfInBounds i true) a w)->K' a w)->if Region.wanted o (yielded ops a.tmps)=true then Oper.wp P o a w K' Q else K' (a.put o.dst undef) w)
 (hr:Region.ready md ops listed=[i]:=by kernel_rfl):wpAnyH P md ops Q S (fuel+1) listed a w:=
 wpAnyH_ready hr (by simp) (AllReadyH.cons ho h AllReadyH.nil)
theorem td (h:Q .normal a w) (hr:Region.ready md ops listed=[]:=by kernel_rfl):wpAnyH P md ops Q S fuel listed a w:=wpAnyH_done hr h _
end
section
variable {w w':World} {b i n:Nat} {t:TypeId} {v:Value} {cs:Array Value} {p:Addr}
theorem cl (h:w.cell? ⟨b,i,none⟩=cs[i]?) (e:cs.toList[i]?=some v:=by rfl):w.cell? ⟨b,i,none⟩=some v:=by
 rw[h,<-e,Array.getElem?_toList]
theorem cn (_:Below n w (w.alloc (.cells cs t))) (i:Nat) (e:cs.toList[i]?=some v:=by rfl):(w.alloc (.cells cs t)).cell? ⟨w.heap.size,i,none⟩=some v:=
 cl (cell_of_row _ _ i cs t (0,0) (heap_alloc_new w _)) e
theorem up (h:w.cell? p=some v) (hb:Below n w w') (hp:p.block<n):w'.cell? p=some v:=(hb.cell hp).trans h
end
def Yp (a:Act) (dj:Nat) (want:Bool):Bool:=match a.tmps[dj]? with
 |some (.bool b)=>b !=want
 |_=>true
section
variable {P:Program} {md:Region.Mode} {ops:Array Oper} {Q:Exit->Act->World->Prop} {S:World->Prop} {v:Value} {fuel:Nat} {listed:Array Bool} {a:Act} {w:World}
theorem tw {x1 x2 x3 x4 x5} (i d dj:Nat) (want:Bool) (h:wpAnyH P md ops Q S fuel (listed.setIfInBounds i true) (a.put (some d) undef) w) (_:Yp a dj want=true:=by rfl) (hi:ops[i]?=some ⟨some d,x1,x2,x3,x4,x5⟩:=by rfl) (hS:S w:=by assumption)
 (hw:Region.wanted ⟨some d,x1,x2,x3,x4,x5⟩ (yielded ops a.tmps)=false:=by kernel_rfl)
 (hs:Region.noSelect ops=true:=by kernel_rfl) (hf:Region.free md ops listed i=true:=by kernel_rfl) (hr:(Region.ready md ops listed).contains i=true:=by kernel_rfl)
 (hQ:∀c a w,Q (.panic c) (a.put (some d) undef) w->Q (.panic c) a w:=by exact fun _ _ _ h=>h):wpAnyH P md ops Q S (fuel+1) listed a w:=
 tn i d h hi hS hw hs hf hr hQ
end
