/- The walk of WeighRec. -/
import Derived.WalkLawsBesides
import Derived.Test.YtcalkfgibflbnaaGreatKaab
import Derived.Test.YtcalkfgibflbnaaGreatKaaf
import Derived.Test.YtcalkfgibflbnaaGreatKaci
namespace Go.Proofs.YtcalkfgibflbnaaGreat
set_option linter.unusedVariables false
open Go.RowKit Fl
attribute [local go_sem] run_store_float
def weigh1 (most:Int) (r:Rc):Int:=fewI (weighT most r.rd) (weighW most 0 r.wr) most
def weigh2 (most:Int) (r:Rc):Int:=fewI (weigh1 most r) (min (r.ps.length:Int) (most+1)) most
def weighRec (most:Int) (r:Rc):Int:=fewI (weighW most (weigh2 most r) r.pr+1) (weighS most r.st) most
theorem weighS_range (s:Stt) {most:Int} (hm:0≤most):0≤weighS most s∧weighS most s≤2*most+1:=by
 have h1:=weighH_range s.h hm
 have h2:=weighP_range s.p hm
 have:=fewI_range (n:=weighH most s.h) (more:=weighP most s.p) (most:=most) h1.1 h2.1 hm
 exact⟨this.1,this.2.1⟩
theorem stepW_range {most s:Int} (a:Wt) (hm:0≤most) (h0:0≤s):0≤stepW most s a∧stepW most s a≤2*most+1:=by
 have h2:=fewI_range (n:=s) (more:=1+(a.key.size:Int)) (most:=most) h0 (by omega) hm
 have h3:=fewI_range (n:=fewI s (1+(a.key.size:Int)) most) (more:=(a.v.t.size:Int)) (most:=most) h2.1 (by omega) hm
 exact⟨h3.1,h3.2.1⟩
def WeighRRel (most:Int) (l:List Wt) (n0:Int) (w:World) (s i:Value) (wr:World):Prop:=
 ∃(k q:Nat) (n:Int),k≤l.length∧i=.int .i64 (k:Int)∧s=.int .i64 n∧0≤n∧n≤2*most+1∧weighW most n (l.drop k)=weighW most n0 l∧w.drewN q=wr
set_option maxRecDepth 100000 in
set_option maxHeartbeats 4000000 in
theorem weighRec_any (r:Rc) (h:Hds) (most:Int) (w:World) (i:RcIn w r h) (hm0:0≤most) (hm1:most≤1000000):
 Calls Tryz.prog 54 #[.agg (r.vals h),.int .i64 most] w fun e w'=>e=.returned (.int .i64 (weighRec most r))∧Below w.heap.size w w':=by
 have hX:Below w.heap.size w (w.alloc (.cells (r.vals h) 69)):=by go_grown
 have B0:Blk (w.alloc (.cells (r.vals h) 69)) w.heap.size 69 (r.vals h):=Blk.new _ _ _
 have IX:=i.below hX
 have hlp:r.ps.length=h.c.n:=IX.ps.1
 have hlr:r.pr.length=h.d.n:=IX.pr.1
 have HLP:=Lib.hid hlp
 have hle:r.pr.length≤h.d.n:=by omega
 have hge:h.d.n≤r.pr.length:=by omega
 have hcn:=IX.nc
 have hdn:=IX.nd
 unfold maxLen at hcn hdn
 have hT:=weighT_range r.rd hm0
 have hT1:=hT.1
 have hT2:=hT.2
 have hW:=weighW_range r.wr 0 hm0 (by omega) (by omega)
 have hW1:=hW.1
 have hW2:=hW.2
 have h1:=fewI_range (n:=weighT most r.rd) (more:=weighW most 0 r.wr) (most:=most) hT1 hW1 hm0
 have h11:0≤weigh1 most r:=h1.1
 have h12:weigh1 most r≤2*most+1:=h1.2.1
 have h2:=fewI_range (n:=weigh1 most r) (more:=min (r.ps.length:Int) (most+1)) (most:=most) h11 (by omega) hm0
 have h21:0≤weigh2 most r:=h2.1
 have h22:weigh2 most r≤2*most+1:=h2.2.1
 have hS:=weighS_range r.st hm0
 have hS1:=hS.1
 have hS2:=hS.2
 have hwm:IntKind.i64.wrap (most+1)=most+1:=by rw[IntKind.wrap_i64];omega
 have c13:=cl (B0.cell 13)
 have c14:=cl (B0.cell 14)
 have c15:=cl (B0.cell 15)
 have c16:=cl (B0.cell 16)
 clear hT hW h1 h2 hS hlp hlr
 have hcase:∃m2:Int,weigh2 most r=fewI (fewI (weighT most r.rd) (weighW most 0 r.wr) most) m2 most∧0≤m2∧m2≤1000001∧((most+1<(h.c.n:Int)∧m2=most+1)∨(¬most+1<(h.c.n:Int)∧m2=(h.c.n:Int))):=by
  by_cases hmn:most+1<(h.c.n:Int)
  · exact⟨most+1,by unfold weigh2 weigh1;rw[HLP.out,Int.min_eq_right (by omega)],by omega,by omega,.inl ⟨hmn,rfl⟩⟩
  · exact⟨(h.c.n:Int),by unfold weigh2 weigh1;rw[HLP.out,Int.min_eq_left (by omega)],by omega,by omega,.inr ⟨hmn,rfl⟩⟩
 obtain⟨m2,hw2,hm20,hm21,hor⟩:=hcase
 have HW2:=Lib.hid hw2
 unfold weigh1 at h11 h12
 clear hw2
 rcases hor with ⟨hmn,hm2⟩|⟨hmn,hm2⟩
 all_goals
  rw[hm2]at hm20 hm21 HW2
  clear hm2
  go_enter Tryz.func54,Tryz.ntmps54
  go_wp2
  go_quiet (first
   |(go_at_call 51;exact quietSame (weighT_any h.a.A h.a.n h.a.c r.rd most _ IX.rd IX.na hm0 hm1))
   |(go_at_call 53;exact quietMore (weigh_any h.b.A h.b.n h.b.c r.wr most _ IX.wr IX.nb hm0 hm1))
   |(go_at_call 50;exact quietSame (wfew _ _ _ _ (by omega) (by omega) (by omega) (by omega) hm0 (by omega))))
  go_wp2_with ((with_reducible refine(wfew _ _ most _ (by omega) (by omega) (by omega) (by omega) hm0 (by omega)).mono ?_);rintro e w1 ⟨rfl,rfl⟩)
  go_loopw [5,6] (fun s i wr=>WeighRRel most r.pr (weigh2 most r) (w.alloc (.cells (r.vals h) 69)) s i wr) (fun _ i _=>h.d.n-(intOf i).toNat)
  case atStart=>exact⟨0,_,weigh2 most r,by omega,rfl,by first|(rw[HW2.out];done)|(rw[HW2.out,Int.min_eq_right (by omega)];done)|(rw[HW2.out,Int.min_eq_left (by omega)];done),h21,h22,rfl,rfl⟩
  case round=>
   obtain⟨k,q,s,hk,rfl,rfl,hs0,hs1,hs,rfl⟩:=hrel
   by_cases hlt:k<h.d.n
   · have hd1:decide ((k:Int)<(h.d.n:Int))=true:=by simp;omega
     by_cases hst:s≤most
     · obtain⟨ad,a,hA,ha,hbk,hok,e0,e1,e2,e3⟩:=IX.pr.wt hlt
       replace c16:(w.alloc (.cells (r.vals h) 69)).cell? ⟨w.heap.size,16,none⟩=some (.slice (some ad) h.d.n h.d.c):=by rw[←hA];exact c16
       have hd2:decide (s≤most)=true:=by simp[hst]
       have hk0:(0:Int)≤(k:Int):=by omega
       have hk1:(k:Int)<(h.d.n:Int):=by omega
       have hsz:=hok.1
       have hsz2:=hok.2.2.2
       rw[weighW_drop ha hst]at hs
       have HS:=Lib.hid hs
       have hr1:=fewI_range (n:=s) (more:=1+(a.key.size:Int)) (most:=most) hs0 (by omega) hm0
       have hr2:=stepW_range a hm0 hs0
       have hwr:IntKind.i64.wrap (1+(a.key.size:Int))=1+(a.key.size:Int):=by rw[IntKind.wrap_i64];omega
       have hr3:=hr1.1
       have hr4:=hr1.2.1
       have hr5:=hr2.1
       have hr6:=hr2.2
       clear hr1 hr2
       clear ha hs hok hA
       go_wp2
       go_quiet (first
        |(go_at_call 50;exact quiet_same (wfew _ _ _ _ (by omega) (by omega) (by omega) (by omega) hm0 (by omega))))
       go_wp2
       go_roundw
       case rel=>exact⟨k+1,q+_,stepW most s a,by omega,by go_num,rfl,hr5,hr6,HS.out,rfl⟩
       case measure=>simp[intOf];omega
     · have hd2:decide (s≤most)=false:=by simp;omega
       rw[weighW_stop _ (by omega)]at hs
       have HS:=Lib.hid hs
       clear hs
       have c17:=cl (B0.cell 17)
       have c18:=cl (B0.cell 18)
       have c19:=cl (B0.cell 19)
       have c20:=cl (B0.cell 20)
       have c21:=cl (B0.cell 21)
       have c22:=cl (B0.cell 22)
       have c23:=cl (B0.cell 23)
       have c24:=cl (B0.cell 24)
       have c25:=cl (B0.cell 25)
       have c26:=cl (B0.cell 26)
       have c27:=cl (B0.cell 27)
       have c28:=cl (B0.cell 28)
       have hD:Below (w.alloc (.cells (r.vals h) 69)).heap.size (w.alloc (.cells (r.vals h) 69)) ((w.alloc (.cells (r.vals h) 69)).drewN q):=belowN _
       have IY:=IX.below hD
       have hwn:IntKind.i64.wrap (s+1)=s+1:=by rw[IntKind.wrap_i64];omega
       go_wp2_with (first
        |((with_reducible refine(weighS_any r.st h.e.A h.f.A h.e.n h.f.n h.e.c h.f.c most _ IY.hs IY.pn IY.ne IY.nf hm0 hm1).mono ?_);rintro e w2 ⟨rfl,hb2⟩)
        |((with_reducible refine(wfew _ _ most _ (by omega) (by omega) (by omega) (by omega) hm0 (by omega)).mono ?_);rintro e w3 ⟨rfl,rfl⟩))
       have hB:Below w.heap.size w w2:=(hX.trans (hD.mono hX.size)).trans (hb2.mono (hX.trans (hD.mono hX.size)).size)
       go_ret
       exact⟨ret_int (by unfold weighRec;rw[←HS.out]),hB⟩
   · have hd1:decide ((k:Int)<(h.d.n:Int))=false:=by simp;omega
     rw[List.drop_of_length_le (by omega)]at hs
     have HS:RowKit.Hid (s=weighW most (weigh2 most r) r.pr):=Lib.hid hs
     clear hs
     have c17:=cl (B0.cell 17)
     have c18:=cl (B0.cell 18)
     have c19:=cl (B0.cell 19)
     have c20:=cl (B0.cell 20)
     have c21:=cl (B0.cell 21)
     have c22:=cl (B0.cell 22)
     have c23:=cl (B0.cell 23)
     have c24:=cl (B0.cell 24)
     have c25:=cl (B0.cell 25)
     have c26:=cl (B0.cell 26)
     have c27:=cl (B0.cell 27)
     have c28:=cl (B0.cell 28)
     have hD:Below (w.alloc (.cells (r.vals h) 69)).heap.size (w.alloc (.cells (r.vals h) 69)) ((w.alloc (.cells (r.vals h) 69)).drewN q):=belowN _
     have IY:=IX.below hD
     have hwn:IntKind.i64.wrap (s+1)=s+1:=by rw[IntKind.wrap_i64];omega
     go_wp2_with (first
      |((with_reducible refine(weighS_any r.st h.e.A h.f.A h.e.n h.f.n h.e.c h.f.c most _ IY.hs IY.pn IY.ne IY.nf hm0 hm1).mono ?_);rintro e w2 ⟨rfl,hb2⟩)
      |((with_reducible refine(wfew _ _ most _ (by omega) (by omega) (by omega) (by omega) hm0 (by omega)).mono ?_);rintro e w3 ⟨rfl,rfl⟩))
     have hB:Below w.heap.size w w2:=(hX.trans (hD.mono hX.size)).trans (hb2.mono (hX.trans (hD.mono hX.size)).size)
     go_ret
     exact⟨ret_int (by unfold weighRec;rw[←HS.out]),hB⟩
end Go.Proofs.YtcalkfgibflbnaaGreat
