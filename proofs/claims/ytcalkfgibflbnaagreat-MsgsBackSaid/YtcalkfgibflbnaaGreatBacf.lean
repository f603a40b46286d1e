/- The walk of WeighRec. -/
import Derived.Test.YtcalkfgibflbnaaGreatBabi
namespace Go.Proofs.YtcalkfgibflbnaaGreat
set_option linter.unusedVariables false
open Go.RowKit Fl
attribute [local go_sem] dJ
def wX (most:Int) (r:Rc):Int:=bZ (jE most r.rd) (dS most 0 r.wr) most
def rU (most:Int) (r:Rc):Int:=bZ (wX most r) (min (r.ps.length:Int) (most+1)) most
def qM (most:Int) (r:Rc):Int:=bZ (dS most (rU most r) r.pr+1) (pI most r.st) most
theorem FY (s:dP) {most:Int} (hm:0<=most):0<=pI most s/\pI most s<=2*most+1:=by
 have h1:=Jg s.h hm;have h2:=Jh s.p hm;have:=fO (n:=uw most s.h) (more:=uy most s.p) (most:=most) h1.1 h2.1 hm;exact⟨this.1,this.2.1⟩
theorem Um {most s:Int} (a:Wt) (hm:0<=most) (h0:0<=s):0<=stepW most s a/\stepW most s a<=2*most+1:=by
 have h2:=fO (n:=s) (more:=1+(a.key.size:Int)) (most:=most) h0 byOmega hm;have h3:=fO (n:=bZ s (1+(a.key.size:Int)) most) (more:=(a.v.t.size:Int)) (most:=most) h2.1 byOmega hm;exact⟨h3.1,h3.2.1⟩
def afk (most:Int) (l:List Wt) (n0:Int) (w:World) (s i:Value) (wr:World):Prop:=
 ∃(k q:Nat) (n:Int),k<=l.length/\i=.int .i64 (k:Int)/\s=.int .i64 n/\0<=n/\n<=2*most+1/\dS most n (l.drop k)=dS most n0 l/\w.drewN q=wr
set_option maxRecDepth 100000 in
set_option maxHeartbeats 4000000 in
theorem afl (r:Rc) (h:aV) (most:Int) (w:World) (i:dO w r h) (hm0:0<=most) (hm1:most<=5000000):
 Calls Tryz.prog 54 #[.agg (r.vals h),.int .i64 most] w fun e w'=>e=.returned (.int .i64 (qM most r))/\Below w.heap.size w w':=by
 have hX:Below w.heap.size w (w.alloc (.cells (r.vals h) 69)):=aJ;have B0:aj (w.alloc (.cells (r.vals h) 69)) w.heap.size 69 (r.vals h):=aj.new _ _ _;have IX:=i.below hX;have hlp:r.ps.length=h.c.n:=IX.ps.1;have hlr:r.pr.length=h.d.n:=IX.pr.1;have U4:=au hlp;have hle:r.pr.length<=h.d.n:=byOmega;have hge:h.d.n<=r.pr.length:=byOmega;have hcn:=IX.nc;have hdn:=IX.nd;unfold maxLen at hcn hdn;have hT:=Ak r.rd hm0;have hT1:=hT.1;have hT2:=hT.2;have hW:=vW r.wr 0 hm0 byOmega byOmega;have hW1:=hW.1;have hW2:=hW.2;have h1:=fO (n:=jE most r.rd) (more:=dS most 0 r.wr) (most:=most) hT1 hW1 hm0;have h11:0<=wX most r:=h1.1;have h12:wX most r<=2*most+1:=h1.2.1;have h2:=fO (n:=wX most r) (more:=min (r.ps.length:Int) (most+1)) (most:=most) h11 byOmega hm0;have h21:0<=rU most r:=h2.1;have h22:rU most r<=2*most+1:=h2.2.1;have hS:=FY r.st hm0;have hS1:=hS.1;have hS2:=hS.2;have hwm:IntKind.i64.wrap (most+1)=most+1:=by rw[IntKind.wrap_i64];omega
 have c13:=cl (B0.cell 13);have c14:=cl (B0.cell 14);have c15:=cl (B0.cell 15);have c16:=cl (B0.cell 16);clear hT hW h1 h2 hS hlp hlr;have hcase:∃m2:Int,rU most r=bZ (bZ (jE most r.rd) (dS most 0 r.wr) most) m2 most/\0<=m2/\m2<=5000001/\((most+1<(h.c.n:Int)/\m2=most+1)∨(¬most+1<(h.c.n:Int)/\m2=(h.c.n:Int))):=by
  by_cases hmn:most+1<(h.c.n:Int)
  · exact⟨most+1,by unfold rU wX;rw[U4.out,Int.min_eq_right byOmega],byOmega,byOmega,.inl ⟨hmn,rfl⟩⟩
  · exact⟨(h.c.n:Int),by unfold rU wX;rw[U4.out,Int.min_eq_left byOmega],byOmega,byOmega,.inr ⟨hmn,rfl⟩⟩
 obtain⟨m2,hw2,afm,afn,hor⟩:=hcase;have HW2:=au hw2;unfold wX at h11 h12;clear hw2;rcases hor with ⟨hmn,hm2⟩|⟨hmn,hm2⟩;all_goals
  rw[hm2]at afm afn HW2;clear hm2;go_enter Tryz.func54,Tryz.ntmps54;go_wp2
  go_quiet (first
   |(go_at_call 51;exact nJ (Ob h.a.A h.a.n h.a.c r.rd most _ IX.rd IX.na hm0 hm1))
   |(go_at_call 53;exact Oe (N8 h.b.A h.b.n h.b.c r.wr most _ IX.wr IX.nb hm0 hm1))
   |(go_at_call 50;exact nJ (qA _ _ _ _ byOmega byOmega byOmega byOmega hm0 byOmega)))
  go_wp2_with ((with_reducible refine(qA _ _ most _ byOmega byOmega byOmega byOmega hm0 byOmega).mono ?_);rintro e w1 ⟨rfl,rfl⟩)
  go_loopw [5,6] (fun s i wr=>afk most r.pr (rU most r) (w.alloc (.cells (r.vals h) 69)) s i wr) (fun _ i _=>h.d.n-(intOf i).toNat)
  case atStart=>exact⟨0,_,rU most r,byOmega,rfl,by first|(rw[HW2.out];done)|(rw[HW2.out,Int.min_eq_right byOmega];done)|(rw[HW2.out,Int.min_eq_left byOmega];done),h21,h22,rfl,rfl⟩
  case round=>
   obtain⟨k,q,s,hk,rfl,rfl,hs0,hs1,hs,rfl⟩:=hrel;by_cases hlt:k<h.d.n
   · have hd1:decide ((k:Int)<(h.d.n:Int))=true:=ay;by_cases hst:s<=most
     · obtain⟨ad,a,hA,ha,hbk,hok,e0,e1,e2,e3⟩:=IX.pr.wt hlt;replace c16:(w.alloc (.cells (r.vals h) 69)).cell? ⟨w.heap.size,16,none⟩=some (.slice (some ad) h.d.n h.d.c):=(by rw[<-hA];exact c16);have hd2:decide (s<=most)=true:=(by simp[hst]);have hk0:(0:Int)<=(k:Int):=byOmega;have hk1:(k:Int)<(h.d.n:Int):=byOmega;have hsz:=hok.1;have hsz2:=hok.2.2.2;rw[N7 ha hst]at hs;have HS:=au hs;have hr1:=fO (n:=s) (more:=1+(a.key.size:Int)) (most:=most) hs0 byOmega hm0;have hr2:=Um a hm0 hs0;have hwr:IntKind.i64.wrap (1+(a.key.size:Int))=1+(a.key.size:Int):=(by rw[IntKind.wrap_i64];omega);have hr3:=hr1.1;have hr4:=hr1.2.1;have wL:=hr2.1;have zY:=hr2.2;clear hr1 hr2;clear ha hs hok hA;go_wp2
       go_quiet (first
        |(go_at_call 50;exact Gs (qA _ _ _ _ byOmega byOmega byOmega byOmega hm0 byOmega)))
       go_wp2;go_roundw
       case rel=>exact⟨k+1,q+_,stepW most s a,byOmega,by go_num,rfl,wL,zY,HS.out,rfl⟩
       case measure=>simp[intOf];omega
     · have hd2:decide (s<=most)=false:=ay;rw[Ee _ byOmega]at hs;have HS:=au hs;clear hs;have c17:=cl (B0.cell 17);have c18:=cl (B0.cell 18);have c19:=cl (B0.cell 19);have c20:=cl (B0.cell 20);have c21:=cl (B0.cell 21);have Fv:=cl (B0.cell 22);have c23:=cl (B0.cell 23);have c24:=cl (B0.cell 24);have c25:=cl (B0.cell 25);have Bl:=cl (B0.cell 26);have Bo:=cl (B0.cell 27);have c28:=cl (B0.cell 28);have hD:Below (w.alloc (.cells (r.vals h) 69)).heap.size (w.alloc (.cells (r.vals h) 69)) ((w.alloc (.cells (r.vals h) 69)).drewN q):=bD _;have IY:=IX.below hD;have hwn:IntKind.i64.wrap (s+1)=s+1:=(by rw[IntKind.wrap_i64];omega);go_wp2_with (first
        |((with_reducible refine(Og r.st h.e.A h.f.A h.e.n h.f.n h.e.c h.f.c most _ IY.hs IY.pn IY.ne IY.nf hm0 hm1).mono ?_);rintro e w2 ⟨rfl,hb2⟩)
        |((with_reducible refine(qA _ _ most _ byOmega byOmega byOmega byOmega hm0 byOmega).mono ?_);rintro e w3 ⟨rfl,rfl⟩))
       have hB:Below w.heap.size w w2:=(hX.trans (hD.mono hX.size)).trans (hb2.mono (hX.trans (hD.mono hX.size)).size);go_ret;exact⟨nH (by unfold qM;rw[<-HS.out]),hB⟩
   · have hd1:decide ((k:Int)<(h.d.n:Int))=false:=ay;rw[bF byOmega]at hs;have HS:RowKit.Hid (s=dS most (rU most r) r.pr):=au hs;clear hs;have c17:=cl (B0.cell 17);have c18:=cl (B0.cell 18);have c19:=cl (B0.cell 19);have c20:=cl (B0.cell 20);have c21:=cl (B0.cell 21);have Fv:=cl (B0.cell 22);have c23:=cl (B0.cell 23);have c24:=cl (B0.cell 24);have c25:=cl (B0.cell 25);have Bl:=cl (B0.cell 26);have Bo:=cl (B0.cell 27);have c28:=cl (B0.cell 28);have hD:Below (w.alloc (.cells (r.vals h) 69)).heap.size (w.alloc (.cells (r.vals h) 69)) ((w.alloc (.cells (r.vals h) 69)).drewN q):=bD _;have IY:=IX.below hD;have hwn:IntKind.i64.wrap (s+1)=s+1:=(by rw[IntKind.wrap_i64];omega);go_wp2_with (first
      |((with_reducible refine(Og r.st h.e.A h.f.A h.e.n h.f.n h.e.c h.f.c most _ IY.hs IY.pn IY.ne IY.nf hm0 hm1).mono ?_);rintro e w2 ⟨rfl,hb2⟩)
      |((with_reducible refine(qA _ _ most _ byOmega byOmega byOmega byOmega hm0 byOmega).mono ?_);rintro e w3 ⟨rfl,rfl⟩))
     have hB:Below w.heap.size w w2:=(hX.trans (hD.mono hX.size)).trans (hb2.mono (hX.trans (hD.mono hX.size)).size);go_ret;exact⟨nH (by unfold qM;rw[<-HS.out]),hB⟩
