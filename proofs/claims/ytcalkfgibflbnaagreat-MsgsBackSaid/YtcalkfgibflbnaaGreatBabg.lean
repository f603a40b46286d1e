/- The walks of Point and Mid, of the program and of the document's answer. -/
import Derived.Test.YtcalkfgibflbnaaGreatBaba
import Derived.Test.YtcalkfgibflbnaaGreatBabb
import Derived.Test.YtcalkfgibflbnaaGreatBabc
import Derived.Test.YtcalkfgibflbnaaGreatBabf
import Derived.Test.YtcalkfgibflbnaaGreatBacf
namespace Go.Proofs.YtcalkfgibflbnaaGreat
open Go.RowKit Fl
theorem Ub {a b:Nat} {x y:Int} (h:a=b) (h':x=y):Ending.returned (.tuple #[.float .f64 a,.int .i64 x])=.returned (.tuple #[.float .f64 b,.int .i64 y]):=by rw[h,h']
theorem Uc {a:Nat} (h:lF a=true):mV a=a:=by unfold mV;rw[if_pos h]
theorem Ud {a:Nat} (h:lF a=true):uH a=0:=by unfold uH;rw[h];rfl
theorem adl {a:Nat} (h:lF a=false):mV a=0:=by unfold mV;rw[h];rfl
theorem Ue {a:Nat} (h:lF a=false) (h':¬a=9223372036854775808):uH a=1:=by unfold uH;rw[h,decide_eq_false h'];rfl
set_option maxHeartbeats 400000 in
theorem point (a:Nat) (w:World) (ha:a<18446744073709551616):
 Calls Tryz.prog 225 #[.float .f64 a] w fun e w'=>e=.returned (.tuple #[.float .f64 (mV a),.int .i64 (uH a)])/\w=w':=by
 have h4:=XV a ha;generalize hk:pR (bU a)=k at h4;have H:=Lib.hid hk;clear hk;by_cases hz:a=9223372036854775808
 · subst hz;have g4:(k==4)=true:=(by rw[h4];rfl);clear h4;go_enter Tryz.func225,Tryz.ntmps225;go_wp2_with ((with_reducible refine(Hz _ _).mono ?_);rw[H.out];rintro e w' ⟨rfl,rfl⟩)
   go_ret2
   exact⟨rfl,rfl⟩
 · have g4:(k==4)=false:=(by rw[h4];exact decide_eq_false hz);clear h4;have HZ:=Lib.hid hz;clear hz;rcases Bool.eq_false_or_eq_true (lF a) with h1|h1
   all_goals
    have H1:=Lib.hid h1;go_enter Tryz.func225,Tryz.ntmps225;go_wp2_with (first|((with_reducible refine(Hz _ _).mono ?_);rw[H.out];rintro e w' ⟨rfl,rfl⟩)|((with_reducible refine(Ko _ _ ha).mono ?_);rintro e w' ⟨rfl,rfl⟩))
    go_ret2
   · exact⟨Ub (Uc H1.out).symm (Ud H1.out).symm,rfl⟩
   · exact⟨Ub (adl H1.out).symm (Ue H1.out HZ.out).symm,rfl⟩
end Go.Proofs.YtcalkfgibflbnaaGreat
namespace Go.Proofs.YtcalkfgibflbnaaGreat
set_option maxHeartbeats 4000000
set_option maxRecDepth 100000
set_option linter.unusedVariables false
open Go.RowKit Fl
attribute [local go_sem] dJ
theorem vV (s:Sp) (w:World):Calls Tryz.prog 60 #[s.val] w fun e w'=>e=.returned (.bool s.may)/\Below w.heap.size w w':=by
 refine(zS s w).mono ?_;rintro e w' ⟨rfl,rfl⟩;exact⟨rfl,(aC).alloc (Nat.le_refl _) _⟩
def rP (n:Int):Bool:=decide (1<=n)&&decide (n<=12)
theorem Uf (n:Int) (w:World):Calls Tryz.prog 226 #[.int .i64 n] w fun e w'=>e=.returned (.bool (rP n))/\w=w':=by
 go_enter Tryz.func226,Tryz.ntmps226;go_wp2;all_goals go_ret
 all_goals refine⟨aZ ?_,rfl⟩
 all_goals unfold rP
 all_goals simp_all<;>omega
def Sp.uV (s:Sp):Bool:=s.may&& !s.zero
theorem Ug (s:Sp) (w:World):Calls Tryz.prog 227 #[s.val] w fun e w'=>e=.returned (.bool s.uV)/\Below w.heap.size w w':=by
 have z1:=fun w=>fQ s w
 have z2:∀w,(binOp .neq 26 (.agg #[.int .i64 s.w,.int .i64 s.l,.int .i64 s.n]) (.agg #[.int .i64 0,.int .i64 0,.int .i64 0])).run Tryz.prog w=.ok (.bool (!s.zero)) w:=fun w=>by simp[go_sem,z1]
 have hM:=fun w=>vV s w
 have HZ:=au (show s.uV=(s.may&& !s.zero) from rfl);have hX:Below w.heap.size w (w.alloc (.cells s.arr 26)):=aJ;have B0:=aj.new w 26 s.arr;generalize s.may=b1 at*;generalize s.zero=b2 at*;go_enter Tryz.func227,Tryz.ntmps227;go_wp2_with ((with_reducible refine(hM _).mono ?_);rintro e w1 ⟨rfl,hb1⟩;obtain⟨g1,x0,x1,x2⟩:=(B0.below hb1 B0.lt).three);all_goals go_ret
 all_goals refine⟨aZ ?_,hX.trans (hb1.mono hX.size)⟩
 all_goals rw[HZ.out]
 all_goals simp_all
def zq (c:Bool) (s:Sp):Bool:=if c then s.uV else s.zero
theorem adn (c:Bool) (s:Sp) (w:World):Calls Tryz.prog 224 #[.bool c,s.val] w fun e w'=>e=.returned (.bool (zq c s))/\Below w.heap.size w w':=by
 have z1:=fun w=>fQ s w
 have hM:=fun w=>Ug s w
 have hX:Below w.heap.size w (w.alloc (.cells s.arr 26)):=aJ;have HZ:=au (show zq c s=(if c then s.uV else s.zero) from rfl);generalize s.uV=b1 at*;generalize s.zero=b2 at*;cases c
 · go_enter Tryz.func224,Tryz.ntmps224;go_wp2;all_goals go_ret
   exact⟨aZ (by rw[HZ.out];rfl),hX⟩
 · go_enter Tryz.func224,Tryz.ntmps224;go_wp2_with ((with_reducible refine(hM _).mono ?_);rintro e w1 ⟨rfl,hb1⟩);all_goals go_ret
   exact⟨aZ (by rw[HZ.out];rfl),hX.trans (hb1.mono hX.size)⟩
def qp (pv s:Sp) (t:Tx) (l:List Wt):Bool:=pv.may&&decide (pv.cmp s<0)&&decide (0<l.length)&&(dw ⟨t,s,[],l⟩==0)
theorem Uh (pv s:Sp) (t:Tx) (A:Option Addr) (n c:Nat) (l:List Wt) (w:World) (h:Sl aF 4 w w.heap.size A n l) (hn:n<=5000000):
 Calls Tryz.prog 63 #[pv.val,s.val,t.val,.slice A n c] w fun e w'=>e=.returned (.bool (qp pv s t l))/\Below w.heap.size w w':=by
 have hM:=fun w=>vV pv w
 have hC:=fun w=>Kw pv s w
 have hP:=fun w' (hb:Below w.heap.size w w')=>KE ⟨t,s,[],l⟩ none A 0 n 0 c w' Sl.nil ((h.below aF.kept hb).more aF.kept hb.size) (Nat.zero_le _) hn
 have HZ:=au (show qp pv s t l=(pv.may&&decide (pv.cmp s<0)&&decide (0<n)&&(dw ⟨t,s,[],l⟩==0)) by unfold qp;rw[h.1]);have hX:Below w.heap.size w (((w.alloc (.cells pv.arr 26)).alloc (.cells s.arr 26)).alloc (.cells #[.int .i64 t.c,.int .i64 t.l,.int .i64 t.s] 23)):=aJ;have B0:=((aj.new w 26 pv.arr).alloc (.cells s.arr 26)).alloc (.cells #[.int .i64 t.c,.int .i64 t.l,.int .i64 t.s] 23);have B1:=(aj.new' (w:=w.alloc (.cells pv.arr 26)) (g:=w.heap.size+1) 26 s.arr aA).alloc (.cells #[.int .i64 t.c,.int .i64 t.l,.int .i64 t.s] 23);have B2:=aj.new' (w:=(w.alloc (.cells pv.arr 26)).alloc (.cells s.arr 26)) (g:=w.heap.size+1+1) 23 #[.int .i64 t.c,.int .i64 t.l,.int .i64 t.s] aA;clear h;generalize pv.may=b1 at*;generalize pv.cmp s=z at*;generalize dw ⟨t,s,[],l⟩=p at*;go_enter Tryz.func63,Tryz.ntmps63;go_wp2_with (first
  |((with_reducible refine(hM _).mono ?_);rintro e w1 ⟨rfl,hb1⟩
    have C0:=B0.below hb1 B0.lt;have C1:=B1.below hb1 B1.lt;have C2:=B2.below hb1 B2.lt;have hY:=hX.trans (hb1.mono hX.size);obtain⟨g0,x0,x1,x2⟩:=C0.three;obtain⟨g1,y0,y1,y2⟩:=C1.three;obtain⟨g2,t0,t1,t2⟩:=C2.three)
  |((with_reducible refine(hC _).mono ?_);rintro e w2 ⟨rfl,hb2⟩
    have D1:=C1.below hb2 C1.lt;have D2:=C2.below hb2 C2.lt;have hZ:=hY.trans (hb2.mono hY.size);obtain⟨k1,u0,u1,u2⟩:=D1.three;obtain⟨k2,v0,v1,v2⟩:=D2.three)
  |((with_reducible refine(hP _ hZ).mono ?_);rintro e w3 ⟨rfl,hb3⟩))
 all_goals go_ret
 all_goals refine⟨aZ ?_,by first|exact hZ.trans (hb3.mono hZ.size)|exact hZ|exact hY⟩
 all_goals rw[HZ.out]
 all_goals simp_all<;>omega
structure iR (r:Rc) (h:aV):Prop where
 a:h.a.n<=5000000
 b:h.b.n<=5000000
 c:h.c.n<=5000000
 d:h.d.n<=5000000
 h:tY r.st.h
 p:uK r.st.p
def fieldsB (r:Rc):Bool:=
 if r.k=1 then (dV r.st) else
 if r.k=2 then (decide (0<=r.n)&&decide (r.n<=281474976710656)) else
 if r.k=3 then ((dw ⟨r.t,r.s,r.rd,r.wr⟩==0)&&dQ r.ps) else
 if r.k=4 then (r.t.may&&zq r.cm r.s) else
 if r.k=5 then r.s.may else
 if r.k=6 then ((uH r.pt==0)&&ku (mV r.pt) 0&&jS (mV r.pt) 4607182418800017408&&rP r.n&&r.s.may) else
 if r.k=7 then (rP r.n) else
 if r.k=8 then (decide (1<=r.n)) else
 if r.k=9 then (r.t.may&&r.s.uV&&dQ r.ps) else
 if r.k=10 then r.t.may else
 if r.k=11 then (qp r.pv r.s r.t r.wr) else
 if r.k=12 then (r.s.may&&pF r.pr) else
 false
theorem ado (r:Rc) (h:aV) (w:World) (hk:r.k=1) (ok:r.ok) (i:dO w r h) (sm:iR r h):
 Calls Tryz.prog 199 #[.agg (r.vals h)] w fun e w'=>e=.returned (.bool (dV r.st))/\Below w.heap.size w w':=by
 obtain⟨k,t,s,pv,cm,n,pt,rd,wr,ps,pr,st⟩:=r;change k=1 at hk;subst hk;have hS:=fun w' (hb:Below w.heap.size w w')=>Qp st h.e.A h.f.A h.e.n h.f.n h.e.c h.f.c w' ok.rg (i.below hb).hs (i.below hb).pn sm.h sm.p
 have hX:Below w.heap.size w (w.alloc (.cells (Rc.vals ⟨1,t,s,pv,cm,n,pt,rd,wr,ps,pr,st⟩ h) 69)):=aJ;have B0:aj (w.alloc (.cells (Rc.vals ⟨1,t,s,pv,cm,n,pt,rd,wr,ps,pr,st⟩ h) 69)) w.heap.size 69 (Rc.vals ⟨1,t,s,pv,cm,n,pt,rd,wr,ps,pr,st⟩ h):=aj.new _ _ _;have HV:=au (show (dV st)=(dV st) from rfl);clear ok i sm;generalize hg0:dV st=g0 at*;clear hg0;go_enter Tryz.func199,Tryz.ntmps199;go_wp2_with (first
  |((with_reducible refine(hS _ hX).mono ?_);rintro e w1 ⟨rfl,hb1⟩
    have hY:=hX.trans (hb1.mono hX.size)))
 all_goals go_ret
 all_goals refine⟨aZ ?_,by first|exact hY|exact hX⟩
 all_goals first|rfl|(simp_all;done)|(simp_all;omega)
theorem adp (r:Rc) (h:aV) (w:World) (hk:r.k=2) (ok:r.ok) (i:dO w r h) (sm:iR r h):
 Calls Tryz.prog 199 #[.agg (r.vals h)] w fun e w'=>e=.returned (.bool (decide (0<=r.n)&&decide (r.n<=281474976710656)))/\Below w.heap.size w w':=by
 obtain⟨k,t,s,pv,cm,n,pt,rd,wr,ps,pr,st⟩:=r;change k=2 at hk;subst hk;have hX:Below w.heap.size w (w.alloc (.cells (Rc.vals ⟨2,t,s,pv,cm,n,pt,rd,wr,ps,pr,st⟩ h) 69)):=aJ;have B0:aj (w.alloc (.cells (Rc.vals ⟨2,t,s,pv,cm,n,pt,rd,wr,ps,pr,st⟩ h) 69)) w.heap.size 69 (Rc.vals ⟨2,t,s,pv,cm,n,pt,rd,wr,ps,pr,st⟩ h):=aj.new _ _ _;have HV:=au (show (decide (0<=n)&&decide (n<=281474976710656))=(decide (0<=n)&&decide (n<=281474976710656)) from rfl);clear ok i sm;go_enter Tryz.func199,Tryz.ntmps199;go_wp2;all_goals go_ret
 all_goals refine⟨aZ ?_,hX⟩
 all_goals first|rfl|(simp_all;done)|(simp_all;omega)
theorem adq (r:Rc) (h:aV) (w:World) (hk:r.k=3) (ok:r.ok) (i:dO w r h) (sm:iR r h):
 Calls Tryz.prog 199 #[.agg (r.vals h)] w fun e w'=>e=.returned (.bool ((dw ⟨r.t,r.s,r.rd,r.wr⟩==0)&&dQ r.ps))/\Below w.heap.size w w':=by
 obtain⟨k,t,s,pv,cm,n,pt,rd,wr,ps,pr,st⟩:=r;change k=3 at hk;subst hk;have hS:=fun w' (hb:Below w.heap.size w w')=>KE ⟨t,s,rd,wr⟩ h.a.A h.b.A h.a.n h.b.n h.a.c h.b.c w' (i.below hb).rd (i.below hb).wr i.na sm.b
 have hQ:=fun w' (hb:Below w.heap.size w w')=>Lp h.c.A h.c.n h.c.c ps w' (i.below hb).ps i.nc
 have hX:Below w.heap.size w (w.alloc (.cells (Rc.vals ⟨3,t,s,pv,cm,n,pt,rd,wr,ps,pr,st⟩ h) 69)):=aJ;have B0:aj (w.alloc (.cells (Rc.vals ⟨3,t,s,pv,cm,n,pt,rd,wr,ps,pr,st⟩ h) 69)) w.heap.size 69 (Rc.vals ⟨3,t,s,pv,cm,n,pt,rd,wr,ps,pr,st⟩ h):=aj.new _ _ _;have HV:=au (show ((dw ⟨t,s,rd,wr⟩==0)&&dQ ps)=((dw ⟨t,s,rd,wr⟩==0)&&dQ ps) from rfl);clear ok i sm;generalize hg0:dw ⟨t,s,rd,wr⟩=g0 at*;generalize hg1:dQ ps=g1 at*;clear hg0 hg1;go_enter Tryz.func199,Tryz.ntmps199;go_wp2_with (first
  |((with_reducible refine(hS _ hX).mono ?_);rintro e w1 ⟨rfl,hb1⟩
    have hY:=hX.trans (hb1.mono hX.size);have C0:=B0.below hb1 B0.lt;have l0:=C0.lt;have BQ:=C0.cell 15;simp only[List.getElem?_toArray,List.getElem?_cons_succ,getZero]at BQ)
  |((with_reducible refine(hQ _ hY).mono ?_);rintro e w2 ⟨rfl,rfl⟩))
 all_goals go_ret
 all_goals refine⟨aZ ?_,by first|exact hY|exact hX⟩
 all_goals first|rfl|(simp_all;done)|(simp_all;omega)
theorem adr (r:Rc) (h:aV) (w:World) (hk:r.k=4) (ok:r.ok) (i:dO w r h) (sm:iR r h):
 Calls Tryz.prog 199 #[.agg (r.vals h)] w fun e w'=>e=.returned (.bool (r.t.may&&zq r.cm r.s))/\Below w.heap.size w w':=by
 obtain⟨k,t,s,pv,cm,n,pt,rd,wr,ps,pr,st⟩:=r;change k=4 at hk;subst hk;have hS:=fun w' (hb:Below w.heap.size w w')=>wI t w'
 have hQ:=fun w' (hb:Below w.heap.size w w')=>adn cm s w'
 have hX:Below w.heap.size w (w.alloc (.cells (Rc.vals ⟨4,t,s,pv,cm,n,pt,rd,wr,ps,pr,st⟩ h) 69)):=aJ;have B0:aj (w.alloc (.cells (Rc.vals ⟨4,t,s,pv,cm,n,pt,rd,wr,ps,pr,st⟩ h) 69)) w.heap.size 69 (Rc.vals ⟨4,t,s,pv,cm,n,pt,rd,wr,ps,pr,st⟩ h):=aj.new _ _ _;have HV:=au (show (t.may&&zq cm s)=(t.may&&zq cm s) from rfl);clear ok i sm;generalize hg0:t.may=g0 at*;generalize hg1:zq cm s=g1 at*;clear hg0 hg1;go_enter Tryz.func199,Tryz.ntmps199;go_wp2_with (first
  |((with_reducible refine(hS _ hX).mono ?_);rintro e w1 ⟨rfl,hb1⟩
    have hY:=hX.trans (hb1.mono hX.size);have C0:=B0.below hb1 B0.lt;have l0:=C0.lt;have BR:=C0.cell 4;have BU:=C0.cell 5;have BZ:=C0.cell 6;have Nl:=C0.cell 10;simp only[List.getElem?_toArray,List.getElem?_cons_succ,getZero]at BR BU BZ Nl)
  |((with_reducible refine(hQ _ hY).mono ?_);rintro e w2 ⟨rfl,hb2⟩
    have hZ:=hY.trans (hb2.mono hY.size)))
 all_goals go_ret
 all_goals refine⟨aZ ?_,by first|exact hZ|exact hY|exact hX⟩
 all_goals first|rfl|(simp_all;done)|(simp_all;omega)
theorem ads (r:Rc) (h:aV) (w:World) (hk:r.k=5) (ok:r.ok) (i:dO w r h) (sm:iR r h):
 Calls Tryz.prog 199 #[.agg (r.vals h)] w fun e w'=>e=.returned (.bool r.s.may)/\Below w.heap.size w w':=by
 obtain⟨k,t,s,pv,cm,n,pt,rd,wr,ps,pr,st⟩:=r;change k=5 at hk;subst hk;have hS:=fun w' (hb:Below w.heap.size w w')=>vV s w'
 have hX:Below w.heap.size w (w.alloc (.cells (Rc.vals ⟨5,t,s,pv,cm,n,pt,rd,wr,ps,pr,st⟩ h) 69)):=aJ;have B0:aj (w.alloc (.cells (Rc.vals ⟨5,t,s,pv,cm,n,pt,rd,wr,ps,pr,st⟩ h) 69)) w.heap.size 69 (Rc.vals ⟨5,t,s,pv,cm,n,pt,rd,wr,ps,pr,st⟩ h):=aj.new _ _ _;have HV:=au (show s.may=s.may from rfl);clear ok i sm;generalize hg0:s.may=g0 at*;clear hg0;go_enter Tryz.func199,Tryz.ntmps199;go_wp2_with (first
  |((with_reducible refine(hS _ hX).mono ?_);rintro e w1 ⟨rfl,hb1⟩
    have hY:=hX.trans (hb1.mono hX.size)))
 all_goals go_ret
 all_goals refine⟨aZ ?_,by first|exact hY|exact hX⟩
 all_goals first|rfl|(simp_all;done)|(simp_all;omega)
theorem adt (r:Rc) (h:aV) (w:World) (hk:r.k=6) (ok:r.ok) (i:dO w r h) (sm:iR r h):
 Calls Tryz.prog 199 #[.agg (r.vals h)] w fun e w'=>e=.returned (.bool ((uH r.pt==0)&&ku (mV r.pt) 0&&jS (mV r.pt) 4607182418800017408&&rP r.n&&r.s.may))/\Below w.heap.size w w':=by
 obtain⟨k,t,s,pv,cm,n,pt,rd,wr,ps,pr,st⟩:=r;change k=6 at hk;subst hk;have hS:=fun w' (hb:Below w.heap.size w w')=>point pt w' ok.pt
 have hQ:=fun w' (hb:Below w.heap.size w w')=>Uf n w'
 have hR:=fun w' (hb:Below w.heap.size w w')=>vV s w'
 have hX:Below w.heap.size w (w.alloc (.cells (Rc.vals ⟨6,t,s,pv,cm,n,pt,rd,wr,ps,pr,st⟩ h) 69)):=aJ;have B0:aj (w.alloc (.cells (Rc.vals ⟨6,t,s,pv,cm,n,pt,rd,wr,ps,pr,st⟩ h) 69)) w.heap.size 69 (Rc.vals ⟨6,t,s,pv,cm,n,pt,rd,wr,ps,pr,st⟩ h):=aj.new _ _ _;have HV:=au (show ((uH pt==0)&&ku (mV pt) 0&&jS (mV pt) 4607182418800017408&&rP n&&s.may)=((uH pt==0)&&ku (mV pt) 0&&jS (mV pt) 4607182418800017408&&rP n&&s.may) from rfl);clear ok i sm;generalize hg0:rP n=g0 at*;generalize hg1:s.may=g1 at*;clear hg0 hg1;go_enter Tryz.func199,Tryz.ntmps199;go_wp2_with (first
  |((with_reducible refine(hS _ hX).mono ?_);rintro e w1 ⟨rfl,rfl⟩)
  |((with_reducible refine(hQ _ hX).mono ?_);rintro e w2 ⟨rfl,rfl⟩)
  |((with_reducible refine(hR _ hX).mono ?_);rintro e w3 ⟨rfl,hb3⟩
    have hW:=hX.trans (hb3.mono hX.size)))
 all_goals go_ret
 all_goals refine⟨aZ ?_,by first|exact hW|exact hX⟩
 all_goals first|rfl|(simp_all [ku,jS];done)|(simp_all;omega)
theorem adu (r:Rc) (h:aV) (w:World) (hk:r.k=7) (ok:r.ok) (i:dO w r h) (sm:iR r h):
 Calls Tryz.prog 199 #[.agg (r.vals h)] w fun e w'=>e=.returned (.bool (rP r.n))/\Below w.heap.size w w':=by
 obtain⟨k,t,s,pv,cm,n,pt,rd,wr,ps,pr,st⟩:=r;change k=7 at hk;subst hk;have hS:=fun w' (hb:Below w.heap.size w w')=>Uf n w'
 have hX:Below w.heap.size w (w.alloc (.cells (Rc.vals ⟨7,t,s,pv,cm,n,pt,rd,wr,ps,pr,st⟩ h) 69)):=aJ;have B0:aj (w.alloc (.cells (Rc.vals ⟨7,t,s,pv,cm,n,pt,rd,wr,ps,pr,st⟩ h) 69)) w.heap.size 69 (Rc.vals ⟨7,t,s,pv,cm,n,pt,rd,wr,ps,pr,st⟩ h):=aj.new _ _ _;have HV:=au (show (rP n)=(rP n) from rfl);clear ok i sm;generalize hg0:rP n=g0 at*;clear hg0;go_enter Tryz.func199,Tryz.ntmps199;go_wp2_with (first
  |((with_reducible refine(hS _ hX).mono ?_);rintro e w1 ⟨rfl,rfl⟩))
 all_goals go_ret
 all_goals refine⟨aZ ?_,by first|exact hX⟩
 all_goals first|rfl|(simp_all;done)|(simp_all;omega)
theorem adv (r:Rc) (h:aV) (w:World) (hk:r.k=8) (ok:r.ok) (i:dO w r h) (sm:iR r h):
 Calls Tryz.prog 199 #[.agg (r.vals h)] w fun e w'=>e=.returned (.bool (decide (1<=r.n)))/\Below w.heap.size w w':=by
 obtain⟨k,t,s,pv,cm,n,pt,rd,wr,ps,pr,st⟩:=r;change k=8 at hk;subst hk;have hX:Below w.heap.size w (w.alloc (.cells (Rc.vals ⟨8,t,s,pv,cm,n,pt,rd,wr,ps,pr,st⟩ h) 69)):=aJ;have B0:aj (w.alloc (.cells (Rc.vals ⟨8,t,s,pv,cm,n,pt,rd,wr,ps,pr,st⟩ h) 69)) w.heap.size 69 (Rc.vals ⟨8,t,s,pv,cm,n,pt,rd,wr,ps,pr,st⟩ h):=aj.new _ _ _;have HV:=au (show (decide (1<=n))=(decide (1<=n)) from rfl);clear ok i sm;go_enter Tryz.func199,Tryz.ntmps199;go_wp2;all_goals go_ret
 all_goals refine⟨aZ ?_,hX⟩
 all_goals first|rfl|(simp_all;done)|(simp_all;omega)
theorem adw (r:Rc) (h:aV) (w:World) (hk:r.k=9) (ok:r.ok) (i:dO w r h) (sm:iR r h):
 Calls Tryz.prog 199 #[.agg (r.vals h)] w fun e w'=>e=.returned (.bool (r.t.may&&r.s.uV&&dQ r.ps))/\Below w.heap.size w w':=by
 obtain⟨k,t,s,pv,cm,n,pt,rd,wr,ps,pr,st⟩:=r;change k=9 at hk;subst hk;have hS:=fun w' (hb:Below w.heap.size w w')=>wI t w'
 have hQ:=fun w' (hb:Below w.heap.size w w')=>Ug s w'
 have hR:=fun w' (hb:Below w.heap.size w w')=>Lp h.c.A h.c.n h.c.c ps w' (i.below hb).ps i.nc
 have hX:Below w.heap.size w (w.alloc (.cells (Rc.vals ⟨9,t,s,pv,cm,n,pt,rd,wr,ps,pr,st⟩ h) 69)):=aJ;have B0:aj (w.alloc (.cells (Rc.vals ⟨9,t,s,pv,cm,n,pt,rd,wr,ps,pr,st⟩ h) 69)) w.heap.size 69 (Rc.vals ⟨9,t,s,pv,cm,n,pt,rd,wr,ps,pr,st⟩ h):=aj.new _ _ _;have HV:=au (show (t.may&&s.uV&&dQ ps)=(t.may&&s.uV&&dQ ps) from rfl);clear ok i sm;generalize hg0:t.may=g0 at*;generalize hg1:s.uV=g1 at*;generalize hg2:dQ ps=g2 at*;clear hg0 hg1 hg2;go_enter Tryz.func199,Tryz.ntmps199;go_wp2_with (first
  |((with_reducible refine(hS _ hX).mono ?_);rintro e w1 ⟨rfl,hb1⟩
    have hY:=hX.trans (hb1.mono hX.size);have C0:=B0.below hb1 B0.lt;have l0:=C0.lt;have BR:=C0.cell 4;have BU:=C0.cell 5;have BZ:=C0.cell 6;have BQ:=C0.cell 15;simp only[List.getElem?_toArray,List.getElem?_cons_succ,getZero]at BR BU BZ BQ)
  |((with_reducible refine(hQ _ hY).mono ?_);rintro e w2 ⟨rfl,hb2⟩
    have hZ:=hY.trans (hb2.mono hY.size);have C1:=C0.below hb2 C0.lt;have l1:=C1.lt;have FQ:=C1.cell 4;have FT:=C1.cell 5;have FU:=C1.cell 6;have FV:=C1.cell 15;simp only[List.getElem?_toArray,List.getElem?_cons_succ,getZero]at FQ FT FU FV)
  |((with_reducible refine(hR _ hZ).mono ?_);rintro e w3 ⟨rfl,rfl⟩))
 all_goals go_ret
 all_goals refine⟨aZ ?_,by first|exact hZ|exact hY|exact hX⟩
 all_goals first|rfl|(simp_all;done)|(simp_all;omega)
theorem adx (r:Rc) (h:aV) (w:World) (hk:r.k=10) (ok:r.ok) (i:dO w r h) (sm:iR r h):
 Calls Tryz.prog 199 #[.agg (r.vals h)] w fun e w'=>e=.returned (.bool r.t.may)/\Below w.heap.size w w':=by
 obtain⟨k,t,s,pv,cm,n,pt,rd,wr,ps,pr,st⟩:=r;change k=10 at hk;subst hk;have hS:=fun w' (hb:Below w.heap.size w w')=>wI t w'
 have hX:Below w.heap.size w (w.alloc (.cells (Rc.vals ⟨10,t,s,pv,cm,n,pt,rd,wr,ps,pr,st⟩ h) 69)):=aJ;have B0:aj (w.alloc (.cells (Rc.vals ⟨10,t,s,pv,cm,n,pt,rd,wr,ps,pr,st⟩ h) 69)) w.heap.size 69 (Rc.vals ⟨10,t,s,pv,cm,n,pt,rd,wr,ps,pr,st⟩ h):=aj.new _ _ _;have HV:=au (show t.may=t.may from rfl);clear ok i sm;generalize hg0:t.may=g0 at*;clear hg0;go_enter Tryz.func199,Tryz.ntmps199;go_wp2_with (first
  |((with_reducible refine(hS _ hX).mono ?_);rintro e w1 ⟨rfl,hb1⟩
    have hY:=hX.trans (hb1.mono hX.size)))
 all_goals go_ret
 all_goals refine⟨aZ ?_,by first|exact hY|exact hX⟩
 all_goals first|rfl|(simp_all;done)|(simp_all;omega)
theorem ady (r:Rc) (h:aV) (w:World) (hk:r.k=11) (ok:r.ok) (i:dO w r h) (sm:iR r h):
 Calls Tryz.prog 199 #[.agg (r.vals h)] w fun e w'=>e=.returned (.bool (qp r.pv r.s r.t r.wr))/\Below w.heap.size w w':=by
 obtain⟨k,t,s,pv,cm,n,pt,rd,wr,ps,pr,st⟩:=r;change k=11 at hk;subst hk;have hS:=fun w' (hb:Below w.heap.size w w')=>Uh pv s t h.b.A h.b.n h.b.c wr w' (i.below hb).wr sm.b
 have hX:Below w.heap.size w (w.alloc (.cells (Rc.vals ⟨11,t,s,pv,cm,n,pt,rd,wr,ps,pr,st⟩ h) 69)):=aJ;have B0:aj (w.alloc (.cells (Rc.vals ⟨11,t,s,pv,cm,n,pt,rd,wr,ps,pr,st⟩ h) 69)) w.heap.size 69 (Rc.vals ⟨11,t,s,pv,cm,n,pt,rd,wr,ps,pr,st⟩ h):=aj.new _ _ _;have HV:=au (show (qp pv s t wr)=(qp pv s t wr) from rfl);clear ok i sm;generalize hg0:qp pv s t wr=g0 at*;clear hg0;go_enter Tryz.func199,Tryz.ntmps199;go_wp2_with (first
  |((with_reducible refine(hS _ hX).mono ?_);rintro e w1 ⟨rfl,hb1⟩
    have hY:=hX.trans (hb1.mono hX.size)))
 all_goals go_ret
 all_goals refine⟨aZ ?_,by first|exact hY|exact hX⟩
 all_goals first|rfl|(simp_all;done)|(simp_all;omega)
theorem adz (r:Rc) (h:aV) (w:World) (hk:r.k=12) (ok:r.ok) (i:dO w r h) (sm:iR r h):
 Calls Tryz.prog 199 #[.agg (r.vals h)] w fun e w'=>e=.returned (.bool (r.s.may&&pF r.pr))/\Below w.heap.size w w':=by
 obtain⟨k,t,s,pv,cm,n,pt,rd,wr,ps,pr,st⟩:=r;change k=12 at hk;subst hk;have hS:=fun w' (hb:Below w.heap.size w w')=>vV s w'
 have hQ:=fun w' (hb:Below w.heap.size w w')=>adh h.d.A h.d.n h.d.c pr w' (i.below hb).pr i.nd
 have hX:Below w.heap.size w (w.alloc (.cells (Rc.vals ⟨12,t,s,pv,cm,n,pt,rd,wr,ps,pr,st⟩ h) 69)):=aJ;have B0:aj (w.alloc (.cells (Rc.vals ⟨12,t,s,pv,cm,n,pt,rd,wr,ps,pr,st⟩ h) 69)) w.heap.size 69 (Rc.vals ⟨12,t,s,pv,cm,n,pt,rd,wr,ps,pr,st⟩ h):=aj.new _ _ _;have HV:=au (show (s.may&&pF pr)=(s.may&&pF pr) from rfl);clear ok i sm;generalize hg0:s.may=g0 at*;generalize hg1:pF pr=g1 at*;clear hg0 hg1;go_enter Tryz.func199,Tryz.ntmps199;go_wp2_with (first
  |((with_reducible refine(hS _ hX).mono ?_);rintro e w1 ⟨rfl,hb1⟩
    have hY:=hX.trans (hb1.mono hX.size);have C0:=B0.below hb1 B0.lt;have l0:=C0.lt;have Np:=C0.cell 16;simp only[List.getElem?_toArray,List.getElem?_cons_succ,getZero]at Np)
  |((with_reducible refine(hQ _ hY).mono ?_);rintro e w2 ⟨rfl,hb2⟩
    have hZ:=hY.trans (hb2.mono hY.size)))
 all_goals go_ret
 all_goals refine⟨aZ ?_,by first|exact hZ|exact hY|exact hX⟩
 all_goals first|rfl|(simp_all;done)|(simp_all;omega)
theorem adA (r:Rc) (h:aV) (w:World) (hk:gy r.k=true) (ok:r.ok) (i:dO w r h) (sm:iR r h):
 Calls Tryz.prog 199 #[.agg (r.vals h)] w fun e w'=>e=.returned (.bool (fieldsB r))/\Below w.heap.size w w':=by
 unfold gy at hk;rw[decide_eq_true_eq]at hk;have hc:r.k=1∨r.k=2∨r.k=3∨r.k=4∨r.k=5∨r.k=6∨r.k=7∨r.k=8∨r.k=9∨r.k=10∨r.k=11∨r.k=12:=byOmega;rcases hc with e|e|e|e|e|e|e|e|e|e|e|e
 · have e1:fieldsB r=(dV r.st):=(by unfold fieldsB;simp only[e];rfl);rw[e1];exact ado r h w e ok i sm
 · have e1:fieldsB r=(decide (0<=r.n)&&decide (r.n<=281474976710656)):=(by unfold fieldsB;simp only[e];rfl);rw[e1];exact adp r h w e ok i sm
 · have e1:fieldsB r=((dw ⟨r.t,r.s,r.rd,r.wr⟩==0)&&dQ r.ps):=(by unfold fieldsB;simp only[e];rfl);rw[e1];exact adq r h w e ok i sm
 · have e1:fieldsB r=(r.t.may&&zq r.cm r.s):=(by unfold fieldsB;simp only[e];rfl);rw[e1];exact adr r h w e ok i sm
 · have e1:fieldsB r=r.s.may:=(by unfold fieldsB;simp only[e];rfl);rw[e1];exact ads r h w e ok i sm
 · have e1:fieldsB r=((uH r.pt==0)&&ku (mV r.pt) 0&&jS (mV r.pt) 4607182418800017408&&rP r.n&&r.s.may):=(by unfold fieldsB;simp only[e];rfl);rw[e1];exact adt r h w e ok i sm
 · have e1:fieldsB r=(rP r.n):=(by unfold fieldsB;simp only[e];rfl);rw[e1];exact adu r h w e ok i sm
 · have e1:fieldsB r=(decide (1<=r.n)):=(by unfold fieldsB;simp only[e];rfl);rw[e1];exact adv r h w e ok i sm
 · have e1:fieldsB r=(r.t.may&&r.s.uV&&dQ r.ps):=(by unfold fieldsB;simp only[e];rfl);rw[e1];exact adw r h w e ok i sm
 · have e1:fieldsB r=r.t.may:=(by unfold fieldsB;simp only[e];rfl);rw[e1];exact adx r h w e ok i sm
 · have e1:fieldsB r=(qp r.pv r.s r.t r.wr):=(by unfold fieldsB;simp only[e];rfl);rw[e1];exact ady r h w e ok i sm
 · have e1:fieldsB r=(r.s.may&&pF r.pr):=(by unfold fieldsB;simp only[e];rfl);rw[e1];exact adz r h w e ok i sm
theorem Cb {P:Program} {w:World} {ops:Array Oper} {rest:List Oper} {o:Oper} {a:Act} {Q:Exit->Act->World->Prop} (hw:Region.wanted o (yielded ops a.tmps)=true) (ty:TypeId) (x:Operand) (ho:o.op=.load ty x)
 (g:Nat) (hx:a.eval x=.pointer (some ⟨g,0,none⟩)) (t:TypeId) (cs:Array Value) (fr:Nat×Nat) (d:TypeDesc) (hg:w.heap[g]?=some (.cells cs t fr))
 (hu:P.underlying ty=some d) (hd:(match d with| .struct _| .array _ _=>true|_=>false)=true) (hi:(P.info? ty).map (·.size)=some cs.size)
 (h:wpList P ops Q rest (a.put o.dst (.agg cs)) w):wpList P ops Q (o::rest) a w:=
 wpList_step fun _ hK=>by rw[if_pos hw];exact wp_load_row ty x ho g hx t cs fr d hg hu hd hi (hK _ _ h)
theorem adB (r:Rc) (h:aV) (h1:r.rd.length=h.a.n) (h2:r.wr.length=h.b.n) (h3:r.ps.length=h.c.n) (h4:r.pr.length=h.d.n) (h5:r.st.h.length=h.e.n) (h6:r.st.p.length=h.f.n):
 (wipe r).rd.length=(gZ r.k h).a.n/\(wipe r).wr.length=(gZ r.k h).b.n/\(wipe r).ps.length=(gZ r.k h).c.n/\(wipe r).pr.length=(gZ r.k h).d.n/\(wipe r).st.h.length=(gZ r.k h).e.n/\(wipe r).st.p.length=(gZ r.k h).f.n:=by
 by_cases hk:gy r.k=true
 · unfold gy at hk;rw[decide_eq_true_eq]at hk;have hc:r.k=1∨r.k=2∨r.k=3∨r.k=4∨r.k=5∨r.k=6∨r.k=7∨r.k=8∨r.k=9∨r.k=10∨r.k=11∨r.k=12:=byOmega;rcases hc with e|e|e|e|e|e|e|e|e|e|e|e
   all_goals simp[wipe,gZ,e,h1,h2,h3,h4,h5,h6,zeroS]
 · unfold gy at hk;rw[decide_eq_true_eq]at hk;have e1:wipe r=r:=(by unfold wipe;repeat (rw[if_neg byOmega]));have e2:gZ r.k h=h:=(by unfold gZ;repeat (rw[if_neg byOmega]));rw[e1,e2];exact⟨h1,h2,h3,h4,h5,h6⟩
def lq (r:Rc):Int:=if gy r.k=false then 7 else if (wipe r).eH=false then 4 else if fieldsB r=false then 4 else 0
set_option maxRecDepth 100000 in
set_option maxHeartbeats 4000000 in
theorem adC (r:Rc) (h:aV) (w:World) (ok:r.ok) (i:dO w r h) (sm:iR r h):
 Calls Tryz.prog 158 #[.agg (r.vals h)] w fun e w'=>e=.returned (.int .i64 (lq r))/\Below w.heap.size w w':=by
 have hW:=fun w'=>abp r h w'
 obtain⟨l1,l2,l3,l4,l5,l6⟩:=adB r h i.rd.1 i.wr.1 i.ps.1 i.pr.1 i.hs.1 i.pn.1;have Ja:=fun w'=>aa9 (wipe r) (gZ r.k h) w' l1 l2 l3 l4 l5 l6
 have hF:=fun (hk:gy r.k=true) w' (hb:Below w.heap.size w w')=>adA r h w' hk ok (i.below hb) sm
 have HV:=au (show lq r=(if gy r.k=false then 7 else if (wipe r).eH=false then 4 else if fieldsB r=false then 4 else 0) from rfl);clear l1 l2 l3 l4 l5 l6 ok i sm;have hX:Below w.heap.size w (w.alloc (.cells (r.vals h) 69)):=aJ;have B0:aj (w.alloc (.cells (r.vals h) 69)) w.heap.size 69 (r.vals h):=aj.new _ _ _;generalize (wipe r).eH=bz at*;generalize fieldsB r=bf at*;generalize wipe r=q at*;generalize gZ r.k h=g at*;cases hk:gy r.k
 · rw[hk]at hW HV;clear hF hk;go_enter Tryz.func158,Tryz.ntmps158;go_wp2_with (first
    |(refine wpList_load_row rfl 69 _ rfl _ rfl _ _ (0,0) _ (aj.new _ _ _) rfl rfl ah ?_)
    |((with_reducible refine(hW _).mono ?_);rintro e w1 ⟨rfl,hb1⟩)
    |(refine xO rfl 69 _ _ rfl _ rfl rfl _ _ ah ah ah ?_))
   all_goals go_ret
   exact⟨nH (by rw[HV.out];rfl),(hX.trans (hb1.mono hX.size)).alloc (hX.trans (hb1.mono hX.size)).size _⟩
 · have hF:=hF hk;rw[hk]at hW HV;clear hk;cases bz
   · clear hF;go_enter Tryz.func158,Tryz.ntmps158;go_wp2_with (first
        |(refine wpList_load_row rfl 69 _ rfl _ rfl _ _ (0,0) _ (aj.new _ _ _) rfl rfl ah ?_)
        |((with_reducible refine(hW _).mono ?_);rintro e w1 ⟨rfl,hb1⟩
          have hY:=hX.trans (hb1.mono hX.size);have hY2:=hY.alloc hY.size (.cells (q.vals g) 69))
        |((with_reducible refine(Ja _).mono ?_);rintro e w2 ⟨rfl,hb2⟩
          have hZ:=hY2.trans (hb2.mono hY2.size))
        |(refine xO rfl 69 _ _ rfl _ rfl rfl _ _ ah ah ah ?_))
     all_goals go_ret
     exact⟨nH (by rw[HV.out];rfl),hZ⟩
   · go_enter Tryz.func158,Tryz.ntmps158;go_wp2_with (first
        |(refine wpList_load_row rfl 69 _ rfl _ rfl _ _ (0,0) _ (aj.new _ _ _) rfl rfl ah ?_)
        |(refine Cb aI 69 _ rfl _ rfl _ _ (0,0) _ C2 rfl rfl ah ?_)
        |((with_reducible refine(hW _).mono ?_);rintro e w1 ⟨rfl,hb1⟩
          have hY:=hX.trans (hb1.mono hX.size);have C1:=B0.below hb1 B0.lt;have hY2:=hY.alloc hY.size (.cells (q.vals g) 69);replace C1:=C1.alloc (.cells (q.vals g) 69))
        |((with_reducible refine(Ja _).mono ?_);rintro e w2 ⟨rfl,hb2⟩
          have C2:=C1.below hb2 C1.lt;have hZ:=hY2.trans (hb2.mono hY2.size))
        |((with_reducible refine(hF _ hZ).mono ?_);rintro e w3 ⟨rfl,hb3⟩)
        |(refine xO rfl 69 _ _ rfl _ rfl rfl _ _ ah ah ah ?_))
     all_goals go_ret
     all_goals refine⟨nH ?_,hZ.trans (hb3.mono hZ.size)⟩
     all_goals rw[HV.out]
     all_goals simp_all
theorem Ui {k:Int} (h:gy k=true):k=1∨k=2∨k=3∨k=4∨k=5∨k=6∨k=7∨k=8∨k=9∨k=10∨k=11∨k=12:=by
 unfold gy at h;rw[decide_eq_true_eq]at h;omega
theorem walk_any (r:Rc) (h:aV) (w:World) (B g:Nat) (v:Value) (bs:List UInt8) (gc gr:Nat) (hk:gy r.k=true) (hc:CW w B g v bs gc) (hp:dA w g v gr) (hb:aj w gr 69 (r.vals h)) (ok:r.ok) (i:fZ w B r h) (cp:h.caps)
 (hlen:bs.length+(bC r).length+10<=1000000000000):
 Calls Tryz.prog 159 #[.pointer (some ⟨gc,0,none⟩),.pointer (some ⟨gr,0,none⟩)] w (jk w B g v bs gc (bC r)):=by
 rcases Ui hk with e|e|e|e|e|e|e|e|e|e|e|e
 · exact ab9 r h w B g v bs gc gr e hc hp hb ok i cp hlen
 · exact acd r h w B g v bs gc gr e hc hp hb ok i cp hlen
 · exact ac9 r h w B g v bs gc gr e hc hp hb ok i cp hlen
 · exact ace r h w B g v bs gc gr e hc hp hb ok i cp hlen
 · exact acf r h w B g v bs gc gr e hc hp hb ok i cp hlen
 · exact acg r h w B g v bs gc gr e hc hp hb ok i cp hlen
 · exact ach r h w B g v bs gc gr e hc hp hb ok i cp hlen
 · exact aci r h w B g v bs gc gr e hc hp hb ok i cp hlen
 · exact acj r h w B g v bs gc gr e hc hp hb ok i cp hlen
 · exact acn r h w B g v bs gc gr e hc hp hb ok i cp hlen
 · exact aco r h w B g v bs gc gr e hc hp hb ok i cp hlen
 · exact acp r h w B g v bs gc gr e hc hp hb ok i cp hlen
theorem zu {w:World} {base base':Nat} {e:TypeId} {size n:Nat} {v:Value} {xs:List Value} (h:w.ownsRow base e size v n xs) (hB:base'<=base):w.ownsRow base' e size v n xs:=by
 obtain⟨h6,h7⟩:=h;refine⟨h6,?_⟩;rcases h7 with h7|⟨k,cap,cur,e,hk,r⟩
 · exact .inl h7
 · exact .inr ⟨k,cap,cur,e,Nat.le_trans hB hk,r⟩
def gU (r:Rc):Int:=if lq r=0 then (if 262144<(bC r).length then 2 else 0) else lq r
def fM (r:Rc):List UInt8:=if gU r=0 then bC r else []
def sV (w:World) (bs:List UInt8) (er:Int):Ending->World->Prop:=fun e w'=>
 ∃A c,e=.returned (.tuple #[.slice A bs.length c,.int .i64 er])/\bs.length<=c/\c<=maxLen/\w'.ownsRow w.heap.size 5 1 (.slice A bs.length c) bs.length (bytesV bs)/\Below w.heap.size w w'
theorem sV.nil {w w':World} (er:Int) (hb:Below w.heap.size w w'):sV w [] er (.returned (.tuple #[.slice none 0 0,.int .i64 er])) w':=
 ⟨none,0,rfl,Nat.le_refl _,by unfold maxLen;omega,World.ownsRow_nil _ _ _ _,hb⟩
set_option maxRecDepth 100000 in
set_option maxHeartbeats 4000000 in
theorem Nq (r:Rc) (h:aV) (w:World) (ok:r.ok) (i:dO w r h) (cp:h.caps) (sm:iR r h) (hlen:(bC r).length+10<=1000000000000):
 Calls Tryz.prog 108 #[.agg (r.vals h)] w (sV w (fM r) (gU r)):=by
 have hM:=fun w' (hb:Below w.heap.size w w')=>adC r h w' ok (i.below hb) sm
 have hX:Below w.heap.size w (w.alloc (.cells (r.vals h) 69)):=aJ;have B0:aj (w.alloc (.cells (r.vals h) 69)) w.heap.size 69 (r.vals h):=aj.new _ _ _;by_cases hm:lq r=0
 · have hk:gy r.k=true:=by
    cases hq:gy r.k
    · unfold lq at hm;rw[hq]at hm;cases hm
    · rfl
   have HE:=au (show gU r=if 262144<(bC r).length then 2 else 0 by unfold gU;rw[if_pos hm]);have HO:=au (show fM r=if 262144<(bC r).length then [] else bC r by unfold fM;rw[HE.out];by_cases hq:262144<(bC r).length<;>simp[hq]);rw[hm]at hM;clear hm;go_enter Tryz.func108,Tryz.ntmps108;go_wp2_with (first
    |(refine wpList_load_row rfl 69 _ rfl w.heap.size rfl _ _ (0,0) _ B0 rfl rfl ah ?_)
    |((with_reducible refine(hM _ hX).mono ?_);rintro e w1 ⟨rfl,hb1⟩
      have hX1:=hX.trans (hb1.mono hX.size);have B1:=B0.below hb1 B0.lt)
    |((with_reducible refine(QS _).mono ?_);rintro e w2 ⟨rfl,rfl⟩))
   have hW:=Wr.new w1;have hD:Below (w1.alloc (.cells #[.slice none 0 0] 129)).heap.size (w1.alloc (.cells #[.slice none 0 0] 129)) ((w1.alloc (.cells #[.slice none 0 0] 129)).alloc (.cells #[.pointer (some ⟨w1.heap.size,0,none⟩),.pointer none] 87)):=(aC).alloc (Nat.le_refl _) _;have qJ:Below w1.heap.size w1 ((w1.alloc (.cells #[.slice none 0 0] 129)).alloc (.cells #[.pointer (some ⟨w1.heap.size,0,none⟩),.pointer none] 87)):=aJ;have kC:aj ((w1.alloc (.cells #[.slice none 0 0] 129)).alloc (.cells #[.pointer (some ⟨w1.heap.size,0,none⟩),.pointer none] 87)) (w1.heap.size+1) 87 #[.pointer (some ⟨w1.heap.size,0,none⟩),.pointer none]:=aj.new' _ _ aA;have hc:CW ((w1.alloc (.cells #[.slice none 0 0] 129)).alloc (.cells #[.pointer (some ⟨w1.heap.size,0,none⟩),.pointer none] 87)) w1.heap.size w1.heap.size (.slice none 0 0) [] (w1.heap.size+1):=
    ⟨hW.below hD,qJ.size,kC,kC.lt,byOmega,by intro e;cases e⟩
   have B2:=B1.below qJ B1.lt;have hlo:fZ w1 w1.heap.size r h:=fZ.of (i.below hX1);have hl0:w.heap.size<w1.heap.size:=B1.lt;have FW:=au hX1;have HY1:=au qJ;clear hX hX1 hM B0 i sm hb1 kC hD hW;go_wp2_with fail;refine(walk_any r h _ w1.heap.size w1.heap.size (.slice none 0 0) [] (w1.heap.size+1) w.heap.size hk hc (dA.low hc hl0) B2 ok (hlo.below qJ) cp (by simpa using hlen)).mono ?_;rintro e w2 ⟨rfl,v2,hc2,hf2⟩;rw[List.nil_append]at hc2;have HZ:=au (qJ.trans (hc.lo hf2));have hl1:=B2.lt;clear hc hlo B2 hf2 qJ;go_wp2_with ((with_reducible refine(QW _ v2 (bC r) w1.heap.size w2 hc2.wr byOmega).mono ?_);rintro e w3 ⟨A,c,rfl,q1,q2,q3,q4⟩);all_goals have hB2:=FW.out.trans (HZ.out.mono FW.out.size)
   all_goals have hB3:=hB2.trans (q4.mono hB2.size)
   · have hgt:262144<(bC r).length:=by
        have hz:decide (262144<((bC r).length:Int))=true:=ay;simp at hz;omega
     go_ret2
     rw[HE.out,HO.out,if_pos hgt,if_pos hgt];exact sV.nil 2 hB3
   · have hgt:¬262144<(bC r).length:=byOmega
     go_ret2
     rw[HE.out,HO.out,if_neg hgt,if_neg hgt];exact⟨A,c,rfl,q1,q2,zu q3 hB2.size,hB3⟩
 · have h1:gU r=lq r:=(by unfold gU;rw[if_neg hm]);have h2:fM r=[]:=(by unfold fM;rw[h1,if_neg hm]);rw[h1,h2];have hb0:(lq r !=0)=true:=(by simp[hm]);generalize lq r=m at*;clear h1 h2 hm;go_enter Tryz.func108,Tryz.ntmps108;go_wp2_with (first
    |(refine wpList_load_row rfl 69 _ rfl w.heap.size rfl _ _ (0,0) _ B0 rfl rfl ah ?_)
    |((with_reducible refine(hM _ hX).mono ?_);rintro e w1 ⟨rfl,hb1⟩))
   go_ret2
   exact sV.nil m (hX.trans (hb1.mono hX.size))
end Go.Proofs.YtcalkfgibflbnaaGreat
namespace Go.Proofs.YtcalkfgibflbnaaGreat
set_option linter.unusedVariables false
open Go.RowKit Fl
def RF.en:RF->Rc->List UInt8
 | .k,x=>encI x.k
 | .t,x=>eP x.t
 | .s,x=>aU x.s
 | .pv,x=>aU x.pv
 | .cm,x=>qF x.cm
 | .n,x=>encI x.n
 | .pt,x=>dK x.pt
 | .wr,x=>aH bP x.wr
 | .ps,x=>aH encI x.ps
 | .pr,x=>aH bP x.pr
 | .st,x=>oC x.st
 | .pn,x=>fH ⟨x.t,x.s,x.rd,x.wr⟩
def RF.no:RF->Nat
 | .k=>1
 | .t=>2
 | .s=>4
 | .pv=>8
 | .cm=>16
 | .n=>32
 | .pt=>64
 | .wr=>128
 | .ps=>256
 | .pr=>512
 | .st=>1024
 | .pn=>134
def RF.ap (d d':RF):Bool:=d.no&&&d'.no==0
theorem RF.encS:MC RF.rd RF.en:=fun d x l s hs h=>match d with
 | .k=>rM l s hs h
 | .t=>MX l s hs h
 | .s=>zn l s hs h
 | .pv=>zn l s hs h
 | .cm=>TI l s hs h
 | .n=>rM l s hs h
 | .pt=>I8 l s hs h
 | .wr=>uo I9 l s hs h
 | .ps=>uo rM l s hs h
 | .pr=>uo I9 l s hs h
 | .st=>TQ l s hs h
 | .pn=>TN l s hs h
theorem RF.Nr:IC RF.rd RF.en RF.ap:=fun d d' h x l s=>by
 cases d<;>cases d'<;>first
  |rfl
  |exact absurd h (by decide)
theorem Uj (k:Int):(RF.k::uU k).Pairwise (fun d d'=>RF.ap d d'=true):=by
 unfold uU
 repeat' split
 all_goals decide
theorem Uk (r:Rc):bC r=(RF.k::uU r.k).flatMap fun d=>RF.en d r:=by
 obtain⟨k,t,s,pv,cm,n,pt,rd,wr,ps,pr,st⟩:=r;rcases (by omega:k=1∨k=2∨k=3∨k=4∨k=5∨k=6∨k=7∨k=8∨k=9∨k=10∨k=11∨k=12∨(¬k=1/\¬k=2/\¬k=3/\¬k=4/\¬k=5/\¬k=6/\¬k=7/\¬k=8/\¬k=9/\¬k=10/\¬k=11/\¬k=12)) with rfl|rfl|rfl|rfl|rfl|rfl|rfl|rfl|rfl|rfl|rfl|rfl|⟨h1,h2,h3,h4,h5,h6,h7,h8,h9,h10,h11,h12⟩
 all_goals simp[bC,gu,uU,RF.en, *]
theorem adD (l:List UInt8) (s:RS):(lZ l s).1.k=(aS l s).1:=by
 have h:∀d∈uU (aS l s).1,∀x l' s',(RF.rd d x l' s').1.k=x.k:=fun d hd x l' s'=>by
  have hk:d.no≠1:=by
   intro e;have:=(List.pairwise_cons.1 (Uj (aS l s).1)).1 d hd;unfold RF.ap at this;rw[e]at this;exact absurd this (by decide)
  cases d<;>first
   |rfl
   |exact absurd rfl hk
 have h2:∀ds:List RF,(∀d∈ds,∀x l' s',(RF.rd d x l' s').1.k=x.k)->∀x l' s',(dL RF.rd ds x l' s').1.k=x.k:=by
  intro ds
  induction ds with
  |nil=>intro _ x l' s';rfl
  |cons d ds ih=>
   intro hd x l' s';exact(ih (fun y hy=>hd y (List.mem_cons_of_mem _ hy)) _ _ _).trans (hd d List.mem_cons_self x l' s')
 exact h2 _ h _ _ _
theorem adE:jD lZ bC:=fun l s hs h=>by
 obtain⟨a,b⟩:=MG RF.encS RF.stk RF.Nr _ ql l s (Uj _) hs h;refine⟨a,b.trans ?_⟩;rw[Uk,adD];rfl
structure Ec (N:Nat) (r:Rc):Prop where
 rd:r.rd.length<=N
 wr:r.wr.length<=N
 ps:r.ps.length<=N
 pr:r.pr.length<=N
 h:r.st.h.length<=N/\∀h∈r.st.h,h.vs.length<=N
 p:r.st.p.length<=N/\∀p∈r.st.p,p.r.length<=N/\p.w.length<=N
theorem Jb (l:List UInt8) (s:RS):((xW l s).1.h.length<=l.length/\∀h∈(xW l s).1.h,h.vs.length<=l.length)/\((xW l s).1.p.length<=l.length/\∀p∈(xW l s).1.p,p.r.length<=l.length/\p.w.length<=l.length):=
 ⟨⟨rO l _,Na (Q:=fun h:Hs=>h.vs.length<=l.length) l _ fun s=>rO l _⟩,rO l _,Na (Q:=fun p:Pn=>p.r.length<=l.length/\p.w.length<=l.length) l _ fun s=>⟨rO l _,rO l _⟩⟩
theorem Ul (l:List UInt8) (s:RS):Ec l.length (lZ l s).1:=
 MH (P:=Ec l.length) (fun d x s i=>match d with
  | .k=>⟨i.rd,i.wr,i.ps,i.pr,i.h,i.p⟩
  | .t=>⟨i.rd,i.wr,i.ps,i.pr,i.h,i.p⟩
  | .s=>⟨i.rd,i.wr,i.ps,i.pr,i.h,i.p⟩
  | .pv=>⟨i.rd,i.wr,i.ps,i.pr,i.h,i.p⟩
  | .cm=>⟨i.rd,i.wr,i.ps,i.pr,i.h,i.p⟩
  | .n=>⟨i.rd,i.wr,i.ps,i.pr,i.h,i.p⟩
  | .pt=>⟨i.rd,i.wr,i.ps,i.pr,i.h,i.p⟩
  | .wr=>⟨i.rd,rO l _,i.ps,i.pr,i.h,i.p⟩
  | .ps=>⟨i.rd,i.wr,rO l _,i.pr,i.h,i.p⟩
  | .pr=>⟨i.rd,i.wr,i.ps,rO l _,i.h,i.p⟩
  | .st=>⟨i.rd,i.wr,i.ps,i.pr,(Jb l s).1,(Jb l s).2⟩
  | .pn=>⟨rO l _,rO l _,i.ps,i.pr,i.h,i.p⟩) _ _ _
  ⟨Nat.zero_le _,Nat.zero_le _,Nat.zero_le _,Nat.zero_le _,⟨Nat.zero_le _,fun h hh=>by cases hh⟩,Nat.zero_le _,fun h hh=>by cases hh⟩
theorem Ec.sm {N:Nat} {r:Rc} {h:aV} (hc:Ec N r) (hN:N<=5000000) (h1:r.rd.length=h.a.n) (h2:r.wr.length=h.b.n) (h3:r.ps.length=h.c.n) (h4:r.pr.length=h.d.n):iR r h:=
 ⟨by rw[<-h1];exact Nat.le_trans hc.rd hN,by rw[<-h2];exact Nat.le_trans hc.wr hN,by rw[<-h3];exact Nat.le_trans hc.ps hN,by rw[<-h4];exact Nat.le_trans hc.pr hN,
  ⟨Nat.le_trans hc.h.1 hN,fun x hx=>Nat.le_trans (hc.h.2 x hx) hN⟩,⟨Nat.le_trans hc.p.1 hN,fun x hx=>⟨Nat.le_trans (hc.p.2 x hx).1 hN,Nat.le_trans (hc.p.2 x hx).2 hN⟩⟩⟩
def sW (l:List UInt8):Int:=
 if 262144<l.length then 4 else if (lZ l ⟨0,0,0⟩).2.e≠0 then 4 else if (lY l (lZ l ⟨0,0,0⟩).2).1≠0 then 4 else if gU (lZ l ⟨0,0,0⟩).1≠0 then 4 else if fM (lZ l ⟨0,0,0⟩).1≠l then 4 else 0
def rQ (l:List UInt8):Rc:=if sW l=0 then (lZ l ⟨0,0,0⟩).1 else ql
theorem nD {α:Type} (wt:α->Int) (hw:∀a,0<=wt a) (l:List α):0<=(l.map wt).sum:=by
 induction l with
 |nil=>simp
 |cons a l ih=>have:=hw a;simp only[List.map_cons,List.sum_cons];omega
theorem Jc {α:Type} {f:α->Int->Int} {most:Int} (wt:α->Int) (hw:∀a,0<=wt a) (hf:∀a n,0<=n->n<=most->0<=f a n/\(f a n<=most->n+wt a<=f a n)):
 ∀(l:List α) (n:Int),0<=n->gV f most n l<=most->n+(l.map wt).sum<=gV f most n l:=by
 intro l
 induction l with
 |nil=>intro n _ _;simp[gV]
 |cons a l ih=>
  intro n h0 h;by_cases hn:n<=most
  · have e:gV f most n (a::l)=gV f most (f a n) l:=(by show (if _ then _ else _)=_;rw[if_pos hn]);rw[e]at h ⊢;obtain⟨h1,h2⟩:=hf a n h0 hn;have h3:=ih _ h1 h;have h4:=nD wt hw l;have h5:=h2 byOmega;simp only[List.map_cons,List.sum_cons];omega
  · rw[zx _ byOmega]at h;omega
def iT (a:Wt):Int:=1+(a.key.size:Int)+(a.v.t.size:Int)
def lu (a:ByteArray):Int:=1+(a.size:Int)
def uX (a:Vn):Int:=1+(a.v.t.size:Int)
def qw (h:Hs):Int:=1+(h.key.size:Int)+(h.vs.map uX).sum
def qx (p:Pn):Int:=1+(p.r.map lu).sum+(p.w.map iT).sum
theorem Aj (a:Wt):0<=iT a:=by unfold iT;omega
theorem Ed (a:ByteArray):0<=lu a:=by unfold lu;omega
theorem Jd (a:Vn):0<=uX a:=by unfold uX;omega
theorem Je (a:Hs):0<=qw a:=by unfold qw;have:=nD uX Jd a.vs;omega
theorem Jf (a:Pn):0<=qx a:=by unfold qx;have:=nD lu Ed a.r;have:=nD iT Aj a.w;omega
section
variable {most:Int} (hm:0<=most)
include hm
theorem FX:∀(l:List Wt) (n:Int),0<=n->dS most n l<=most->n+(l.map iT).sum<=dS most n l:=by
 intro l
 induction l with
 |nil=>intro n _ _;simp[dS]
 |cons a l ih=>
  intro n h0 h;by_cases hn:n<=most
  · have e:dS most n (a::l)=dS most (stepW most n a) l:=(by show (if _ then _ else _)=_;rw[if_pos hn]);rw[e]at h ⊢;have h3:=ih _ (Um a hm h0).1 h;have h4:=nD iT Aj l;have h5:stepW most n a=n+iT a:=by
        have:stepW most n a<=most:=byOmega;unfold stepW bZ at this;unfold stepW bZ iT;split at this<;>split<;>omega
    simp only[List.map_cons,List.sum_cons];omega
  · rw[Ee _ byOmega]at h;omega
theorem Ns (l:List ByteArray) (h:jE most l<=most):(l.map lu).sum<=jE most l:=by
 have:=Jc (f:=stepT most) (most:=most) lu Ed (fun a n h0 _=>⟨(Ef a hm h0).1,fun h=>by
  have:=(fO (n:=n) (more:=1+(a.size:Int)) (most:=most) h0 byOmega hm).2.2 h;show n+(1+(a.size:Int))<=bZ n (1+(a.size:Int)) most;omega⟩) l 0 byOmega h
 unfold jE;omega
theorem adF (a:Hs) (n:Int) (h0:0<=n) (h:uq most a n<=most):n+qw a<=uq most a n:=by
 have h2:=fO (n:=n) (more:=1+(a.key.size:Int)) (most:=most) h0 byOmega hm;have h3:=Jc (f:=pG most) (most:=most) uX Jd (fun a n h0 _=>⟨(Cc a hm h0).1,fun h=>by
  have:=(fO (n:=n) (more:=1+(a.v.t.size:Int)) (most:=most) h0 byOmega hm).2.2 h;show n+(1+(a.v.t.size:Int))<=bZ n (1+(a.v.t.size:Int)) most;omega⟩) a.vs _ h2.1 h
 have h4:=nD uX Jd a.vs;have h5:uq most a n=gV (pG most) most (bZ n (1+(a.key.size:Int)) most) a.vs:=rfl;have h6:=h2.2.2 byOmega;unfold qw;omega
theorem adG (l:List Hs) (h:uw most l<=most):(l.map qw).sum<=uw most l:=by
 have:=Jc (f:=uq most) (most:=most) qw Je (fun a n h0 _=>⟨(Eh a hm h0).1,fun h=>adF hm a n h0 h⟩) l 0 byOmega h;unfold uw;omega
theorem adH (p:Pn) (n:Int) (h0:0<=n) (h:uY most p n<=most):n+qx p<=uY most p n:=by
 have h1:=Ak p.r hm;have h2:=vW p.w 0 hm byOmega byOmega;have h3:=fO (n:=n) (more:=1+jE most p.r) (most:=most) h0 byOmega hm;have h4:=fO (n:=bZ n (1+jE most p.r) most) (more:=dS most 0 p.w) (most:=most) h3.1 h2.1 hm;have e:uY most p n=bZ (bZ n (1+jE most p.r) most) (dS most 0 p.w) most:=rfl;have h5:=h4.2.2 byOmega;have h6:=h3.2.2 byOmega;have h7:=Ns hm p.r byOmega;have h8:=FX hm p.w 0 byOmega byOmega;unfold qx;omega
theorem adI (l:List Pn) (h:uy most l<=most):(l.map qx).sum<=uy most l:=by
 have:=Jc (f:=uY most) (most:=most) qx Jf (fun a n h0 _=>⟨(Ei a hm h0).1,fun h=>adH hm a n h0 h⟩) l 0 byOmega h;unfold uy;omega
theorem Nu (s:dP) (h:pI most s<=most):(s.h.map qw).sum+(s.p.map qx).sum<=pI most s:=by
 have h1:=Jg s.h hm;have h2:=Jh s.p hm;have e:pI most s=bZ (uw most s.h) (uy most s.p) most:=rfl;have h3:=(fO (n:=uw most s.h) (more:=uy most s.p) (most:=most) h1.1 h2.1 hm).2.2 byOmega;have h4:=adG hm s.h byOmega;have h5:=adI hm s.p byOmega;omega
theorem adJ (r:Rc) (h:qM most r<=most):1+(r.rd.map lu).sum+(r.wr.map iT).sum+(r.ps.length:Int)+(r.pr.map iT).sum+(r.st.h.map qw).sum+(r.st.p.map qx).sum<=most/\pI most r.st<=most:=by
 have hT:=Ak r.rd hm;have hW:=vW r.wr 0 hm byOmega byOmega;have h1:=fO (n:=jE most r.rd) (more:=dS most 0 r.wr) (most:=most) hT.1 hW.1 hm;have e1:wX most r=bZ (jE most r.rd) (dS most 0 r.wr) most:=rfl;have h2:=fO (n:=wX most r) (more:=min (r.ps.length:Int) (most+1)) (most:=most) byOmega byOmega hm;have e2:rU most r=bZ (wX most r) (min (r.ps.length:Int) (most+1)) most:=rfl;have h3:=vW r.pr (rU most r) hm byOmega byOmega;have hS:=FY r.st hm;have h4:=fO (n:=dS most (rU most r) r.pr+1) (more:=pI most r.st) (most:=most) byOmega hS.1 hm;have e4:qM most r=bZ (dS most (rU most r) r.pr+1) (pI most r.st) most:=rfl;have k4:=h4.2.2 byOmega;have k3:=FX hm r.pr (rU most r) byOmega byOmega;have xM:=nD iT Aj r.pr;have k2:=h2.2.2 byOmega;have k1:=h1.2.2 byOmega;have kT:=Ns hm r.rd byOmega;have kW:=FX hm r.wr 0 byOmega byOmega;have kS:=Nu hm r.st byOmega;omega
end
theorem Am {α:Type} (wt:α->Int) (hw:∀a,1<=wt a) (l:List α):(l.length:Int)<=(l.map wt).sum:=by
 induction l with
 |nil=>simp
 |cons a l ih=>have:=hw a;simp only[List.map_cons,List.sum_cons,List.length_cons];omega
theorem Un {α:Type} (wt:α->Int) (hw:∀a,0<=wt a) {l:List α} {a:α} (h:a∈l):wt a<=(l.map wt).sum:=by
 induction l with
 |nil=>cases h
 |cons b l ih=>
  have h1:=nD wt hw l;have h2:=hw b;simp only[List.map_cons,List.sum_cons];rcases List.mem_cons.1 h with rfl|h
  · omega
  · have:=ih h;omega
theorem sZ {α:Type} (f:α->List UInt8) (wt:α->Int) (c:Int) (l:List α) (h:∀a∈l,((f a).length:Int)<=c*wt a):((l.flatMap f).length:Int)<=c*(l.map wt).sum:=by
 induction l with
 |nil=>simp
 |cons a l ih=>
  rw[List.flatMap_cons,aK,List.map_cons,List.sum_cons,Int.mul_add];have h1:=h a List.mem_cons_self;have h2:=ih fun b hb=>h b (List.mem_cons_of_mem _ hb)
  omega
def Back {α:Type} (f:eG α) (enc:α->List UInt8) (Q:α->Prop):Prop:=∀a pre r,Q a->f (pre++(enc a++r)) ⟨pre.length,0,0⟩=(a,⟨pre.length+(enc a).length,0,0⟩)
theorem adK:∀(k u:Nat),jr (lX k u)=u%256^k:=by
 intro k
 induction k with
 |zero=>intro u;simp[lX,jr,Nat.mod_one]
 |succ k ih=>
  intro u;have e:(u%256).toUInt8.toNat=u%256:=by show u%256%256=_;omega
  show (u%256).toUInt8.toNat+256*jr (lX k (u/256))=_;rw[e,ih,Nat.pow_succ,Nat.mul_comm (256^k) 256,Nat.mod_mul]
theorem Ji (pre r:List UInt8) {n:Int} (h:bG n):dec (pre++(encI n++r)) pre.length=.ok n (pre.length+(encI n).length):=by
 rw[<-List.append_assoc];exact Z' pre r h.1 h.2
theorem qy:Back aS encI bG:=fun n pre r h=>by
 unfold aS;rw[if_neg aA,Ji pre r h]
theorem Uo:Back nS qF fun _=>True:=fun b pre r _=>by
 unfold nS;rw[if_neg aA];have e:(pre++(qF b++r))[pre.length]?=some (if b then 1 else 0):=by
  rw[List.getElem?_append_right (Nat.le_refl _),Nat.sub_self];rfl
 simp only[e];cases b<;>rfl
theorem Jj:Back fK dK fun x=>x<18446744073709551616/\bU x=x:=fun x pre r h=>by
 obtain⟨hx,hc⟩:=h;unfold fK dK;have hl:=xP 8 (bU x);have e:((pre++(lX 8 (bU x)++r)).drop pre.length).take 8=lX 8 (bU x):=by
  rw[List.drop_left' rfl,List.take_append_of_le_length byOmega,List.take_of_length_le byOmega]
 have e2:jr (lX 8 (bU x))=x:=by rw[adK,hc,Nat.mod_eq_of_lt (by simpa using hx)]
 rw[if_neg aA,if_neg (by simp only[aK,hl];omega)];simp only[e,e2];rw[if_neg (by simp[hc]),hl]
theorem Ur (most:Int) (hm:most<=1000000000000):Back (sG most) bn fun k=>(k.size:Int)<=most:=fun k pre r h=>by
 have hk:(k.data.toList.length:Int)=(k.size:Int):=by rw[Array.length_toList];rfl
 have hd:=Ji pre (k.data.toList++r) (n:=(k.data.toList.length:Int)) (by unfold bG;omega);have e1:pre++(bn k++r)=pre++(encI (k.data.toList.length:Int)++(k.data.toList++r)):=by unfold bn jX;simp only[List.append_assoc]
 have e:dZ (pre++(bn k++r)) ⟨pre.length,0,0⟩ most=(k.data.toList,⟨pre.length+(bn k).length,0,0⟩):=by
  unfold dZ;rw[if_neg aA,e1,hd];simp only;rw[if_neg byOmega,if_neg byOmega,if_neg iD];have e2:((pre++(encI (k.data.toList.length:Int)++(k.data.toList++r))).drop (pre.length+(encI (k.data.toList.length:Int)).length)).take ((k.data.toList.length:Int)).toNat=k.data.toList:=by
   rw[<-List.append_assoc,Int.toNat_natCast,<-aK,List.drop_left' rfl,List.take_append_of_le_length (Nat.le_refl _),List.take_of_length_le (Nat.le_refl _)]
  have e3:(bn k).length=(encI (k.data.toList.length:Int)).length+k.data.toList.length:=by unfold bn jX;rw[aK]
  rw[e2,e3,Int.toNat_natCast,Nat.add_assoc]
 show (_,_)=_;rw[e]
section
variable {α β γ:Type} {f:eG α} {g:eG β} {mk:α->β->γ} {ef:α->List UInt8} {eg:β->List UInt8} {e:γ->List UInt8} {Qf:α->Prop} {Qg:β->Prop} {Q:γ->Prop}
theorem Back.two (hf:Back f ef Qf) (hg:Back g eg Qg) (he:∀a b,e (mk a b)=ef a++eg b) (hQ:∀c,Q c->∃a b,c=mk a b/\Qf a/\Qg b):Back (eu f g mk) e Q:=fun c pre r h=>by
 obtain⟨a,b,rfl,ha,hb⟩:=hQ c h;rw[he];have h1:=hf a pre (eg b++r) ha;have h2:=hg b (pre++ef a) r hb;rw[aK]at h2;have e1:pre++(ef a++eg b++r)=pre++(ef a++(eg b++r)):=by simp only[List.append_assoc]
 have e2:pre++(ef a++(eg b++r))=pre++ef a++(eg b++r):=by simp only[List.append_assoc]
 unfold eu;rw[e1,h1];simp only;rw[e2,h2,aK,Nat.add_assoc]
theorem adL (hf:Back f ef Qf):∀(l:List α) (pre r:List UInt8),(∀a∈l,Qf a)->iG f (pre++(l.flatMap ef++r)) l.length ⟨pre.length,0,0⟩=(l,⟨pre.length+(l.flatMap ef).length,0,0⟩):=by
 intro l
 induction l with
 |nil=>intro pre r _;rfl
 |cons a l ih=>
  intro pre r h;have h1:=hf a pre (l.flatMap ef++r) (h a List.mem_cons_self);have h2:=ih (pre++ef a) r fun b hb=>h b (List.mem_cons_of_mem _ hb)
  rw[aK]at h2;have e1:pre++((a::l).flatMap ef++r)=pre++(ef a++(l.flatMap ef++r)):=by simp only[List.flatMap_cons,List.append_assoc]
  have e2:pre++(ef a++(l.flatMap ef++r))=pre++ef a++(l.flatMap ef++r):=by simp only[List.append_assoc]
  have hn:=LG f (pre++((a::l).flatMap ef++r)) (k:=l.length+1) (s:=⟨pre.length,0,0⟩) byOmega rfl;rw[Nat.add_sub_cancel]at hn;rw[List.length_cons,hn,e1,h1];simp only;rw[e2,h2,List.flatMap_cons,aK,Nat.add_assoc]
theorem adM (h1:∀a:α,1<=(ef a).length):∀l:List α,l.length<=(l.flatMap ef).length:=by
 intro l
 induction l with
 |nil=>exact Nat.le_refl _
 |cons a l ih=>
  rw[List.flatMap_cons,aK,List.length_cons];have:=h1 a;omega
theorem uz (hf:Back f ef Qf) (h1:∀a:α,1<=(ef a).length):Back (dn f) (aH ef) fun l=>l.length<=1000000000000/\∀a∈l,Qf a:=fun l pre r h=>by
 have e1:pre++(aH ef l++r)=pre++(encI (l.length:Int)++(l.flatMap ef++r)):=by unfold aH;simp only[List.append_assoc]
 have e2:pre++(encI (l.length:Int)++(l.flatMap ef++r))=pre++encI (l.length:Int)++(l.flatMap ef++r):=by simp only[List.append_assoc]
 have hd:=Ji pre (l.flatMap ef++r) (n:=(l.length:Int)) (by unfold bG;have:=h.1;omega);have hge:=adM h1 l;have hc:qG (pre++(encI (l.length:Int)++(l.flatMap ef++r))) ⟨pre.length,0,0⟩=((l.length:Int),⟨pre.length+(encI (l.length:Int)).length,0,0⟩):=by
  unfold qG aX;rw[if_neg aA,hd];simp only;rw[if_neg byOmega,if_neg];unfold bI;rw[if_neg aA];simp only[aK];omega
 have h2:=adL hf l (pre++encI (l.length:Int)) r h.2;rw[aK]at h2;unfold dn;rw[e1,hc];simp only;rw[Int.toNat_natCast,e2,h2];unfold aH;rw[aK,Nat.add_assoc]
end
theorem Ap (n:Int):1<=(encI n).length:=by
 unfold encI;by_cases h:zig n<128
 · rw[yS h];exact Nat.le_refl _
 · rw[yT h,List.length_cons];omega
theorem FZ (k:ByteArray):1<=(bn k).length:=by
 unfold bn jX;rw[aK];have:=Ap (k.data.toList.length:Int);omega
theorem Nv:Back (eu aS aS Prod.mk) (fun a=>encI a.1++encI a.2) fun a=>bG a.1/\bG a.2:=qy.two qy (fun _ _=>rfl) fun c h=>⟨c.1,c.2,rfl,h.1,h.2⟩
theorem zy:Back dY aU Sp.ok:=by
 rw[TK];exact Nv.two qy (fun a b=>by show encI _++(encI _++encI _)=(encI _++encI _)++encI _;rw[List.append_assoc]) fun c h=>⟨(c.w,c.l),c.n,rfl,⟨h.1,h.2.1⟩,h.2.2⟩
theorem Nw:Back oD eP Tx.ok:=by
 rw[TL];exact Nv.two qy (fun a b=>by show encI _++(encI _++encI _)=(encI _++encI _)++encI _;rw[List.append_assoc]) fun c h=>⟨(c.c,c.l),c.s,rfl,⟨h.1,h.2.1⟩,h.2.2⟩
def F5 (v:Vl):Prop:=v.ok/\v.may=true
theorem empty_of {t:ByteArray} (h:pU t=true):t=⟨#[]⟩:=by
 refine zQ ?_;have h1:t.toList=[]:=by simpa [pU] using h
 have h2:(⟨#[]⟩:ByteArray).toList=[]:=by
  simp
 rw[h1,h2]
theorem Ny:Back je eY F5:=fun v pre r h=>by
 obtain⟨hok,hm⟩:=h;obtain⟨k,n,t⟩:=v;have hk:=LK hm;have e:oZ (pre++(eY ⟨k,n,t⟩++r)) ⟨pre.length,0,0⟩=(⟨k,n,t⟩,⟨pre.length+(eY ⟨k,n,t⟩).length,0,0⟩):=by
  unfold eY;rw[if_pos hm];have hcnt:∀(k:Int) (x:List UInt8),(k=0∨k=1∨k=2)->aX (pre++(encI k++x)) ⟨pre.length,0,0⟩ 2 4=(k,⟨pre.length+(encI k).length,0,0⟩):=fun k x hk=>by
   unfold aX;rw[if_neg aA,Ji pre x (by unfold bG;omega)];simp only;rw[if_neg byOmega,if_neg byOmega]
  simp only at hk;rcases hk with rfl|rfl|rfl
  · rw[Vl.may0 rfl]at hm;simp only[Bool.and_eq_true]at hm;obtain⟨h1,h2⟩:=hm;obtain rfl:=empty_of h2;have hn:n=0:=(by simpa using h1);subst hn;rw[if_neg (show ¬(0:Int)=1 by omega),if_neg (show ¬(0:Int)=2 by omega)];unfold oZ;rw[hcnt 0 r (.inl rfl)];rw[if_neg (show ¬(0:Int)=1 by omega),if_neg (show ¬(0:Int)=2 by omega)]
  · rw[Vl.may1 rfl]at hm;simp only[Bool.and_eq_true]at hm;obtain⟨h2,h1⟩:=hm;obtain rfl:=empty_of h2;have hc:bU n=n:=by
        have h1':((n:Nat):Int)=(bU n:Int):=(by simpa using h1);omega
    rw[if_pos (show (1:Int)=1 from rfl)];have e1:pre++(encI 1++dK n++r)=pre++(encI 1++(dK n++r)):=(by simp only[List.append_assoc]);have e2:pre++(encI 1++(dK n++r))=pre++encI 1++(dK n++r):=(by simp only[List.append_assoc]);have hf:=Jj n (pre++encI 1) r ⟨hok.2.1,hc⟩;rw[aK]at hf;unfold oZ;rw[e1,hcnt 1 _ (.inr (.inl rfl))];simp only;rw[if_pos trivial,e2,hf,aK,Nat.add_assoc]
  · rw[Vl.H9 rfl]at hm;simp only[Bool.and_eq_true,decide_eq_true_eq]at hm;obtain⟨h1,h2⟩:=hm;have hn:n=0:=(by simpa using h1);subst hn;rw[if_neg (show ¬(2:Int)=1 by omega),if_pos (show (2:Int)=2 from rfl)];have e1:pre++(encI 2++bn t++r)=pre++(encI 2++(bn t++r)):=(by simp only[List.append_assoc]);have e2:pre++(encI 2++(bn t++r))=pre++encI 2++(bn t++r):=(by simp only[List.append_assoc]);have hf:=Ur 64 byOmega t (pre++encI 2) r h2;rw[aK]at hf;unfold oZ;rw[e1,hcnt 2 _ (.inr (.inr rfl))];simp only;rw[if_neg byOmega,if_pos trivial,e2,hf,aK,Nat.add_assoc]
 unfold je;rw[e,if_neg aA]
def qN (k:ByteArray):Prop:=(k.size:Int)<=262144
def Ce (a:Wt):Prop:=qN a.key/\F5 a.v
def Us (a:Vn):Prop:=a.s.ok/\F5 a.v
def lN {α:Type} (Q:α->Prop) (l:List α):Prop:=l.length<=1000000000000/\∀a∈l,Q a
def Nz (h:Hs):Prop:=qN h.key/\lN Us h.vs
def Jk (p:Pn):Prop:=p.t.ok/\p.s.ok/\lN qN p.r/\lN Ce p.w
def Ej (x:Nat):Prop:=x<18446744073709551616/\bU x=x
def Aq (r:Rg):Prop:=bG r.id/\bG r.ep/\Ej r.lo/\Ej r.hi
def Jl (s:dP):Prop:=Aq s.r/\s.f.ok/\s.c.ok/\lN Nz s.h/\lN Jk s.p
theorem Em:Back iF bn qN:=Ur 262144 byOmega
theorem Jm:Back nT bP Ce:=Em.two Ny (fun _ _=>rfl) fun c h=>⟨c.key,c.v,rfl,h.1,h.2⟩
theorem adN:Back wU kE Us:=zy.two Ny (fun _ _=>rfl) fun c h=>⟨c.s,c.v,rfl,h.1,h.2⟩
theorem zA {a b:List UInt8} (h:1<=a.length):1<=(a++b).length:=by rw[aK];omega
theorem Jo (a:Wt):1<=(bP a).length:=zA (FZ _)
theorem adO (a:Sp):1<=(aU a).length:=zA (Ap _)
theorem adP (a:Tx):1<=(eP a).length:=zA (Ap _)
theorem adQ (a:Vn):1<=(kE a).length:=zA (adO _)
theorem adR (a:Hs):1<=(iQ a).length:=zA (FZ _)
theorem adS (a:Pn):1<=(fH a).length:=zA (adP _)
theorem adT:Back sH iQ Nz:=Em.two (uz adN adQ) (fun _ _=>rfl) fun c h=>⟨c.key,c.vs,rfl,h.1,h.2⟩
theorem adU:Back (eu oD dY Prod.mk) (fun a=>eP a.1++aU a.2) fun a=>a.1.ok/\a.2.ok:=Nw.two zy (fun _ _=>rfl) fun c h=>⟨c.1,c.2,rfl,h.1,h.2⟩
theorem adV:Back (eu (eu oD dY Prod.mk) (dn iF) Prod.mk) (fun a=>(eP a.1.1++aU a.1.2)++aH bn a.2) fun a=>(a.1.1.ok/\a.1.2.ok)/\lN qN a.2:=
 adU.two (uz Em FZ) (fun _ _=>rfl) fun c h=>⟨c.1,c.2,rfl,h.1,h.2⟩
theorem Ut:Back pq fH Jk:=adV.two (uz Jm Jo) (fun a b=>by
 show eP _++(aU _++(aH bn _++aH bP _))=((eP _++aU _)++aH bn _)++aH bP _;simp only[List.append_assoc]) fun c h=>⟨((c.t,c.s),c.r),c.w,rfl,⟨⟨h.1,h.2.1⟩,h.2.2.1⟩,h.2.2.2⟩
theorem adW:Back (eu (eu aS aS Prod.mk) fK Prod.mk) (fun a=>(encI a.1.1++encI a.1.2)++dK a.2) fun a=>(bG a.1.1/\bG a.1.2)/\Ej a.2:=Nv.two Jj (fun _ _=>rfl) fun c h=>⟨c.1,c.2,rfl,h.1,h.2⟩
theorem Uu:Back kF dU Aq:=adW.two Jj (fun a b=>by
 show encI _++(encI _++(dK _++dK _))=((encI _++encI _)++dK _)++dK _;simp only[List.append_assoc]) fun c h=>⟨((c.id,c.ep),c.lo),c.hi,rfl,⟨⟨h.1,h.2.1⟩,h.2.2.1⟩,h.2.2.2⟩
theorem adX:Back (eu kF dY Prod.mk) (fun a=>dU a.1++aU a.2) fun a=>Aq a.1/\a.2.ok:=Uu.two zy (fun _ _=>rfl) fun c h=>⟨c.1,c.2,rfl,h.1,h.2⟩
theorem adY:Back (eu (eu kF dY Prod.mk) dY Prod.mk) (fun a=>(dU a.1.1++aU a.1.2)++aU a.2) fun a=>(Aq a.1.1/\a.1.2.ok)/\a.2.ok:=adX.two zy (fun _ _=>rfl) fun c h=>⟨c.1,c.2,rfl,h.1,h.2⟩
theorem adZ:Back (eu (eu (eu kF dY Prod.mk) dY Prod.mk) (dn sH) Prod.mk) (fun a=>((dU a.1.1.1++aU a.1.1.2)++aU a.1.2)++aH iQ a.2) fun a=>((Aq a.1.1.1/\a.1.1.2.ok)/\a.1.2.ok)/\lN Nz a.2:=
 adY.two (uz adT adR) (fun _ _=>rfl) fun c h=>⟨c.1,c.2,rfl,h.1,h.2⟩
theorem Uw:Back xW oC Jl:=adZ.two (uz Ut adS) (fun a b=>by
 show dU _++(aU _++(aU _++(aH iQ _++aH fH _)))=(((dU _++aU _)++aU _)++aH iQ _)++aH fH _;simp only[List.append_assoc]) fun c h=>⟨(((c.r,c.f),c.c),c.h),c.p,rfl,⟨⟨⟨h.1,h.2.1⟩,h.2.2.1⟩,h.2.2.2.1⟩,h.2.2.2.2⟩
theorem F6:∀(l:List ByteArray) (p:Option ByteArray),iP p l=true->∀k∈l,qN k:=by
 intro l
 induction l with
 |nil=>intro p _ k hk;cases hk
 |cons a l ih=>
  intro p h k hk;have h':=h;unfold iP at h';simp only[Bool.and_eq_true]at h';rcases List.mem_cons.1 hk with rfl|hk
  · have:=h'.1.1;unfold gY at this;simp only[Bool.and_eq_true,decide_eq_true_eq]at this;unfold qN;omega
  · exact ih _ h'.2 k hk
theorem ad5:∀(l:List Wt),lG l=true->∀a∈l,a.v.may=true:=by
 intro l
 induction l with
 |nil=>intro _ a h;cases h
 |cons x l ih=>
  intro h a ha;have h':(x.v.may&&lG l)=true:=h;simp only[Bool.and_eq_true]at h';rcases List.mem_cons.1 ha with rfl|ha
  · exact h'.1
  · exact ih h'.2 a ha
theorem Jp {p:Pn} (h:dw p=0):(∀k∈p.r,qN k)/\∀a∈p.w,qN a.key/\a.v.may=true:=by
 unfold dw at h;split at h
 · omega
 · split at h
   · omega
   · split at h
     · omega
     · rename_i h1 h2 h3;split at h
       · rename_i h4;simp only[Bool.or_eq_true,Bool.not_eq_true',not_or,Bool.not_eq_false]at h3;have r1:=h3.1;have r2:=h3.2;unfold cu at r1 r2;simp only[Bool.and_eq_true]at r1 r2;refine⟨F6 _ _ r1.1,fun a ha=>⟨F6 _ _ r2.1 a.key (List.mem_map_of_mem ha),ad5 _ h4 a ha⟩⟩
       · omega
theorem ad6:∀(l:List Wt) (p:Option ByteArray),vU p l=true->∀a∈l,qN a.key/\a.v.may=true:=by
 intro l
 induction l with
 |nil=>intro p _ k hk;cases hk
 |cons x l ih=>
  intro p h a ha;have h':=h;unfold vU at h';simp only[Bool.and_eq_true]at h';rcases List.mem_cons.1 ha with rfl|ha
  · have:=h'.1.1.1.1;unfold gY at this;simp only[Bool.and_eq_true,decide_eq_true_eq]at this;exact⟨by unfold qN;omega,h'.1.1.2⟩
  · exact ih _ h'.2 a ha
theorem ad7:∀(l:List Vn) (p:Sp),jG p l=true->∀a∈l,a.v.may=true:=by
 intro l
 induction l with
 |nil=>intro p _ k hk;cases hk
 |cons x l ih=>
  intro p h a ha;have h':(x.s.may&&decide (0<x.s.cmp p)&&x.v.may&&jG x.s l)=true:=h;simp only[Bool.and_eq_true]at h';rcases List.mem_cons.1 ha with rfl|ha
  · exact h'.1.2
  · exact ih _ h'.2 a ha
theorem ad8:∀(l:List Hs) (p:ByteArray),mX p l=true->∀h∈l,qN h.key/\∀v∈h.vs,v.v.may=true:=by
 intro l
 induction l with
 |nil=>intro p _ k hk;cases hk
 |cons x l ih=>
  intro p h a ha;have h':(nM p x&&mX x.key l)=true:=h;simp only[Bool.and_eq_true]at h';rcases List.mem_cons.1 ha with rfl|ha
  · have h1:=h'.1;unfold nM gY at h1;simp only[Bool.and_eq_true,decide_eq_true_eq]at h1;exact⟨by unfold qN;omega,ad7 _ _ h1.2⟩
  · exact ih _ h'.2 a ha
theorem ad9:∀(l:List Pn) (H:List Hs) (m:List Pn),vO H m l=0->∀p∈l,dw p=0:=by
 intro l
 induction l with
 |nil=>intro H m _ k hk;cases hk
 |cons x l ih=>
  intro H m h a ha;have h':(if dw x≠0 then dw x else if (m.any fun y=>decide (y.t=x.t)) then 9 else if nP m x then 18 else if vM H x then 20 else vO H (m++[x]) l)=0:=h;split at h'
  · rename_i h1;exact absurd h' h1
  · rename_i h1;split at h'
    · omega
    · split at h'
      · omega
      · split at h'
        · omega
        · rcases List.mem_cons.1 ha with rfl|ha
          · exact Decidable.byContradiction h1
          · exact ih _ _ h' a ha
theorem F7 {x:Nat} (h:x<=4607182418800017408):Ej x:=by
 refine⟨byOmega,?_⟩;unfold bU;rw[Py,decide_eq_false byOmega];rfl
def Jq (s:dP):Prop:=s.r.ok/\s.f.ok/\s.c.ok/\tY s.h/\uK s.p/\(∀h∈s.h,∀v∈h.vs,v.ok)/\∀p∈s.p,p.t.ok/\p.s.ok/\∀a∈p.w,a.ok
theorem Ux {s:dP} (h:dV s=true) (ok:Jq s):Jl s:=by
 obtain⟨o1,o2,o3,o4,o5,o6,o7⟩:=ok;unfold dV at h;simp only[Bool.and_eq_true,decide_eq_true_eq]at h;obtain⟨⟨⟨⟨⟨h1,h2⟩,h3⟩,h4⟩,h5⟩,h6⟩:=h;have hp:=PY h1;have hl:mX ⟨#[]⟩ s.h=true:=by
  unfold ou at h4;split at h4
  · assumption
  · omega
 have hq:vO s.h [] s.p=0:=by
  unfold ou at h4;rw[if_pos hl]at h4;exact h4
 refine⟨⟨o1.1,o1.2.1,F7 byOmega,F7 byOmega⟩,o2,o3,⟨by have:=o4.1;omega,fun h hh=>?_⟩,⟨by have:=o5.1;omega,fun p hp=>?_⟩⟩
 · obtain⟨a1,a2⟩:=ad8 _ _ hl h hh;exact⟨a1,by have:=o4.2 h hh;omega,fun v hv=>⟨(o6 h hh v hv).1,(o6 h hh v hv).2,a2 v hv⟩⟩
 · obtain⟨a1,a2⟩:=Jp (ad9 _ _ _ hq p hp);obtain⟨b1,b2,b3⟩:=o7 p hp;have c:=o5.2 p hp;exact⟨b1,b2,⟨byOmega,a1⟩,⟨byOmega,fun a ha=>⟨(a2 a ha).1,(b3 a ha).2,(a2 a ha).2⟩⟩⟩
