/- The walks of the document's small functions: order, Compare, Less; its number's bits; its May of a value. -/
import Derived.Test.YtcalkfgibflbnaaGreatBaaf
namespace Go.Proofs.YtcalkfgibflbnaaGreat
set_option maxHeartbeats 6000000
set_option maxRecDepth 100000
open Go.RowKit Fl
attribute [local go_sem] dJ
theorem MN (a b:Int) (w:World):Calls Tryz.prog 217 #[.int .i64 a,.int .i64 b] w fun e w'=>e=.returned (.int .i64 (oP a b))/\w=w':=by
 go_enter Tryz.func217,Tryz.ntmps217;go_wp2;all_goals go_ret
 all_goals refine⟨nH ?_,rfl⟩
 all_goals simp_all [oP]
 all_goals omega
theorem Sp.MO (a b:Sp):a.cmp b=if oP a.w b.w=0 then (if oP a.l b.l=0 then oP a.n b.n else oP a.l b.l) else oP a.w b.w:=by
 have h:∀x y:Int,oP x y=0↔x=y:=fun x y=>by unfold oP;split<;>(try split)<;>omega
 unfold Sp.cmp;simp only[h];by_cases h1:a.w=b.w
 · by_cases h2:a.l=b.l
   · simp[h1,h2]
   · simp[h1,h2]
 · simp[h1]
theorem Sj (a b:Sp) (w:World):Calls Tryz.prog 183 #[a.val,b.val] w fun e w'=>e=.returned (.int .i64 (a.cmp b))/\Below w.heap.size w w':=by
 rw[Sp.MO];have h1:=fun w=>MN a.w b.w w
 have h2:=fun w=>MN a.l b.l w
 have h3:=fun w=>MN a.n b.n w
 generalize oP a.w b.w=x at*;generalize oP a.l b.l=y at*;generalize oP a.n b.n=z at*;by_cases hx:x=0
 · by_cases hy:y=0
   · rw[if_pos hx,if_pos hy];have hx0:(x==0)=true:=(by simp[hx]);have hy0:(y==0)=true:=(by simp[hy]);clear hx hy;go_enter Tryz.func183,Tryz.ntmps183;go_wp2_with (first
        |((with_reducible refine(h1 _).mono ?_);rintro e w1 ⟨rfl,rfl⟩)
        |((with_reducible refine(h2 _).mono ?_);rintro e w1 ⟨rfl,rfl⟩)
        |((with_reducible refine(h3 _).mono ?_);rintro e w1 ⟨rfl,rfl⟩))
     go_ret;exact⟨rfl,by go_grown⟩
   · rw[if_pos hx,if_neg hy];have hx0:(x==0)=true:=(by simp[hx]);have hy0:(y==0)=false:=(by simp[hy]);clear hx hy;go_enter Tryz.func183,Tryz.ntmps183;go_wp2_with (first
        |((with_reducible refine(h1 _).mono ?_);rintro e w1 ⟨rfl,rfl⟩)
        |((with_reducible refine(h2 _).mono ?_);rintro e w1 ⟨rfl,rfl⟩))
     go_ret;exact⟨rfl,by go_grown⟩
 · rw[if_neg hx];have hx0:(x==0)=false:=(by simp[hx]);clear hx;go_enter Tryz.func183,Tryz.ntmps183;go_wp2_with ((with_reducible refine(h1 _).mono ?_);rintro e w1 ⟨rfl,rfl⟩);go_ret;exact⟨rfl,by go_grown⟩
theorem MP (a b:Sp) (w:World):Calls Tryz.prog 123 #[a.val,b.val] w fun e w'=>e=.returned (.bool (decide (a.cmp b<0)))/\Below w.heap.size w w':=by
 have h:=fun w=>Sj a b w
 generalize a.cmp b=x at*;go_enter Tryz.func123,Tryz.ntmps123;go_wp2_with ((with_reducible refine(h _).mono ?_);rintro e w1 ⟨rfl,hb⟩);go_ret;exact⟨rfl,(by go_grown:Below w.heap.size w ((w.alloc (.cells #[.int .i64 a.w,.int .i64 a.l,.int .i64 a.n] 26)).alloc (.cells #[.int .i64 b.w,.int .i64 b.l,.int .i64 b.n] 26))).trans (hb.mono ay)⟩
theorem aa2 (a:Nat) (w:World):Calls Tryz.prog 209 #[.float .f64 a] w fun e w'=>e=.returned (.int .u64 (bU a))/\w=w':=by
 by_cases h:wH a=true
 · have e:bU a=9221120237041090560:=(by simp[bU,h]);have h':(FloatKind.f64.format.order a a !=some Ordering.eq)=true:=h;rw[e];clear e h;go_enter Tryz.func209,Tryz.ntmps209;go_wp2;go_ret;exact⟨rfl,rfl⟩
 · have e:bU a=a:=(by simp[bU,h]);have h':(FloatKind.f64.format.order a a !=some Ordering.eq)=false:=(by simpa [wH] using h);rw[e];clear e h;go_enter Tryz.func209,Tryz.ntmps209;go_wp2;go_ret;exact⟨rfl,rfl⟩
theorem aa3 (a:Nat) (w:World):Calls Tryz.prog 170 #[.float .f64 a] w fun e w'=>e=.returned (.float .f64 (bU a))/\w=w':=by
 go_enter Tryz.func170,Tryz.ntmps170;go_wp2_with ((with_reducible refine(aa2 _ _).mono ?_);rintro e w' ⟨rfl,rfl⟩);go_ret;exact⟨rfl,rfl⟩
theorem DX (v:Vl) (w:World):Calls Tryz.prog 117 #[v.val] w fun e w'=>e=.returned (.bool v.may)/\Below w.heap.size w w':=by
 have hb:=fun w=>AV v.n 0 w
 have hb2:=fun w=>AV v.n (bU v.n) w
 have hz:((v.n:Int)==((0:Nat):Int))=((v.n:Int)==0):=rfl;rw[hz]at hb;by_cases h0:v.k=0
 · have hk:(v.k==0)=true:=(by simp[h0]);rw[Vl.may0 h0];clear h0;cases ht:pU v.t<;>cases hn:((v.n:Int)==0)
   all_goals unfold pU at ht
   all_goals rw[hn]at hb
   all_goals go_enter Tryz.func117,Tryz.ntmps117
   all_goals go_wp2_with ((with_reducible refine(hb _).mono ?_);rintro e w' ⟨rfl,rfl⟩)
   all_goals go_ret
   all_goals exact⟨rfl,by go_grown⟩
 by_cases h1:v.k=1
 · have hk:(v.k==0)=false:=(by simp[h0]);have hk2:(v.k==1)=true:=(by simp[h1]);rw[Vl.may1 h1];clear h0 h1;cases ht:pU v.t<;>cases hn:((v.n:Int)==bU v.n)
   all_goals unfold pU at ht
   all_goals rw[hn]at hb2
   all_goals go_enter Tryz.func117,Tryz.ntmps117
   all_goals go_wp2
   all_goals go_quiet (first|(go_at_call 170;exact nJ (aa3 _ _))|(go_at_call 124;exact nJ (hb2 _)))
   all_goals go_wp2
   all_goals go_ret
   all_goals exact⟨rfl,(by go_grown:Below w.heap.size w (w.alloc _)).trans ((bD _).mono aA)⟩
 by_cases h2:v.k=2
 · have hk:(v.k==0)=false:=(by simp[h0]);have hk2:(v.k==1)=false:=(by simp[h1]);have hk3:(v.k==2)=true:=(by simp[h2]);rw[Vl.H9 h2];clear h0 h1 h2;cases ht:decide ((v.t.size:Int)<=64)<;>cases hn:((v.n:Int)==0)
   all_goals rw[hn]at hb
   all_goals go_enter Tryz.func117,Tryz.ntmps117
   all_goals go_wp2_with ((with_reducible refine(hb _).mono ?_);rintro e w' ⟨rfl,rfl⟩)
   all_goals go_ret
   all_goals exact⟨rfl,by go_grown⟩
 · have hk:(v.k==0)=false:=(by simp[h0]);have hk2:(v.k==1)=false:=(by simp[h1]);have hk3:(v.k==2)=false:=(by simp[h2]);rw[Vl.Ky h0 h1 h2];clear h0 h1 h2;go_enter Tryz.func117,Tryz.ntmps117;go_wp2;go_ret;exact⟨rfl,by go_grown⟩
set_option maxHeartbeats 4000000
set_option linter.unusedVariables false
def nb (g:Nat):Nat->Bool:=fun k=>decide (k≠g)
theorem zi {g k:Nat}:nb g k=true↔k≠g:=by unfold nb;rw[decide_eq_true_eq]
structure ny (w:World) (g:Nat) (B1:Option Addr) (m1 d1:Nat) (B2:Option Addr) (m2 d2:Nat) (L:Sp) (Hl:List Hs) (Pl:List Pn):Prop where
 blk:aj w g 241 #[.slice B1 m1 d1,.slice B2 m2 d2,.int .i64 L.w,.int .i64 L.l,.int .i64 L.n]
 hs:Sl aQ 2 (only (nb g) w) w.heap.size B1 m1 Hl
 ps:Sl aP 8 (only (nb g) w) w.heap.size B2 m2 Pl
 Sm:m2<=d2
 Sr:d2<=maxLen
 m1:m1<=maxLen
 m2:m2<=maxLen
section
variable {w w':World} {g:Nat} {B1 B2:Option Addr} {m1 d1 m2 d2:Nat} {L:Sp} {Hl:List Hs} {Pl:List Pn}
theorem ny.below (h:ny w g B1 m1 d1 B2 m2 d2 L Hl Pl) (hb:Below w.heap.size w w'):ny w' g B1 m1 d1 B2 m2 d2 L Hl Pl:=by
 have hk:∀p:Addr,p.block<w.heap.size->(only (nb g) w').cell? p=(only (nb g) w).cell? p:=fun p hp=>by
  cases hn:nb g p.block
  · rw[wP hn,wP hn]
  · rw[qE hn,qE hn];exact hb.cell hp
 exact⟨h.blk.below hb h.blk.lt,(h.hs.keep aQ.kept hk).more aQ.kept hb.size,(h.ps.keep aP.kept hk).more aP.kept hb.size,h.Sm,h.Sr,h.m1,h.m2⟩
theorem ny.hist (h:ny w g B1 m1 d1 B2 m2 d2 L Hl Pl):Sl aQ 2 w w.heap.size B1 m1 Hl:=h.hs.mono aQ.mono fun p u _ hc=>(tZ hc).2
theorem ny.pend (h:ny w g B1 m1 d1 B2 m2 d2 L Hl Pl):Sl aP 8 w w.heap.size B2 m2 Pl:=h.ps.mono aP.mono fun p u _ hc=>(tZ hc).2
end
def oH (key:ByteArray):Nat->List Hs->Int
 |_,[]=> -1
 |i,h::l=>if h.key.toList==key.toList then (i:Int) else oH key (i+1) l
theorem aa4 {key:ByteArray} {l:List Hs} {k:Nat} {a:Hs} (h:l[k]?=some a):oH key k (l.drop k)=if a.key.toList==key.toList then (k:Int) else oH key (k+1) (l.drop (k+1)):=by
 have h1:=List.getElem?_eq_some_iff.1 h;rw[List.drop_eq_getElem_cons h1.1,h1.2];rfl
def AtRel (key:ByteArray) (l:List Hs) (w:World) (i:Value) (wr:World):Prop:=∃k:Nat,k<=l.length/\i=.int .i64 (k:Int)/\oH key k (l.drop k)=oH key 0 l/\Below w.heap.size w wr
theorem Sv (g:Nat) (B1 B2:Option Addr) (m1 d1 m2 d2:Nat) (L:Sp) (Hl:List Hs) (Pl:List Pn) (key:ByteArray) (w:World) (h:ny w g B1 m1 d1 B2 m2 d2 L Hl Pl):
 Calls Tryz.prog 214 #[.pointer (some ⟨g,0,none⟩),.string key] w fun e w'=>e=.returned (.int .i64 (oH key 0 Hl))/\Below w.heap.size w w':=by
 have hm:=h.m1;unfold maxLen at hm;have hl:=h.hs.1;have hge:m1<=Hl.length:=byOmega;have hle:Hl.length<=m1:=byOmega;clear hl;go_enter Tryz.func214,Tryz.ntmps214;go_wp2
 go_loopw [5] (fun i wr=>AtRel key Hl w i wr) (fun i _=>m1-(intOf i).toNat)
 case atStart=>exact⟨0,byOmega,rfl,rfl,aC⟩
 case round=>
  obtain⟨k,hk,rfl,hs,hb⟩:=hrel;have hzz:=hb.size;have hr:=h.below hb;obtain⟨gl,k0,k1,-,-,-⟩:=hr.blk.zV;by_cases hlt:k<m1
  · obtain⟨ad,a,A',n',c',rfl,ha,hbk,hok,c0,c1,hn',hc',hsv⟩:=hr.hist.hs hlt;have hd1:decide ((k:Int)<(m1:Int))=true:=ay;have hk0:(0:Int)<=(k:Int):=byOmega;have hk1:(k:Int)<(m1:Int):=byOmega;rw[aa4 ha]at hs;clear ha;cases he:(a.key.toList==key.toList)
    · rw[he]at hs;have HS:=au (show oH key (k+1) (Hl.drop (k+1))=oH key 0 Hl from hs);clear hs;go_wp2;go_roundw
      case rel=>exact⟨k+1,byOmega,by go_num,HS.out,hb⟩
      case measure=>simp[intOf];omega
    · rw[he]at hs;have HS:=au (show (k:Int)=oH key 0 Hl from hs);clear hs;go_wp2;go_ret;rw[<-HS.out];exact⟨rfl,hb⟩
  · have hd1:decide ((k:Int)<(m1:Int))=false:=ay;rw[bF byOmega]at hs;have HS:=au (show (-1:Int)=oH key 0 Hl from hs);clear hs;go_wp2;go_ret;rw[<-HS.out];exact⟨rfl,hb⟩
def oI (t:Tx):Nat->List Pn->Int
 |_,[]=> -1
 |i,p::l=>if decide (p.t=t) then (i:Int) else oI t (i+1) l
theorem aa5 {t:Tx} {l:List Pn} {k:Nat} {a:Pn} (h:l[k]?=some a):oI t k (l.drop k)=if decide (a.t=t) then (k:Int) else oI t (k+1) (l.drop (k+1)):=by
 have h1:=List.getElem?_eq_some_iff.1 h;rw[List.drop_eq_getElem_cons h1.1,h1.2];rfl
theorem DY (a t:Tx) (w:World):(Op.equalIn 10000 23 (.agg #[.int .i64 a.c,.int .i64 a.l,.int .i64 a.s]) (.agg #[.int .i64 t.c,.int .i64 t.l,.int .i64 t.s])).run Tryz.prog w=.ok (decide (a=t)) w:=by
 have e:decide (a=t)=((a.c==t.c)&&(a.l==t.l)&&(a.s==t.s)):=by
  obtain⟨a1,a2,a3⟩:=a;obtain⟨b1,b2,b3⟩:=t;rw[Bool.eq_iff_iff];simp[and_assoc]
 rw[e];cases h1:(a.c==t.c)<;>cases h2:(a.l==t.l)<;>cases h3:(a.s==t.s)
 all_goals simp[go_sem,h1,h2,h3]
def aa6 (t:Tx) (l:List Pn) (w:World) (i:Value) (wr:World):Prop:=∃k:Nat,k<=l.length/\i=.int .i64 (k:Int)/\oI t k (l.drop k)=oI t 0 l/\Below w.heap.size w wr/\aj wr w.heap.size 23 #[.int .i64 t.c,.int .i64 t.l,.int .i64 t.s]
theorem aa7 (g:Nat) (B1 B2:Option Addr) (m1 d1 m2 d2:Nat) (L:Sp) (Hl:List Hs) (Pl:List Pn) (t:Tx) (w:World) (h:ny w g B1 m1 d1 B2 m2 d2 L Hl Pl):
 Calls Tryz.prog 177 #[.pointer (some ⟨g,0,none⟩),t.val] w fun e w'=>e=.returned (.int .i64 (oI t 0 Pl))/\Below w.heap.size w w':=by
 have hm:=h.m2;unfold maxLen at hm;have hl:=h.ps.1;have hge:m2<=Pl.length:=byOmega;have hle:Pl.length<=m2:=byOmega;clear hl;go_enter Tryz.func177,Tryz.ntmps177;go_wp2
 go_loopw [5] (fun i wr=>aa6 t Pl w i wr) (fun i _=>m2-(intOf i).toNat)
 case atStart=>exact⟨0,byOmega,rfl,rfl,by go_grown,aj.new _ _ _⟩
 case round=>
  obtain⟨k,hk,rfl,hs,hb,i3⟩:=hrel;have hzz:=hb.size;have hr:=h.below hb;obtain⟨gl,k0,k1,-,-,-⟩:=hr.blk.zV;obtain⟨g3,s0,s1,s2⟩:=i3.three;by_cases hlt:k<m2
  · obtain⟨ad,a,A1,n1,c1,A2,n2,c2,rfl,ha,hbk,hxt,hxs,e0,e1,e2,e3,e4,e5,e6,e7,hn1,hc1,hs1,hn2,hc2,hs2⟩:=hr.pend.pn hlt;have hd1:decide ((k:Int)<(m2:Int))=true:=ay;have hk0:(0:Int)<=(k:Int):=byOmega;have hk1:(k:Int)<(m2:Int):=byOmega;have hrun:=fun w=>DY a.t t w
    rw[aa5 ha]at hs;clear ha;cases he:decide (a.t=t)
    · rw[he]at hs hrun;have HS:=au (show oI t (k+1) (Pl.drop (k+1))=oI t 0 Pl from hs);clear hs he;go_wp2
      go_quiet (fail)
      all_goals go_wp2
      all_goals go_roundw
      case rel=>exact⟨k+1,byOmega,by go_num,HS.out,hb.trans ((bD _).mono hzz),i3⟩
      case measure=>simp[intOf];omega
    · rw[he]at hs hrun;have HS:=au (show (k:Int)=oI t 0 Pl from hs);clear hs he;go_wp2
      go_quiet (fail)
      all_goals go_wp2
      all_goals go_ret
      rw[<-HS.out];exact⟨rfl,hb.trans ((bD _).mono hzz)⟩
  · have hd1:decide ((k:Int)<(m2:Int))=false:=ay;rw[bF byOmega]at hs;have HS:=au (show (-1:Int)=oI t 0 Pl from hs);clear hs;go_wp2;go_ret;rw[<-HS.out];exact⟨rfl,hb⟩
set_option maxHeartbeats 8000000
def dP.eH (s:dP):Bool:=(s.r.id==0)&&(s.r.ep==0)&&((s.r.lo:Int)==0)&&((s.r.hi:Int)==0)&&s.f.zero&&s.c.zero&&((s.h.length:Int)==0)&&((s.p.length:Int)==0)
theorem aa8 (s:dP) (A1 A2:Option Addr) (n1 n2 c1 c2:Nat) (w:World) (h1:s.h.length=n1) (h2:s.p.length=n2):
 Calls Tryz.prog 223 #[.agg (s.arr (.slice A1 n1 c1) (.slice A2 n2 c2))] w fun e w'=>e=.returned (.bool s.eH)/\Below w.heap.size w w':=by
 have z1:=fun w=>fQ s.f w
 have z2:=fun w=>fQ s.c w
 have HZ:=au (show s.eH=((s.r.id==0)&&(s.r.ep==0)&&((s.r.lo:Int)==0)&&((s.r.hi:Int)==0)&&s.f.zero&&s.c.zero&&((n1:Int)==0)&&((n2:Int)==0)) by unfold dP.eH;rw[h1,h2]);clear h1 h2;generalize s.f.zero=b1 at*;generalize s.c.zero=b2 at*;go_enter Tryz.func223,Tryz.ntmps223;go_wp2;all_goals go_ret
 all_goals refine⟨aZ ?_,by go_grown⟩
 all_goals rw[HZ.out]
 all_goals simp_all
def Rc.eH (r:Rc):Bool:=decide (r.t=⟨0,0,0⟩)&&r.s.zero&&r.pv.zero&& !r.cm&&(r.n==0)&&((r.pt:Int)==0)&&((r.rd.length:Int)==0)&&((r.wr.length:Int)==0)&&((r.ps.length:Int)==0)&&((r.pr.length:Int)==0)&&r.st.eH
theorem aa9 (r:Rc) (h:aV) (w:World) (h1:r.rd.length=h.a.n) (h2:r.wr.length=h.b.n) (h3:r.ps.length=h.c.n) (h4:r.pr.length=h.d.n) (h5:r.st.h.length=h.e.n) (h6:r.st.p.length=h.f.n):
 Calls Tryz.prog 198 #[.agg (r.vals h)] w fun e w'=>e=.returned (.bool r.eH)/\Below w.heap.size w w':=by
 have z0:=fun w=>DY r.t ⟨0,0,0⟩ w
 have z1:=fun w=>fQ r.s w
 have z2:=fun w=>fQ r.pv w
 have hS:=fun w=>aa8 r.st h.e.A h.f.A h.e.n h.f.n h.e.c h.f.c w h5 h6
 have HZ:=au (show r.eH=(decide (r.t=⟨0,0,0⟩)&&r.s.zero&&r.pv.zero&& !r.cm&&(r.n==0)&&((r.pt:Int)==0)&&((h.a.n:Int)==0)&&((h.b.n:Int)==0)&&((h.c.n:Int)==0)&&((h.d.n:Int)==0)&&r.st.eH) by unfold Rc.eH;rw[h1,h2,h3,h4]);clear h1 h2 h3 h4 h5 h6;generalize decide (r.t=⟨0,0,0⟩)=b0 at*;generalize r.s.zero=b1 at*;generalize r.pv.zero=b2 at*;generalize r.st.eH=b3 at*;have hX:Below w.heap.size w (w.alloc (.cells (r.vals h) 69)):=aJ;go_enter Tryz.func198,Tryz.ntmps198;go_wp2_with ((with_reducible refine(hS _).mono ?_);rintro e w1 ⟨rfl,hb1⟩);all_goals go_ret
 all_goals refine⟨aZ ?_,by first|exact hX|exact hX.trans (hb1.mono hX.size)⟩
 all_goals rw[HZ.out]
 all_goals simp_all
def zeroS:dP:=⟨⟨0,0,0,0⟩,⟨0,0,0⟩,⟨0,0,0⟩,[],[]⟩
def wipe (r:Rc):Rc:=
 if r.k=1 then {r with st:=zeroS} else
 if r.k=2 then {r with n:=0} else
 if r.k=3 then {r with t:=⟨0,0,0⟩,s:=⟨0,0,0⟩,rd:=[],wr:=[],ps:=[]} else
 if r.k=4 then {r with t:=⟨0,0,0⟩,cm:=false,s:=⟨0,0,0⟩} else
 if r.k=5 then {r with s:=⟨0,0,0⟩} else
 if r.k=6 then {r with pt:=0,n:=0,s:=⟨0,0,0⟩} else
 if r.k=7 then {r with n:=0} else
 if r.k=8 then {r with n:=0} else
 if r.k=9 then {r with t:=⟨0,0,0⟩,s:=⟨0,0,0⟩,ps:=[]} else
 if r.k=10 then {r with t:=⟨0,0,0⟩} else
 if r.k=11 then {r with pv:=⟨0,0,0⟩,s:=⟨0,0,0⟩,t:=⟨0,0,0⟩,wr:=[]} else
 if r.k=12 then {r with s:=⟨0,0,0⟩,pr:=[]} else
 r
def gZ (k:Int) (h:aV):aV:=
 if k=1 then {h with e:=Hd.nil,f:=Hd.nil} else
 if k=3 then {h with a:=Hd.nil,b:=Hd.nil,c:=Hd.nil} else
 if k=9 then {h with c:=Hd.nil} else
 if k=11 then {h with b:=Hd.nil} else
 if k=12 then {h with d:=Hd.nil} else
 h
theorem uT {P:Program} {ops:Array Oper} {rest:List Oper} {o:Oper} {a:Act} {w:World} {Q:Exit->Act->World->Prop} (hgd:o.guard=none) (ty:TypeId) (x y:Operand) (ho:o.op=.store ty x y)
 (cells:Array Value) (hx:a.eval x=.pointer (some ⟨w.heap.size+1,0,none⟩)) (hy:a.eval y=.agg cells)
 (t:TypeId) (old:Array Value) (ob:Obj) (hi:(P.info? ty).map (·.size)=some cells.size)
 (hold:old.size=cells.size) (h1:cells.all (·.oneCell')=true)
 (h:wpList P ops Q rest (a.put o.dst undef) ((w.alloc ob).alloc (.cells cells t))):wpList P ops Q (o::rest) a ((w.alloc ob).alloc (.cells old t)):=by
 have hs:(w.alloc ob).heap.size=w.heap.size+1:=aA;exact xO hgd ty x y ho cells (by rw[hs];exact hx) hy t old hi hold h1 h
def gy (k:Int):Bool:=decide (1<=k/\k<=12)
theorem aa' (r:Rc) (h:aV) (w:World) (hk:r.k=1):
 Calls Tryz.prog 197 #[.agg (r.vals h)] w fun e w'=>e=.returned (.tuple #[.agg (({r with st:=zeroS}:Rc).vals {h with e:=Hd.nil,f:=Hd.nil}),.bool true])/\Below w.heap.size w w':=by
 obtain⟨k,t,s,pv,cm,n,pt,rd,wr,ps,pr,st⟩:=r;change k=1 at hk;subst hk;go_enter Tryz.func197,Tryz.ntmps197;go_upto_region 25 with fail;go_wp2_with (first
  |(refine wpList_load_row rfl 69 _ rfl _ rfl _ _ (0,0) _ ((aj.new _ _ _).alloc _) rfl rfl ah ?_)
  |(refine uT rfl 69 _ _ rfl _ rfl rfl _ _ _ ah ah ah ?_))
 refine jR rfl aI (aj.new' (g:=w.heap.size+1) _ _ aA) rfl rfl ah ?_;exact⟨rfl,by go_grown⟩
theorem abb (r:Rc) (h:aV) (w:World) (hk:r.k=2):
 Calls Tryz.prog 197 #[.agg (r.vals h)] w fun e w'=>e=.returned (.tuple #[.agg (({r with n:=0}:Rc).vals h),.bool true])/\Below w.heap.size w w':=by
 obtain⟨k,t,s,pv,cm,n,pt,rd,wr,ps,pr,st⟩:=r;change k=2 at hk;subst hk;go_enter Tryz.func197,Tryz.ntmps197;go_upto_region 25 with fail;go_wp2_with (first
  |(refine wpList_load_row rfl 69 _ rfl _ rfl _ _ (0,0) _ ((aj.new _ _ _).alloc _) rfl rfl ah ?_)
  |(refine uT rfl 69 _ _ rfl _ rfl rfl _ _ _ ah ah ah ?_))
 refine jR rfl aI (aj.new' (g:=w.heap.size+1) _ _ aA) rfl rfl ah ?_;exact⟨rfl,by go_grown⟩
theorem abd (r:Rc) (h:aV) (w:World) (hk:r.k=3):
 Calls Tryz.prog 197 #[.agg (r.vals h)] w fun e w'=>e=.returned (.tuple #[.agg (({r with t:=⟨0,0,0⟩,s:=⟨0,0,0⟩,rd:=[],wr:=[],ps:=[]}:Rc).vals {h with a:=Hd.nil,b:=Hd.nil,c:=Hd.nil}),.bool true])/\Below w.heap.size w w':=by
 obtain⟨k,t,s,pv,cm,n,pt,rd,wr,ps,pr,st⟩:=r;change k=3 at hk;subst hk;go_enter Tryz.func197,Tryz.ntmps197;go_upto_region 25 with fail;go_wp2_with (first
  |(refine wpList_load_row rfl 69 _ rfl _ rfl _ _ (0,0) _ ((aj.new _ _ _).alloc _) rfl rfl ah ?_)
  |(refine uT rfl 69 _ _ rfl _ rfl rfl _ _ _ ah ah ah ?_))
 refine jR rfl aI (aj.new' (g:=w.heap.size+1) _ _ aA) rfl rfl ah ?_;exact⟨rfl,by go_grown⟩
theorem abe (r:Rc) (h:aV) (w:World) (hk:r.k=4):
 Calls Tryz.prog 197 #[.agg (r.vals h)] w fun e w'=>e=.returned (.tuple #[.agg (({r with t:=⟨0,0,0⟩,cm:=false,s:=⟨0,0,0⟩}:Rc).vals h),.bool true])/\Below w.heap.size w w':=by
 obtain⟨k,t,s,pv,cm,n,pt,rd,wr,ps,pr,st⟩:=r;change k=4 at hk;subst hk;go_enter Tryz.func197,Tryz.ntmps197;go_upto_region 25 with fail;go_wp2_with (first
  |(refine wpList_load_row rfl 69 _ rfl _ rfl _ _ (0,0) _ ((aj.new _ _ _).alloc _) rfl rfl ah ?_)
  |(refine uT rfl 69 _ _ rfl _ rfl rfl _ _ _ ah ah ah ?_))
 refine jR rfl aI (aj.new' (g:=w.heap.size+1) _ _ aA) rfl rfl ah ?_;exact⟨rfl,by go_grown⟩
theorem abf (r:Rc) (h:aV) (w:World) (hk:r.k=5):
 Calls Tryz.prog 197 #[.agg (r.vals h)] w fun e w'=>e=.returned (.tuple #[.agg (({r with s:=⟨0,0,0⟩}:Rc).vals h),.bool true])/\Below w.heap.size w w':=by
 obtain⟨k,t,s,pv,cm,n,pt,rd,wr,ps,pr,st⟩:=r;change k=5 at hk;subst hk;go_enter Tryz.func197,Tryz.ntmps197;go_upto_region 25 with fail;go_wp2_with (first
  |(refine wpList_load_row rfl 69 _ rfl _ rfl _ _ (0,0) _ ((aj.new _ _ _).alloc _) rfl rfl ah ?_)
  |(refine uT rfl 69 _ _ rfl _ rfl rfl _ _ _ ah ah ah ?_))
 refine jR rfl aI (aj.new' (g:=w.heap.size+1) _ _ aA) rfl rfl ah ?_;exact⟨rfl,by go_grown⟩
theorem abg (r:Rc) (h:aV) (w:World) (hk:r.k=6):
 Calls Tryz.prog 197 #[.agg (r.vals h)] w fun e w'=>e=.returned (.tuple #[.agg (({r with pt:=0,n:=0,s:=⟨0,0,0⟩}:Rc).vals h),.bool true])/\Below w.heap.size w w':=by
 obtain⟨k,t,s,pv,cm,n,pt,rd,wr,ps,pr,st⟩:=r;change k=6 at hk;subst hk;go_enter Tryz.func197,Tryz.ntmps197;go_upto_region 25 with fail;go_wp2_with (first
  |(refine wpList_load_row rfl 69 _ rfl _ rfl _ _ (0,0) _ ((aj.new _ _ _).alloc _) rfl rfl ah ?_)
  |(refine uT rfl 69 _ _ rfl _ rfl rfl _ _ _ ah ah ah ?_))
 refine jR rfl aI (aj.new' (g:=w.heap.size+1) _ _ aA) rfl rfl ah ?_;exact⟨rfl,by go_grown⟩
theorem abh (r:Rc) (h:aV) (w:World) (hk:r.k=7):
 Calls Tryz.prog 197 #[.agg (r.vals h)] w fun e w'=>e=.returned (.tuple #[.agg (({r with n:=0}:Rc).vals h),.bool true])/\Below w.heap.size w w':=by
 obtain⟨k,t,s,pv,cm,n,pt,rd,wr,ps,pr,st⟩:=r;change k=7 at hk;subst hk;go_enter Tryz.func197,Tryz.ntmps197;go_upto_region 25 with fail;go_wp2_with (first
  |(refine wpList_load_row rfl 69 _ rfl _ rfl _ _ (0,0) _ ((aj.new _ _ _).alloc _) rfl rfl ah ?_)
  |(refine uT rfl 69 _ _ rfl _ rfl rfl _ _ _ ah ah ah ?_))
 refine jR rfl aI (aj.new' (g:=w.heap.size+1) _ _ aA) rfl rfl ah ?_;exact⟨rfl,by go_grown⟩
theorem abj (r:Rc) (h:aV) (w:World) (hk:r.k=8):
 Calls Tryz.prog 197 #[.agg (r.vals h)] w fun e w'=>e=.returned (.tuple #[.agg (({r with n:=0}:Rc).vals h),.bool true])/\Below w.heap.size w w':=by
 obtain⟨k,t,s,pv,cm,n,pt,rd,wr,ps,pr,st⟩:=r;change k=8 at hk;subst hk;go_enter Tryz.func197,Tryz.ntmps197;go_upto_region 25 with fail;go_wp2_with (first
  |(refine wpList_load_row rfl 69 _ rfl _ rfl _ _ (0,0) _ ((aj.new _ _ _).alloc _) rfl rfl ah ?_)
  |(refine uT rfl 69 _ _ rfl _ rfl rfl _ _ _ ah ah ah ?_))
 refine jR rfl aI (aj.new' (g:=w.heap.size+1) _ _ aA) rfl rfl ah ?_;exact⟨rfl,by go_grown⟩
theorem abk (r:Rc) (h:aV) (w:World) (hk:r.k=9):
 Calls Tryz.prog 197 #[.agg (r.vals h)] w fun e w'=>e=.returned (.tuple #[.agg (({r with t:=⟨0,0,0⟩,s:=⟨0,0,0⟩,ps:=[]}:Rc).vals {h with c:=Hd.nil}),.bool true])/\Below w.heap.size w w':=by
 obtain⟨k,t,s,pv,cm,n,pt,rd,wr,ps,pr,st⟩:=r;change k=9 at hk;subst hk;go_enter Tryz.func197,Tryz.ntmps197;go_upto_region 25 with fail;go_wp2_with (first
  |(refine wpList_load_row rfl 69 _ rfl _ rfl _ _ (0,0) _ ((aj.new _ _ _).alloc _) rfl rfl ah ?_)
  |(refine uT rfl 69 _ _ rfl _ rfl rfl _ _ _ ah ah ah ?_))
 refine jR rfl aI (aj.new' (g:=w.heap.size+1) _ _ aA) rfl rfl ah ?_;exact⟨rfl,by go_grown⟩
theorem abl (r:Rc) (h:aV) (w:World) (hk:r.k=10):
 Calls Tryz.prog 197 #[.agg (r.vals h)] w fun e w'=>e=.returned (.tuple #[.agg (({r with t:=⟨0,0,0⟩}:Rc).vals h),.bool true])/\Below w.heap.size w w':=by
 obtain⟨k,t,s,pv,cm,n,pt,rd,wr,ps,pr,st⟩:=r;change k=10 at hk;subst hk;go_enter Tryz.func197,Tryz.ntmps197;go_upto_region 25 with fail;go_wp2_with (first
  |(refine wpList_load_row rfl 69 _ rfl _ rfl _ _ (0,0) _ ((aj.new _ _ _).alloc _) rfl rfl ah ?_)
  |(refine uT rfl 69 _ _ rfl _ rfl rfl _ _ _ ah ah ah ?_))
 refine jR rfl aI (aj.new' (g:=w.heap.size+1) _ _ aA) rfl rfl ah ?_;exact⟨rfl,by go_grown⟩
theorem abm (r:Rc) (h:aV) (w:World) (hk:r.k=11):
 Calls Tryz.prog 197 #[.agg (r.vals h)] w fun e w'=>e=.returned (.tuple #[.agg (({r with pv:=⟨0,0,0⟩,s:=⟨0,0,0⟩,t:=⟨0,0,0⟩,wr:=[]}:Rc).vals {h with b:=Hd.nil}),.bool true])/\Below w.heap.size w w':=by
 obtain⟨k,t,s,pv,cm,n,pt,rd,wr,ps,pr,st⟩:=r;change k=11 at hk;subst hk;go_enter Tryz.func197,Tryz.ntmps197;go_upto_region 25 with fail;go_wp2_with (first
  |(refine wpList_load_row rfl 69 _ rfl _ rfl _ _ (0,0) _ ((aj.new _ _ _).alloc _) rfl rfl ah ?_)
  |(refine uT rfl 69 _ _ rfl _ rfl rfl _ _ _ ah ah ah ?_))
 refine jR rfl aI (aj.new' (g:=w.heap.size+1) _ _ aA) rfl rfl ah ?_;exact⟨rfl,by go_grown⟩
theorem abn (r:Rc) (h:aV) (w:World) (hk:r.k=12):
 Calls Tryz.prog 197 #[.agg (r.vals h)] w fun e w'=>e=.returned (.tuple #[.agg (({r with s:=⟨0,0,0⟩,pr:=[]}:Rc).vals {h with d:=Hd.nil}),.bool true])/\Below w.heap.size w w':=by
 obtain⟨k,t,s,pv,cm,n,pt,rd,wr,ps,pr,st⟩:=r;change k=12 at hk;subst hk;go_enter Tryz.func197,Tryz.ntmps197;go_upto_region 25 with fail;go_wp2_with (first
  |(refine wpList_load_row rfl 69 _ rfl _ rfl _ _ (0,0) _ ((aj.new _ _ _).alloc _) rfl rfl ah ?_)
  |(refine uT rfl 69 _ _ rfl _ rfl rfl _ _ _ ah ah ah ?_))
 refine jR rfl aI (aj.new' (g:=w.heap.size+1) _ _ aA) rfl rfl ah ?_;exact⟨rfl,by go_grown⟩
theorem abo (r:Rc) (h:aV) (w:World) (hk:gy r.k=false):
 Calls Tryz.prog 197 #[.agg (r.vals h)] w fun e w'=>e=.returned (.tuple #[.agg (r.vals h),.bool false])/\Below w.heap.size w w':=by
 obtain⟨k,t,s,pv,cm,n,pt,rd,wr,ps,pr,st⟩:=r;change gy k=false at hk;unfold gy at hk;rw[decide_eq_false_iff_not]at hk;have e1:(k==1)=false:=ay;have e2:(k==2)=false:=ay;have e3:(k==3)=false:=ay;have e4:(k==4)=false:=ay;have e5:(k==5)=false:=ay;have e6:(k==6)=false:=ay;have e7:(k==7)=false:=ay;have e8:(k==8)=false:=ay;have e9:(k==9)=false:=ay;have e10:(k==10)=false:=ay;have e11:(k==11)=false:=ay;have e12:(k==12)=false:=ay;clear hk;go_enter Tryz.func197,Tryz.ntmps197;go_upto_region 2 with fail;go_wp2_with (first
  |(refine wpList_load_row rfl 69 _ rfl _ rfl _ _ (0,0) _ ((aj.new _ _ _).alloc _) rfl rfl ah ?_)
  |(refine uT rfl 69 _ _ rfl _ rfl rfl _ _ _ ah ah ah ?_))
 refine jR rfl aI (aj.new' (g:=w.heap.size+1) _ _ aA) rfl rfl ah ?_;exact⟨rfl,by go_grown⟩
theorem abp (r:Rc) (h:aV) (w:World):
 Calls Tryz.prog 197 #[.agg (r.vals h)] w fun e w'=>e=.returned (.tuple #[.agg ((wipe r).vals (gZ r.k h)),.bool (gy r.k)])/\Below w.heap.size w w':=by
 cases hk:gy r.k
 · have hk':=hk;unfold gy at hk';rw[decide_eq_false_iff_not]at hk';have e1:wipe r=r:=(by unfold wipe;repeat (rw[if_neg byOmega]));have e2:gZ r.k h=h:=(by unfold gZ;repeat (rw[if_neg byOmega]));rw[e1,e2];exact abo r h w hk
 · unfold gy at hk;rw[decide_eq_true_eq]at hk;have hc:r.k=1∨r.k=2∨r.k=3∨r.k=4∨r.k=5∨r.k=6∨r.k=7∨r.k=8∨r.k=9∨r.k=10∨r.k=11∨r.k=12:=byOmega;rcases hc with e|e|e|e|e|e|e|e|e|e|e|e
   · have e1:wipe r={r with st:=zeroS}:=(by unfold wipe;simp[e]);have e2:gZ r.k h={h with e:=Hd.nil,f:=Hd.nil}:=(by unfold gZ;simp[e]);rw[e1,e2];exact aa' r h w e
   · have e1:wipe r={r with n:=0}:=(by unfold wipe;simp[e]);have e2:gZ r.k h=h:=(by unfold gZ;simp[e]);rw[e1,e2];exact abb r h w e
   · have e1:wipe r={r with t:=⟨0,0,0⟩,s:=⟨0,0,0⟩,rd:=[],wr:=[],ps:=[]}:=(by unfold wipe;simp[e]);have e2:gZ r.k h={h with a:=Hd.nil,b:=Hd.nil,c:=Hd.nil}:=(by unfold gZ;simp[e]);rw[e1,e2];exact abd r h w e
   · have e1:wipe r={r with t:=⟨0,0,0⟩,cm:=false,s:=⟨0,0,0⟩}:=(by unfold wipe;simp[e]);have e2:gZ r.k h=h:=(by unfold gZ;simp[e]);rw[e1,e2];exact abe r h w e
   · have e1:wipe r={r with s:=⟨0,0,0⟩}:=(by unfold wipe;simp[e]);have e2:gZ r.k h=h:=(by unfold gZ;simp[e]);rw[e1,e2];exact abf r h w e
   · have e1:wipe r={r with pt:=0,n:=0,s:=⟨0,0,0⟩}:=(by unfold wipe;simp[e]);have e2:gZ r.k h=h:=(by unfold gZ;simp[e]);rw[e1,e2];exact abg r h w e
   · have e1:wipe r={r with n:=0}:=(by unfold wipe;simp[e]);have e2:gZ r.k h=h:=(by unfold gZ;simp[e]);rw[e1,e2];exact abh r h w e
   · have e1:wipe r={r with n:=0}:=(by unfold wipe;simp[e]);have e2:gZ r.k h=h:=(by unfold gZ;simp[e]);rw[e1,e2];exact abj r h w e
   · have e1:wipe r={r with t:=⟨0,0,0⟩,s:=⟨0,0,0⟩,ps:=[]}:=(by unfold wipe;simp[e]);have e2:gZ r.k h={h with c:=Hd.nil}:=(by unfold gZ;simp[e]);rw[e1,e2];exact abk r h w e
   · have e1:wipe r={r with t:=⟨0,0,0⟩}:=(by unfold wipe;simp[e]);have e2:gZ r.k h=h:=(by unfold gZ;simp[e]);rw[e1,e2];exact abl r h w e
   · have e1:wipe r={r with pv:=⟨0,0,0⟩,s:=⟨0,0,0⟩,t:=⟨0,0,0⟩,wr:=[]}:=(by unfold wipe;simp[e]);have e2:gZ r.k h={h with b:=Hd.nil}:=(by unfold gZ;simp[e]);rw[e1,e2];exact abm r h w e
   · have e1:wipe r={r with s:=⟨0,0,0⟩,pr:=[]}:=(by unfold wipe;simp[e]);have e2:gZ r.k h={h with d:=Hd.nil}:=(by unfold gZ;simp[e]);rw[e1,e2];exact abn r h w e
def sO (key:ByteArray) (l:List Hs):List Vn:=match l.find? fun h=>h.key.toList==key.toList with|some h=>h.vs|none=>[]
theorem abq (key:ByteArray):∀(l:List Hs) (k:Nat),(oH key k l<0/\(l.find? fun h=>h.key.toList==key.toList)=none)∨∃(i:Nat) (h:Hs),oH key k l=((k+i:Nat):Int)/\l[i]?=some h/\(l.find? fun h=>h.key.toList==key.toList)=some h:=by
 intro l
 induction l with
 |nil=>intro k;exact .inl ⟨by show (-1:Int)<0;omega,rfl⟩
 |cons a l ih=>
  intro k;by_cases he:(a.key.toList==key.toList)=true
  · refine .inr ⟨0,a,?_,rfl,?_⟩
    · show (if a.key.toList==key.toList then (k:Int) else _)=_;rw[if_pos he];simp
    · rw[List.find?_cons,he]
  · have e1:oH key k (a::l)=oH key (k+1) l:=(by show (if a.key.toList==key.toList then (k:Int) else _)=_;rw[if_neg he]);have e2:(a.key.toList==key.toList)=false:=(by simpa using he);rw[e1,List.find?_cons,e2];rcases ih (k+1) with ⟨h1,h2⟩|⟨i,h,h1,h2,h3⟩
    · exact .inl ⟨h1,h2⟩
    · exact .inr ⟨i+1,h,by rw[h1];omega,h2,h3⟩
theorem Sz (key:ByteArray) (l:List Hs):(oH key 0 l<0/\sO key l=[])∨∃(i:Nat) (h:Hs),oH key 0 l=(i:Int)/\l[i]?=some h/\sO key l=h.vs:=by
 unfold sO;rcases abq key l 0 with ⟨h1,h2⟩|⟨i,h,h1,h2,h3⟩
 · exact .inl ⟨h1,by rw[h2]⟩
 · exact .inr ⟨i,h,by rw[h1];omega,h2,by rw[h3]⟩
theorem abr (g:Nat) (B1 B2:Option Addr) (m1 d1 m2 d2:Nat) (L:Sp) (Hl:List Hs) (Pl:List Pn) (key:ByteArray) (s:Sp) (w:World) (h:ny w g B1 m1 d1 B2 m2 d2 L Hl Pl):
 Calls Tryz.prog 233 #[.pointer (some ⟨g,0,none⟩),.string key,s.val,.bool true] w fun e w'=>e=.returned (.agg (jq key (pY (sO key Hl))))/\Below w.heap.size w w':=by
 have hm:=h.m1;unfold maxLen at hm;have hl:=h.hs.1;have hX:Below w.heap.size w (((w.alloc (.cells s.arr 26)).alloc (.cells (jq ⟨#[]⟩ mW) 104)).alloc (.cells (jq key mW) 104)):=aJ;have i8:aj (((w.alloc (.cells s.arr 26)).alloc (.cells (jq ⟨#[]⟩ mW) 104)).alloc (.cells (jq key mW) 104)) (w.heap.size+1) 104 (jq ⟨#[]⟩ mW):=(aj.new' _ _ aA).alloc _;have i9:aj (((w.alloc (.cells s.arr 26)).alloc (.cells (jq ⟨#[]⟩ mW) 104)).alloc (.cells (jq key mW) 104)) (w.heap.size+1+1) 104 (jq key mW):=aj.new' _ _ aA;have hA:=Sv g B1 B2 m1 d1 m2 d2 L Hl Pl key _ (h.below hX);rcases Sz key Hl with ⟨hneg,hv⟩|⟨i,hh,hat,hi,hv⟩
 · have HV:=au hv;clear hv hl;generalize oH key 0 Hl=z at*;have hz:decide (z<0)=true:=ay;go_enter Tryz.func233,Tryz.ntmps233;go_wp2_with (go_at_call 214;fail);refine hA.mono ?_;rintro e w1 ⟨rfl,hb1⟩;have b8:=i8.below hb1 i8.lt;have b9:=i9.below hb1 i9.lt;have hb:=hX.trans (hb1.mono hX.size);obtain⟨g9,x0,x1,x2,x3,x4,x5,x6⟩:=b9.Dx;have l8:=b8.lt;go_wp2_with (refine wpList_store_row rfl 104 _ _ rfl _ _ rfl rfl _ _ b8 ah ah ah ?_);refine gJ rfl aI (b8.setRow _) rfl rfl ah ?_;rw[HV.out];exact⟨rfl,below_setRow hb byOmega _⟩
 · have HV:=au hv;have hilt:i<m1:=(by have:=(List.getElem?_eq_some_iff.1 hi).1;omega);rw[hat]at hA;have HI:=au hi;have hz:decide ((i:Int)<0)=false:=aA;have hi0:(0:Int)<=(i:Int):=byOmega;have hi1:(i:Int)<(m1:Int):=byOmega;clear hv hl hat hi;go_enter Tryz.func233,Tryz.ntmps233;go_wp2_with (go_at_call 214;fail);refine hA.mono ?_;rintro e w1 ⟨rfl,hb1⟩;have b8:=i8.below hb1 i8.lt;have b9:=i9.below hb1 i9.lt;have hb0:=hX.trans (hb1.mono hX.size);clear hb1 i8 i9 hX hA;go_wp2
   go_loopw [11] (fun j wr=>Qc key hh.vs w j wr) (fun j _=>hh.vs.length-(intOf j).toNat)
   case atStart=>exact⟨0,byOmega,rfl,b8,b9,hb0⟩
   case round=>
    clear b8 b9 hb0;obtain⟨k,hk',rfl,b8,b9,hb⟩:=hrel;have hzz:=hb.size;have hr:=h.below hb;obtain⟨gl,k0,k1',-,-,-⟩:=hr.blk.zV;obtain⟨ad,a1,A',n',c',rfl,ha1,hbk,hok,d0,d1',hn',hc',hsv⟩:=hr.hist.hs hilt;obtain rfl:hh=a1:=Option.some.inj (HI.out.symm.trans ha1);have hll:=hsv.1;have hge:n'<=hh.vs.length:=byOmega;have hle:hh.vs.length<=n':=byOmega;unfold maxLen at hc';clear hll ha1;by_cases hlt:k<n'
    · obtain⟨bd,a,rfl,ha,hbk2,hok2,c0,c1,c2,c3,c4,c5⟩:=hsv.vn hlt;have hd1:decide ((k:Int)<(n':Int))=true:=ay;have hk0:(0:Int)<=(k:Int):=byOmega;have hk1:(k:Int)<(n':Int):=byOmega;have HS:=au (Qb ha);have b11:=aj.new wr 160 #[.int .i64 a.s.w,.int .i64 a.s.l,.int .i64 a.s.n,.int .i64 a.v.k,.float .f64 a.v.n,.string a.v.t];have uJ:=b9.alloc (.cells #[.int .i64 a.s.w,.int .i64 a.s.l,.int .i64 a.s.n,.int .i64 a.v.k,.float .f64 a.v.n,.string a.v.t] 160);have KH:=b8.alloc (.cells #[.int .i64 a.s.w,.int .i64 a.s.l,.int .i64 a.s.n,.int .i64 a.v.k,.float .f64 a.v.n,.string a.v.t] 160);have hb':=hb.alloc hzz (.cells #[.int .i64 a.s.w,.int .i64 a.s.l,.int .i64 a.s.n,.int .i64 a.v.k,.float .f64 a.v.n,.string a.v.t] 160);clear ha;go_wp2;generalize Qd:wr.heap.size=g11 at*;generalize (wr.alloc (.cells #[.int .i64 a.s.w,.int .i64 a.s.l,.int .i64 a.s.n,.int .i64 a.v.k,.float .f64 a.v.n,.string a.v.t] 160))=wz at*;obtain⟨nO,x0,x1,x2,x3,x4,x5⟩:=b11.six;obtain⟨g9,y0,y1,y2,y3,y4,y5,y6⟩:=uJ.Dx;have AZ:g11≠w.heap.size+1+1:=(by have:=b9.lt;omega);have YI:¬w.heap.size+1+1=g11:=fun e=>AZ e.symm
      clear c0 c1 c2 c3 c4 c5;refine wp_region_held_drew (S:=fun w'=>aj w' g11 160 #[.int .i64 a.s.w,.int .i64 a.s.l,.int .i64 a.s.n,.int .i64 a.v.k,.float .f64 a.v.n,.string a.v.t]) ah b11 (fun hHeld=>?_);refine wpAnyH_take (i:=0) (oi:=⟨some 53,_,_,_,_,_⟩) (v:=.pointer (some ⟨g11,3,none⟩)) rfl ah ah ah (fun _ _ _ h=>h) (Or.inl ⟨ah,fun w hSw=>by clear hSw;go_simp⟩) hHeld ?_;go_frame;refine wpAnyH_take (i:=1) (oi:=⟨some 54,_,_,_,_,_⟩) rfl ah ah ah (fun _ _ _ h=>h) (yieldsIf_load_mid ah _ _ rfl g11 3 rfl [.int .i64 a.v.k,.float .f64 a.v.n,.string a.v.t] _ (fun w h=>h.range 3 _ (wK rfl rfl rfl)) rfl rfl ah) hHeld ?_;go_frame;refine wpAnyH_take (i:=2) (oi:=⟨some 55,_,_,_,_,_⟩) (v:=.pointer (some ⟨g11,0,none⟩)) rfl ah ah ah (fun _ _ _ h=>h) (Or.inl ⟨ah,fun w hSw=>by clear hSw;go_simp⟩) hHeld ?_;go_frame;refine wpAnyH_take (i:=3) (oi:=⟨some 56,_,_,_,_,_⟩) rfl ah ah ah (fun _ _ _ h=>h) (yieldsIf_load_mid ah _ _ rfl g11 0 rfl [.int .i64 a.s.w,.int .i64 a.s.l,.int .i64 a.s.n] _ (fun w h=>h.range 0 _ (wK rfl rfl rfl)) rfl rfl ah) hHeld ?_;go_frame;refine wpAnyH_take (i:=4) (oi:=⟨some 57,_,_,_,_,_⟩) (v:=.pointer (some ⟨w.heap.size+1+1,1,none⟩)) rfl ah ah ah (fun _ _ _ h=>h) (Or.inl ⟨ah,fun w hSw=>by clear hSw;go_simp⟩) hHeld ?_;go_frame;have EZ:=uJ.drew.P9 (x:=.int .i64 a.v.k) (y:=.float .f64 a.v.n) (z:=.string a.v.t);have Ba:=b11.drew.zW (o:=1) (x:=.int .i64 a.v.k) (y:=.float .f64 a.v.n) (z:=.string a.v.t) AZ;have KI:=KH.drew.zW (b:=w.heap.size+1+1) (o:=1) (x:=.int .i64 a.v.k) (y:=.float .f64 a.v.n) (z:=.string a.v.t) byOmega;have hba:=Ih (b:=w.heap.size+1+1) (o:=1) (x:=.int .i64 a.v.k) (y:=.float .f64 a.v.n) (z:=.string a.v.t) hb'.drew byOmega;refine Ig (i:=5) ah rfl rfl _ _ _ rfl (w.heap.size+1+1) 1 #[.int .i64 a.v.k,.float .f64 a.v.n,.string a.v.t] rfl rfl (uJ.drew.there 1 3 aA) ah ah Ba ?_;go_frame;generalize (wz.drew.setCells (w.heap.size+1+1) 1 [.int .i64 a.v.k,.float .f64 a.v.n,.string a.v.t])=wq at*;refine wpAnyH_take (i:=6) (oi:=⟨some 58,_,_,_,_,_⟩) (v:=.pointer (some ⟨w.heap.size+1+1,4,none⟩)) rfl ah ah ah (fun _ _ _ h=>h) (Or.inl ⟨ah,fun w hSw=>by clear hSw;go_simp⟩) Ba ?_;go_frame;have KJ:=EZ.Qa (x:=.int .i64 a.s.w) (y:=.int .i64 a.s.l) (z:=.int .i64 a.s.n);have KL:=Ba.zW (b:=w.heap.size+1+1) (o:=4) (x:=.int .i64 a.s.w) (y:=.int .i64 a.s.l) (z:=.int .i64 a.s.n) AZ;have KN:=KI.zW (b:=w.heap.size+1+1) (o:=4) (x:=.int .i64 a.s.w) (y:=.int .i64 a.s.l) (z:=.int .i64 a.s.n) byOmega;have hbc:=Ih (b:=w.heap.size+1+1) (o:=4) (x:=.int .i64 a.s.w) (y:=.int .i64 a.s.l) (z:=.int .i64 a.s.n) hba byOmega;refine Ig (i:=7) ah rfl rfl _ _ _ rfl (w.heap.size+1+1) 4 #[.int .i64 a.s.w,.int .i64 a.s.l,.int .i64 a.s.n] rfl rfl (EZ.there 4 3 aA) ah ah KL ?_;generalize (wq.setCells (w.heap.size+1+1) 4 [.int .i64 a.s.w,.int .i64 a.s.l,.int .i64 a.s.n])=wp at*;refine td ?_;go_frame;go_wp2;go_roundw
      case rel=>
       refine⟨k+1,byOmega,by go_num,KN,?_,hbc⟩;rw[HS.out];exact KJ
      case measure=>simp[intOf];omega
    · have hd1:decide ((k:Int)<(n':Int))=false:=ay;rw[List.take_of_length_le byOmega]at b9;obtain⟨g9,x0,x1,x2,x3,x4,x5,x6⟩:=b9.Dx;have l8:=b8.lt;go_wp2_with (refine wpList_store_row rfl 104 _ _ rfl _ _ rfl rfl _ _ b8 ah ah ah ?_);refine gJ rfl aI (b8.setRow _) rfl rfl ah ?_;rw[HV.out];exact⟨rfl,below_setRow hb byOmega _⟩
theorem abt (g:Nat) (B1 B2:Option Addr) (m1 d1 m2 d2:Nat) (L:Sp) (Hl:List Hs) (Pl:List Pn) (key:ByteArray) (w:World) (h:ny w g B1 m1 d1 B2 m2 d2 L Hl Pl):
 Calls Tryz.prog 213 #[.pointer (some ⟨g,0,none⟩),.string key] w fun e w'=>e=.returned (.agg (jq key (pY (sO key Hl))))/\Below w.heap.size w w':=by
 have hX:Below w.heap.size w (w.alloc (.cells (jq ⟨#[]⟩ mW) 104)):=aJ;have i4:=aj.new w 104 (jq ⟨#[]⟩ mW);have hN:=abr g B1 B2 m1 d1 m2 d2 L Hl Pl key ⟨0,0,0⟩ _ (h.below hX);go_enter Tryz.func213,Tryz.ntmps213;go_wp2_with (go_at_call 233;fail);refine hN.mono ?_;rintro e w1 ⟨rfl,hb⟩;have j4:=i4.below hb i4.lt;go_wp2_with (refine wpList_store_row rfl 104 _ _ rfl _ _ rfl rfl _ _ j4 ah ah ah ?_);refine gJ rfl aI (j4.setRow _) rfl rfl ah ?_;exact⟨rfl,below_setRow (hX.trans (hb.mono hX.size)) byOmega _⟩
set_option maxHeartbeats 4000000
theorem abu (A:Option Addr) (n c:Nat) (w:World):Calls Tryz.prog 79 #[.slice A n c,.slice none 0 0] w fun e w'=>e=.returned (.bool ((n:Int)==0))/\w=w':=by
 by_cases hn:n=0
 · subst hn;go_enter Tryz.func79,Tryz.ntmps79;go_wp2
   go_loopw [5] (fun i wr=>i=.int .i64 0/\w=wr) (fun _ _=>0)
   case atStart=>exact⟨rfl,rfl⟩
   case round=>
    obtain⟨rfl,rfl⟩:=hrel;go_wp2;go_ret;exact⟨rfl,rfl⟩
 · have hb0:((n:Int) !=(0:Int))=true:=ay;have hb1:((n:Int)==(0:Int))=false:=ay;rw[hb1];go_enter Tryz.func79,Tryz.ntmps79;go_wp2;go_ret;exact⟨rfl,rfl⟩
theorem abv (A:Option Addr) (n c:Nat) (w:World):Calls Tryz.prog 80 #[.slice A n c,.slice none 0 0] w fun e w'=>e=.returned (.bool ((n:Int)==0))/\w=w':=by
 by_cases hn:n=0
 · subst hn;go_enter Tryz.func80,Tryz.ntmps80;go_wp2
   go_loopw [5] (fun i wr=>i=.int .i64 0/\w=wr) (fun _ _=>0)
   case atStart=>exact⟨rfl,rfl⟩
   case round=>
    obtain⟨rfl,rfl⟩:=hrel;go_wp2;go_ret;exact⟨rfl,rfl⟩
 · have hb0:((n:Int) !=(0:Int))=true:=ay;have hb1:((n:Int)==(0:Int))=false:=ay;rw[hb1];go_enter Tryz.func80,Tryz.ntmps80;go_wp2;go_ret;exact⟨rfl,rfl⟩
theorem SA (s:dP) (A1 A2:Option Addr) (n1 n2 c1 c2:Nat) (w:World) (h1:s.h.length=n1) (h2:s.p.length=n2):
 Calls Tryz.prog 40 #[.agg (s.arr (.slice A1 n1 c1) (.slice A2 n2 c2)),.agg (zeroCells)] w fun e w'=>e=.returned (.bool s.eH)/\Below w.heap.size w w':=by
 have hR:=fun w=>range_any s.r ⟨0,0,0,0⟩ w
 have z1:=fun w=>fQ s.f w
 have z2:=fun w=>fQ s.c w
 have hH:=fun w=>abu A1 n1 c1 w
 have hP:=fun w=>abv A2 n2 c2 w
 have HZ:=au (show s.eH=(s.r.same ⟨0,0,0,0⟩&&s.f.zero&&s.c.zero&&((n1:Int)==0)&&((n2:Int)==0)) by unfold dP.eH;rw[h1,h2];rfl);clear h1 h2;have hX:Below w.heap.size w ((w.alloc (.cells (s.arr (.slice A1 n1 c1) (.slice A2 n2 c2)) 39)).alloc (.cells (zeroCells) 39)):=aJ;have i2:aj ((w.alloc (.cells (s.arr (.slice A1 n1 c1) (.slice A2 n2 c2)) 39)).alloc (.cells (zeroCells) 39)) w.heap.size 39 (s.arr (.slice A1 n1 c1) (.slice A2 n2 c2)):=(aj.new _ _ _).alloc _;have i3:aj ((w.alloc (.cells (s.arr (.slice A1 n1 c1) (.slice A2 n2 c2)) 39)).alloc (.cells (zeroCells) 39)) (w.heap.size+1) 39 (zeroCells):=aj.new' _ _ aA;generalize s.r.same ⟨0,0,0,0⟩=b0 at*;generalize s.f.zero=b1 at*;generalize s.c.zero=b2 at*;go_enter Tryz.func40,Tryz.ntmps40;go_wp2_with (first
  |((with_reducible refine(hR _).mono ?_);rintro e w3 ⟨rfl,hb3⟩
    have j2:=i2.below hb3 i2.lt;have j3:=i3.below hb3 i3.lt;have hY:=hX.trans (hb3.mono hX.size);obtain⟨l2,x0,x1,x2,x3,x4,x5,x6,x7,x8,x9,x10,x11⟩:=xK j2;obtain⟨l3,y0,y1,y2,y3,y4,y5,y6,y7,y8,y9,rE,rF⟩:=xK j3)
  |((with_reducible refine(hH _).mono ?_);rintro e w4 ⟨rfl,rfl⟩)
  |((with_reducible refine(hP _).mono ?_);rintro e w5 ⟨rfl,rfl⟩))
 all_goals go_ret
 all_goals refine⟨aZ ?_,hY⟩
 all_goals rw[HZ.out]
 all_goals simp_all
theorem Af (a t:Sp) (w:World):(Op.equalIn 10000 26 (.agg #[.int .i64 a.w,.int .i64 a.l,.int .i64 a.n]) (.agg #[.int .i64 t.w,.int .i64 t.l,.int .i64 t.n])).run Tryz.prog w=.ok (decide (a=t)) w:=by
 have e:decide (a=t)=((a.w==t.w)&&(a.l==t.l)&&(a.n==t.n)):=by
  obtain⟨a1,a2,a3⟩:=a;obtain⟨b1,b2,b3⟩:=t;rw[Bool.eq_iff_iff];simp[and_assoc]
 rw[e];cases h1:(a.w==t.w)<;>cases h2:(a.l==t.l)<;>cases h3:(a.n==t.n)
 all_goals simp[go_sem,h1,h2,h3]
def vT (a b:Rc) (sb:Bool):Bool:=(a.k==b.k)&&decide (a.t=b.t)&&decide (a.s=b.s)&&decide (a.pv=b.pv)&&(a.cm==b.cm)&&(a.n==b.n)&&((a.pt:Int)==b.pt)&&
 aT (fun x y=>x.toList==y.toList) a.rd b.rd&&aT Wt.same a.wr b.wr&&aT (fun x y=>x==y) a.ps b.ps&&aT Wt.same a.pr b.pr&&sb
set_option maxRecDepth 100000 in
set_option maxHeartbeats 8000000 in
theorem MQ (a b:Rc) (h g:aV) (sb:Bool) (w:World) (i:dO w a h) (j:dO w b g)
 (hS:∀w',Below w.heap.size w w'->Calls Tryz.prog 40 #[.agg (a.st.arr (.slice h.e.A h.e.n h.e.c) (.slice h.f.A h.f.n h.f.c)),.agg (b.st.arr (.slice g.e.A g.e.n g.e.c) (.slice g.f.A g.f.n g.f.c))] w' fun e w''=>e=.returned (.bool sb)/\Below w'.heap.size w' w''):
 Calls Tryz.prog 78 #[.agg (a.vals h),.agg (b.vals g)] w fun e w'=>e=.returned (.bool (vT a b sb))/\Below w.heap.size w w':=by
 have z0:=fun w=>DY a.t b.t w
 have z1:=fun w=>Af a.s b.s w
 have z2:=fun w=>Af a.pv b.pv w
 have hB:=fun w=>AV a.pt b.pt w
 have hT:=fun w' (hb:Below w.heap.size w w')=>H7 h.a.A g.a.A h.a.n g.a.n h.a.c g.a.c a.rd b.rd w' (i.below hb).rd (j.below hb).rd i.na j.na
 have hW:=fun w' (hb:Below w.heap.size w w')=>H8 h.b.A g.b.A h.b.n g.b.n h.b.c g.b.c a.wr b.wr w' (i.below hb).wr (j.below hb).wr i.nb j.nb
 have hN:=fun w' (hb:Below w.heap.size w w')=>QI h.c.A g.c.A h.c.n g.c.n h.c.c g.c.c a.ps b.ps w' (i.below hb).ps (j.below hb).ps i.nc j.nc
 have hP:=fun w' (hb:Below w.heap.size w w')=>ZM h.d.A g.d.A h.d.n g.d.n h.d.c g.d.c a.pr b.pr w' (i.below hb).pr (j.below hb).pr i.nd j.nd
 have HZ:=au (show vT a b sb=((a.k==b.k)&&decide (a.t=b.t)&&decide (a.s=b.s)&&decide (a.pv=b.pv)&&(a.cm==b.cm)&&(a.n==b.n)&&((a.pt:Int)==b.pt)&&
  aT (fun x y=>x.toList==y.toList) a.rd b.rd&&aT Wt.same a.wr b.wr&&aT (fun x y=>x==y) a.ps b.ps&&aT Wt.same a.pr b.pr&&sb) from rfl)
 clear i j;have hX:Below w.heap.size w ((w.alloc (.cells (a.vals h) 69)).alloc (.cells (b.vals g) 69)):=aJ;have B0:aj ((w.alloc (.cells (a.vals h) 69)).alloc (.cells (b.vals g) 69)) w.heap.size 69 (a.vals h):=(aj.new _ _ _).alloc _;have B1:aj ((w.alloc (.cells (a.vals h) 69)).alloc (.cells (b.vals g) 69)) (w.heap.size+1) 69 (b.vals g):=aj.new' _ _ aA;generalize decide (a.t=b.t)=b0 at*;generalize decide (a.s=b.s)=b1 at*;generalize decide (a.pv=b.pv)=b2 at*;generalize aT (fun x y=>x.toList==y.toList) a.rd b.rd=b3 at*;generalize aT Wt.same a.wr b.wr=b4 at*;generalize aT (fun x y=>x==y) a.ps b.ps=b5 at*;generalize aT Wt.same a.pr b.pr=b6 at*;go_enter Tryz.func78,Tryz.ntmps78;go_wp2_with (first
  |((with_reducible refine(hB _).mono ?_);rintro e w0 ⟨rfl,rfl⟩)
  |((with_reducible refine(hT _ hX).mono ?_);rintro e w1 ⟨rfl,hb1⟩
    have qJ:=hX.trans (hb1.mono hX.size);have C1:=B0.below hb1 B0.lt;have lC1:=C1.lt;have abw:=C1.cell 14;have D1:=B1.below hb1 B1.lt;have lD1:=D1.lt;have abx:=D1.cell 14;simp only[List.getElem?_toArray,List.getElem?_cons_succ,getZero]at abw abx)
  |((with_reducible refine(hW _ qJ).mono ?_);rintro e w2 ⟨rfl,hb2⟩
    have hY2:=qJ.trans (hb2.mono qJ.size);have C2:=C1.below hb2 C1.lt;have lC2:=C2.lt;have aby:=C2.cell 15;have D2:=D1.below hb2 D1.lt;have lD2:=D2.lt;have abz:=D2.cell 15;simp only[List.getElem?_toArray,List.getElem?_cons_succ,getZero]at aby abz)
  |((with_reducible refine(hN _ hY2).mono ?_);rintro e w3 ⟨rfl,hb3⟩
    have II:=hY2.trans (hb3.mono hY2.size);have C3:=C2.below hb3 C2.lt;have lC3:=C3.lt;have abA:=C3.cell 16;have D3:=D2.below hb3 D2.lt;have lD3:=D3.lt;have abB:=D3.cell 16;simp only[List.getElem?_toArray,List.getElem?_cons_succ,getZero]at abA abB)
  |((with_reducible refine(hP _ II).mono ?_);rintro e w4 ⟨rfl,hb4⟩
    have IJ:=II.trans (hb4.mono II.size);have C4:=C3.below hb4 C3.lt;have lC4:=C4.lt;have abC:=C4.cell 17;have abD:=C4.cell 18;have abE:=C4.cell 19;have abG:=C4.cell 20;have abH:=C4.cell 21;have abI:=C4.cell 22;have abJ:=C4.cell 23;have abK:=C4.cell 24;have abL:=C4.cell 25;have abM:=C4.cell 26;have abN:=C4.cell 27;have abO:=C4.cell 28;have D4:=D3.below hb4 D3.lt;have lD4:=D4.lt;have abP:=D4.cell 17;have abQ:=D4.cell 18;have abR:=D4.cell 19;have abS:=D4.cell 20;have abT:=D4.cell 21;have abU:=D4.cell 22;have abV:=D4.cell 23;have abW:=D4.cell 24;have abX:=D4.cell 25;have abY:=D4.cell 26;have abZ:=D4.cell 27;have ab2:=D4.cell 28;simp only[List.getElem?_toArray,List.getElem?_cons_succ,getZero]at abC abD abE abG abH abI abJ abK abL abM abN abO abP abQ abR abS abT abU abV abW abX abY abZ ab2)
  |((with_reducible refine(hS _ IJ).mono ?_);rintro e w5 ⟨rfl,hb5⟩))
 all_goals go_ret
 all_goals refine⟨aZ ?_,by first|exact IJ.trans (hb5.mono IJ.size)|exact IJ|exact II|exact hY2|exact qJ|exact hX⟩
 all_goals rw[HZ.out]
 all_goals simp_all
set_option maxHeartbeats 8000000
def Vn.same (a b:Vn):Bool:=decide (a.s=b.s)&&a.v.same b.v
def Hs.same (a b:Hs):Bool:=(a.key.toList==b.key.toList)&&decide (a.vs.length=b.vs.length)&&aT Vn.same a.vs b.vs
def Pn.same (p q:Pn):Bool:=decide (p.t=q.t)&&decide (p.s=q.s)&&aT (fun a b:ByteArray=>a.toList==b.toList) p.r q.r&&aT Wt.same p.w q.w
def dP.same (a b:dP):Bool:=a.r.same b.r&&decide (a.f=b.f)&&decide (a.c=b.c)&&aT Hs.same a.h b.h&&aT Pn.same a.p b.p
theorem Vn.same_eq {a b:Vn} (h:a.same b=true):a=b:=by
 unfold Vn.same at h;simp only[Bool.and_eq_true,decide_eq_true_eq]at h;obtain⟨s,v⟩:=a;obtain⟨s',v'⟩:=b;have h2:=Vl.same_eq h.2;simp only at h h2;rw[h.1,h2]
theorem Hs.same_eq {a b:Hs} (h:a.same b=true):a=b:=by
 unfold Hs.same at h;simp only[Bool.and_eq_true,beq_iff_eq]at h;obtain⟨k,v⟩:=a;obtain⟨k',v'⟩:=b;have h2:=rW (fun _ _=>Vn.same_eq) _ _ h.2;have h1:=zQ h.1.1;simp only at h1 h2;rw[h1,h2]
theorem Pn.same_eq {a b:Pn} (h:a.same b=true):a=b:=by
 unfold Pn.same at h;simp only[Bool.and_eq_true,decide_eq_true_eq]at h;obtain⟨t,s,r,q⟩:=a;obtain⟨t',s',r',q'⟩:=b;have h2:=rW (fun a b (h:(a.toList==b.toList)=true)=>zQ (by simpa using h)) _ _ h.1.2;have h3:=rW (fun _ _=>Wt.same_eq) _ _ h.2;simp only at h h2 h3;rw[h.1.1.1,h.1.1.2,h2,h3]
theorem dP.same_eq {a b:dP} (h:a.same b=true):a=b:=by
 unfold dP.same at h;simp only[Bool.and_eq_true,decide_eq_true_eq]at h;obtain⟨r,f,c,hs,p⟩:=a;obtain⟨r',f',c',hs',p'⟩:=b;have h1:=Rg.same_eq h.1.1.1.1;have h2:=rW (fun _ _=>Hs.same_eq) _ _ h.1.2;have h3:=rW (fun _ _=>Pn.same_eq) _ _ h.2;simp only at h h1 h2 h3;rw[h1,h.1.1.1.2,h.1.1.2,h2,h3]
theorem ab3 (a b:Sp) (w:World):(binOp .neq 26 (.agg #[.int .i64 a.w,.int .i64 a.l,.int .i64 a.n]) (.agg #[.int .i64 b.w,.int .i64 b.l,.int .i64 b.n])).run Tryz.prog w=.ok (.bool (!decide (a=b))) w:=by
 have e:decide (a=b)=((a.w==b.w)&&(a.l==b.l)&&(a.n==b.n)):=by
  obtain⟨a1,a2,a3⟩:=a;obtain⟨b1,b2,b3⟩:=b;rw[Bool.eq_iff_iff];simp[and_assoc]
 rw[e];cases h1:(a.w==b.w)<;>cases h2:(a.l==b.l)<;>cases h3:(a.n==b.n)
 all_goals simp[go_sem,h1,h2,h3]
theorem ab4 (A A':Option Addr) (n n' c c':Nat) (l m:List Hs) (w:World) (h:Sl aQ 2 w w.heap.size A n l) (h':Sl aQ 2 w w.heap.size A' n' m) (hn:n<=maxLen) (hn':n'<=maxLen):
 Calls Tryz.prog 79 #[.slice A n c,.slice A' n' c'] w fun e w'=>e=.returned (.bool (aT Hs.same l m))/\Below w.heap.size w w':=by
 unfold maxLen at hn hn';have hl:=h.1;have hl':=h'.1;by_cases hne:n=n'
 · subst hne;have hb0:((n:Int) !=(n:Int))=false:=aA;have hle:l.length<=n:=byOmega;have hge:n<=l.length:=byOmega;have hle':n<=m.length:=byOmega;have hle2:m.length<=n:=byOmega;clear hl hl';go_enter Tryz.func79,Tryz.ntmps79;go_wp2
   go_loopw [5] (fun i wr=>xF Hs.same l m w i wr) (fun i _=>n-(intOf i).toNat)
   case atStart=>exact⟨0,byOmega,rfl,rfl,aC⟩
   case round=>
    obtain⟨k,hk,rfl,hs,hb⟩:=hrel;have hzz:=hb.size;by_cases hlt:k<n
    · obtain⟨ad,a,A1,n1,c1,rfl,ha,hbk,hok,d0,d1,hn1,hc1,hs1⟩:=((h.below aQ.kept hb).more aQ.kept hb.size).hs hlt;obtain⟨ad',a',A2,n2,c2,rfl,ha',gq,hok',e0,e1,hn2,hc2,hs2⟩:=((h'.below aQ.kept hb).more aQ.kept hb.size).hs hlt;have hd1:decide ((k:Int)<(n:Int))=true:=ay;have hk0:(0:Int)<=(k:Int):=byOmega;have hk1:(k:Int)<(n:Int):=byOmega;rw[xE ha ha']at hs;have HS:=au hs;have HA:=au ha;have HA':=au ha';have hl1:=hs1.1;have hl2:=hs2.1;unfold maxLen at hc1 hc2;clear ha ha' hs;cases hq:(a.key.toList==a'.key.toList)
      · have HF:RowKit.Hid (aT Hs.same l m=false):=(by have:=HS.out;rw[show Hs.same a a'=false from by unfold Hs.same;rw[hq];rfl]at this;exact this.symm);clear hl1 hl2;go_wp2
        go_quiet (fail)
        go_wp2;go_ret;rw[HF.out];exact⟨rfl,hb.trans ((bD _).mono hzz)⟩
      · by_cases hnn:n1=n2
        · subst hnn;have hb1:((n1:Int) !=(n1:Int))=false:=aA;have vN:n1<=a.vs.length:=byOmega;have hle1:a.vs.length<=n1:=byOmega;have yN:n1<=a'.vs.length:=byOmega;have ajj:a'.vs.length<=n1:=byOmega;have HQ:RowKit.Hid (aT Hs.same l m=(aT Vn.same a.vs a'.vs&&aT Hs.same (l.drop (k+1)) (m.drop (k+1)))):=by
           have:=HS.out;rw[show Hs.same a a'=aT Vn.same a.vs a'.vs from by unfold Hs.same;rw[hq,decide_eq_true byOmega];rfl]at this;exact this.symm
          clear hl1 hl2 HS;go_wp2
          go_quiet (fail)
          go_wp2;have hbq:Below w.heap.size w (wr.drewN nq):=hb.trans ((bD nq).mono hzz);clear d0 d1 e0 e1 hs1 hs2 hb hzz
          go_loopw [6] (fun i wr=>xF Vn.same a.vs a'.vs w i wr) (fun i _=>n1-(intOf i).toNat)
          case atStart=>exact⟨0,byOmega,rfl,rfl,hbq⟩
          case round=>
           obtain⟨k2,hk2,rfl,hv,hb⟩:=hrel;have hzz:=hb.size;obtain⟨Qs,a1,B1,m1,c3,ex,ha1,hbk1,hok1,d0,d1,hm1,hc3,hs1⟩:=((h.below aQ.kept hb).more aQ.kept hb.size).hs hlt;obtain⟨Fq,a2,B2,m2,c4,ey,ha2,hbk2,hok2,e0,e1,hm2,hc4,hs2⟩:=((h'.below aQ.kept hb).more aQ.kept hb.size).hs hlt;injection ex with ex
           injection ey with ey
           subst ex ey;obtain rfl:a=a1:=Option.some.inj (HA.out.symm.trans ha1);obtain rfl:a'=a2:=Option.some.inj (HA'.out.symm.trans ha2);obtain rfl:n1=m1:=(by have:=hs1.1;omega);obtain rfl:n1=m2:=(by have:=hs2.1;omega);clear ha1 ha2;by_cases hlt2:k2<n1
           · obtain⟨bd,v,rfl,hv1,hvk,Zp,x0,x1,x2,x3,x4,x5⟩:=hs1.vn hlt2;obtain⟨Zq,v',rfl,hv2,Zr,Zt,y0,y1,y2,y3,y4,y5⟩:=hs2.vn hlt2;have hd3:decide ((k2:Int)<(n1:Int))=true:=ay;have Qu:(0:Int)<=(k2:Int):=byOmega;have Qv:(k2:Int)<(n1:Int):=byOmega;have hvs:=fun w=>ET v.v v'.v w
             have hne:=fun w=>ab3 v.s v'.s w
             rw[xE hv1 hv2]at hv;have HV:=au (show aT Vn.same a.vs a'.vs=(decide (v.s=v'.s)&&v.v.same v'.v&&aT Vn.same (a.vs.drop (k2+1)) (a'.vs.drop (k2+1))) from hv.symm);clear hv1 hv2 hv;generalize decide (v.s=v'.s)=b1 at*;generalize v.v.same v'.v=b2 at*;cases b1
             · have HF:RowKit.Hid (aT Hs.same l m=false):=(by rw[HQ.out,HV.out];exact au rfl);go_wp2;go_region;go_wp2;all_goals
                go_ret;rw[HF.out];exact⟨rfl,hb.trans (Below.mono (w:=wr) aJ hzz)⟩
             · have SB:RowKit.Hid (aT Vn.same a.vs a'.vs=(b2&&aT Vn.same (a.vs.drop (k2+1)) (a'.vs.drop (k2+1)))):=(by rw[HV.out];exact au rfl);clear HV;cases b2
               · have HF:RowKit.Hid (aT Hs.same l m=false):=(by rw[HQ.out,SB.out];exact au rfl);go_wp2;go_region;go_wp2_with ((with_reducible refine(hvs _).mono ?_);rintro e w3 ⟨rfl,hb3⟩);all_goals
                  have hb4:Below wr.heap.size wr w3:=Below.trans (by go_grown;done) (hb3.mono ay);go_ret;rw[HF.out];exact⟨rfl,hb.trans (hb4.mono hzz)⟩
               · have HT2:RowKit.Hid (aT Vn.same (a.vs.drop (k2+1)) (a'.vs.drop (k2+1))=aT Vn.same a.vs a'.vs):=(by rw[SB.out];exact au rfl);go_wp2;go_region;go_wp2_with ((with_reducible refine(hvs _).mono ?_);rintro e w3 ⟨rfl,hb3⟩);all_goals
                  have hb4:Below wr.heap.size wr w3:=Below.trans (by go_grown;done) (hb3.mono ay);clear hb3;go_roundw
                  case rel=>exact⟨k2+1,byOmega,by go_num,HT2.out,hb.trans (hb4.mono hzz)⟩
                  case measure=>simp[intOf];omega
           · have hd3:decide ((k2:Int)<(n1:Int))=false:=ay;have hv0:aT Vn.same a.vs a'.vs=true:=(by rw[<-hv,bF byOmega,bF byOmega];rfl);have HT:RowKit.Hid (aT Hs.same (l.drop (k+1)) (m.drop (k+1))=aT Hs.same l m):=(by rw[HQ.out,hv0];exact au rfl);clear hv hv0;go_wp2;go_roundw
             case rel=>exact⟨k+1,byOmega,by go_num,HT.out,hb⟩
             case measure=>simp[intOf];omega
        · have hb1:((n1:Int) !=(n2:Int))=true:=ay;have HF:RowKit.Hid (aT Hs.same l m=false):=(by have:=HS.out;rw[show Hs.same a a'=false from by unfold Hs.same;rw[hq,decide_eq_false byOmega];rfl]at this;exact this.symm);clear hl1 hl2 hnn;go_wp2
          go_quiet (fail)
          go_wp2;go_ret;rw[HF.out];exact⟨rfl,hb.trans ((bD _).mono hzz)⟩
    · have hd1:decide ((k:Int)<(n:Int))=false:=ay;have hs2:aT Hs.same l m=true:=by
         rw[<-hs,bF byOmega,bF byOmega];rfl
      have HS:=au hs2;clear hs hs2;go_wp2;go_ret;rw[HS.out];exact⟨rfl,hb⟩
 · have hb0:((n:Int) !=(n':Int))=true:=ay;rw[yJ l m byOmega];clear hl hl' hne;go_enter Tryz.func79,Tryz.ntmps79;go_wp2;go_ret;exact⟨rfl,aC⟩
theorem ab5 (p q:Pn) (A1 A2 B1 B2:Option Addr) (n1 n2 m1 m2 c1 c2 d1 d2:Nat) (w:World) (h1:Sl aO 1 w w.heap.size A1 n1 p.r) (h2:Sl aF 4 w w.heap.size A2 n2 p.w) (k1:Sl aO 1 w w.heap.size B1 m1 q.r) (k2:Sl aF 4 w w.heap.size B2 m2 q.w)
 (hn1:n1<=maxLen) (hn2:n2<=maxLen) (hm1:m1<=maxLen) (hm2:m2<=maxLen):
 Calls Tryz.prog 126 #[p.val (.slice A1 n1 c1) (.slice A2 n2 c2),q.val (.slice B1 m1 d1) (.slice B2 m2 d2)] w fun e w'=>e=.returned (.bool (p.same q))/\Below w.heap.size w w':=by
 have hX:Below w.heap.size w ((w.alloc (.cells (p.arr (.slice A1 n1 c1) (.slice A2 n2 c2)) 162)).alloc (.cells (q.arr (.slice B1 m1 d1) (.slice B2 m2 d2)) 162)):=aJ;have i2:aj ((w.alloc (.cells (p.arr (.slice A1 n1 c1) (.slice A2 n2 c2)) 162)).alloc (.cells (q.arr (.slice B1 m1 d1) (.slice B2 m2 d2)) 162)) w.heap.size 162 (p.arr (.slice A1 n1 c1) (.slice A2 n2 c2)):=(aj.new _ _ _).alloc _;have i3:aj ((w.alloc (.cells (p.arr (.slice A1 n1 c1) (.slice A2 n2 c2)) 162)).alloc (.cells (q.arr (.slice B1 m1 d1) (.slice B2 m2 d2)) 162)) (w.heap.size+1) 162 (q.arr (.slice B1 m1 d1) (.slice B2 m2 d2)):=aj.new' _ _ aA;have hT:=fun w' (hb:Below w.heap.size w w')=>H7 A1 B1 n1 m1 c1 d1 p.r q.r w' ((h1.below aO.kept hb).more aO.kept hb.size) ((k1.below aO.kept hb).more aO.kept hb.size) hn1 hm1
 have hW:=fun w' (hb:Below w.heap.size w w')=>H8 A2 B2 n2 m2 c2 d2 p.w q.w w' ((h2.below aF.kept hb).more aF.kept hb.size) ((k2.below aF.kept hb).more aF.kept hb.size) hn2 hm2
 have z0:=fun w=>DY p.t q.t w
 have z1:=fun w=>Af p.s q.s w
 have HS:=au (show p.same q=(decide (p.t=q.t)&&decide (p.s=q.s)&&aT (fun a b:ByteArray=>a.toList==b.toList) p.r q.r&&aT Wt.same p.w q.w) from rfl);generalize p.same q=res at*;generalize decide (p.t=q.t)=b1 at*;generalize decide (p.s=q.s)=b2 at*;generalize aT (fun a b:ByteArray=>a.toList==b.toList) p.r q.r=b3 at*;generalize aT Wt.same p.w q.w=b4 at*;clear h1 h2 k1 k2;go_enter Tryz.func126,Tryz.ntmps126;go_wp2_with (first
  |((with_reducible refine(hT _ hX).mono ?_);rintro e w3 ⟨rfl,hb3⟩
    have j2:=i2.below hb3 i2.lt;have j3:=i3.below hb3 i3.lt;have hY:=hX.trans (hb3.mono hX.size);obtain⟨l2,x0,x1,x2,x3,x4,x5,x6,x7⟩:=j2.eight;obtain⟨l3,y0,y1,y2,y3,y4,y5,y6,y7⟩:=j3.eight)
  |((with_reducible refine(hW _ hY).mono ?_);rintro e w4 ⟨rfl,hb4⟩))
 all_goals go_ret
 all_goals refine⟨aZ ?_,by first|exact hX|exact hX.trans (hb3.mono hX.size)|exact hY.trans (hb4.mono hY.size)⟩
 all_goals rw[HS.out]
 all_goals simp_all
theorem ab6 (A A':Option Addr) (n n' c c':Nat) (l m:List Pn) (w:World) (h:Sl aP 8 w w.heap.size A n l) (h':Sl aP 8 w w.heap.size A' n' m) (hn:n<=maxLen) (hn':n'<=maxLen):
 Calls Tryz.prog 80 #[.slice A n c,.slice A' n' c'] w fun e w'=>e=.returned (.bool (aT Pn.same l m))/\Below w.heap.size w w':=by
 unfold maxLen at hn hn';have hl:=h.1;have hl':=h'.1;by_cases hne:n=n'
 · subst hne;have hb0:((n:Int) !=(n:Int))=false:=aA;have hle:l.length<=n:=byOmega;have hge:n<=l.length:=byOmega;have hle':n<=m.length:=byOmega;have hle2:m.length<=n:=byOmega;clear hl hl';go_enter Tryz.func80,Tryz.ntmps80;go_wp2
   go_loopw [5] (fun i wr=>xF Pn.same l m w i wr) (fun i _=>n-(intOf i).toNat)
   case atStart=>exact⟨0,byOmega,rfl,rfl,aC⟩
   case round=>
    obtain⟨k,hk,rfl,hs,hb⟩:=hrel;have hzz:=hb.size;by_cases hlt:k<n
    · obtain⟨ad,a,A1,n1,c1,A2,n2,c2,rfl,ha,hbk,hxt,hxs,d0,d1,d2,d3,d4,d5,d6,d7,hn1,hc1,hs1,hn2,hc2,hs2⟩:=((h.below aP.kept hb).more aP.kept hb.size).pn hlt;obtain⟨ad',a',A3,n3,c3,A4,n4,c4,rfl,ha',gq,Zw,hxs',e0,e1,e2,e3,e4,e5,e6,e7,hn3,hc3,hs3,hn4,hc4,hs4⟩:=((h'.below aP.kept hb).more aP.kept hb.size).pn hlt;have hd1:decide ((k:Int)<(n:Int))=true:=ay;have hk0:(0:Int)<=(k:Int):=byOmega;have hk1:(k:Int)<(n:Int):=byOmega;have hP:=fun w' (hb:Below wr.heap.size wr w')=>ab5 a a' A1 A2 A3 A4 n1 n2 n3 n4 c1 c2 c3 c4 w' ((hs1.below aO.kept hb).more aO.kept hb.size) ((hs2.below aF.kept hb).more aF.kept hb.size) ((hs3.below aO.kept hb).more aO.kept hb.size) ((hs4.below aF.kept hb).more aF.kept hb.size) byOmega byOmega byOmega byOmega
      rw[xE ha ha']at hs;have HS:=au hs;clear ha ha' hs;generalize a.same a'=r at*;go_wp2
      go_region_held3 (fun w'=>w'.cell? (ad.add (k*8))=some (.int .i64 a.t.c)/\w'.cell? ⟨(ad.add (k*8)).block,(ad.add (k*8)).off+1,none⟩=some (.int .i64 a.t.l)/\w'.cell? ⟨(ad.add (k*8)).block,(ad.add (k*8)).off+2,none⟩=some (.int .i64 a.t.s)/\w'.cell? ⟨(ad.add (k*8)).block,(ad.add (k*8)).off+3,none⟩=some (.int .i64 a.s.w)/\w'.cell? ⟨(ad.add (k*8)).block,(ad.add (k*8)).off+4,none⟩=some (.int .i64 a.s.l)/\w'.cell? ⟨(ad.add (k*8)).block,(ad.add (k*8)).off+5,none⟩=some (.int .i64 a.s.n)/\w'.cell? ⟨(ad.add (k*8)).block,(ad.add (k*8)).off+6,none⟩=some (.slice A1 n1 c1)/\w'.cell? ⟨(ad.add (k*8)).block,(ad.add (k*8)).off+7,none⟩=some (.slice A2 n2 c2)/\w'.cell? (ad'.add (k*8))=some (.int .i64 a'.t.c)/\w'.cell? ⟨(ad'.add (k*8)).block,(ad'.add (k*8)).off+1,none⟩=some (.int .i64 a'.t.l)/\w'.cell? ⟨(ad'.add (k*8)).block,(ad'.add (k*8)).off+2,none⟩=some (.int .i64 a'.t.s)/\w'.cell? ⟨(ad'.add (k*8)).block,(ad'.add (k*8)).off+3,none⟩=some (.int .i64 a'.s.w)/\w'.cell? ⟨(ad'.add (k*8)).block,(ad'.add (k*8)).off+4,none⟩=some (.int .i64 a'.s.l)/\w'.cell? ⟨(ad'.add (k*8)).block,(ad'.add (k*8)).off+5,none⟩=some (.int .i64 a'.s.n)/\w'.cell? ⟨(ad'.add (k*8)).block,(ad'.add (k*8)).off+6,none⟩=some (.slice A3 n3 c3)/\w'.cell? ⟨(ad'.add (k*8)).block,(ad'.add (k*8)).off+7,none⟩=some (.slice A4 n4 c4))
         (first|exact⟨d0,d1,d2,d3,d4,d5,d6,d7,e0,e1,e2,e3,e4,e5,e6,e7⟩|exact⟨(aB.cell (by exact hbk)).trans d0,(aB.cell (by exact hbk)).trans d1,(aB.cell (by exact hbk)).trans d2,(aB.cell (by exact hbk)).trans d3,(aB.cell (by exact hbk)).trans d4,(aB.cell (by exact hbk)).trans d5,(aB.cell (by exact hbk)).trans d6,(aB.cell (by exact hbk)).trans d7,(aB.cell (by exact gq)).trans e0,(aB.cell (by exact gq)).trans e1,(aB.cell (by exact gq)).trans e2,(aB.cell (by exact gq)).trans e3,(aB.cell (by exact gq)).trans e4,(aB.cell (by exact gq)).trans e5,(aB.cell (by exact gq)).trans e6,(aB.cell (by exact gq)).trans e7⟩)
         (first|((with_reducible refine(hP _ (aC).drew).mono ?_);rintro e w5 ⟨rfl,hb5⟩;have aB:Below wr.heap.size wr w5:=(Below.refl wr.heap.size wr).drew.trans hb5))
      cases r
      · have HF:RowKit.Hid (aT Pn.same l m=false):=(by have:=HS.out;rw[Bool.false_and]at this;exact this.symm);go_wp2;go_ret;rw[HF.out];exact⟨rfl,hb.trans (aB.mono hzz)⟩
      · have HT:RowKit.Hid (aT Pn.same (l.drop (k+1)) (m.drop (k+1))=aT Pn.same l m):=(by have:=HS.out;rw[Bool.true_and]at this;exact this);go_wp2;go_roundw
        case rel=>exact⟨k+1,byOmega,by go_num,HT.out,hb.trans (aB.mono hzz)⟩
        case measure=>simp[intOf];omega
    · have hd1:decide ((k:Int)<(n:Int))=false:=ay;have hs2:aT Pn.same l m=true:=by
         rw[<-hs,bF byOmega,bF byOmega];rfl
      have HS:=au hs2;clear hs hs2;go_wp2;go_ret;rw[HS.out];exact⟨rfl,hb⟩
 · have hb0:((n:Int) !=(n':Int))=true:=ay;rw[yJ l m byOmega];clear hl hl' hne;go_enter Tryz.func80,Tryz.ntmps80;go_wp2;go_ret;exact⟨rfl,aC⟩
theorem SC (s t:dP) (A1 A2 B1 B2:Option Addr) (n1 n2 m1 m2 c1 c2 d1 d2:Nat) (w:World) (h1:Sl aQ 2 w w.heap.size A1 n1 s.h) (h2:Sl aP 8 w w.heap.size A2 n2 s.p) (k1:Sl aQ 2 w w.heap.size B1 m1 t.h) (k2:Sl aP 8 w w.heap.size B2 m2 t.p)
 (hn1:n1<=maxLen) (hn2:n2<=maxLen) (hm1:m1<=maxLen) (hm2:m2<=maxLen):
 Calls Tryz.prog 40 #[.agg (s.arr (.slice A1 n1 c1) (.slice A2 n2 c2)),.agg (t.arr (.slice B1 m1 d1) (.slice B2 m2 d2))] w fun e w'=>e=.returned (.bool (s.same t))/\Below w.heap.size w w':=by
 have hX:Below w.heap.size w ((w.alloc (.cells (s.arr (.slice A1 n1 c1) (.slice A2 n2 c2)) 39)).alloc (.cells (t.arr (.slice B1 m1 d1) (.slice B2 m2 d2)) 39)):=aJ;have i2:aj ((w.alloc (.cells (s.arr (.slice A1 n1 c1) (.slice A2 n2 c2)) 39)).alloc (.cells (t.arr (.slice B1 m1 d1) (.slice B2 m2 d2)) 39)) w.heap.size 39 (s.arr (.slice A1 n1 c1) (.slice A2 n2 c2)):=(aj.new _ _ _).alloc _;have i3:aj ((w.alloc (.cells (s.arr (.slice A1 n1 c1) (.slice A2 n2 c2)) 39)).alloc (.cells (t.arr (.slice B1 m1 d1) (.slice B2 m2 d2)) 39)) (w.heap.size+1) 39 (t.arr (.slice B1 m1 d1) (.slice B2 m2 d2)):=aj.new' _ _ aA;have hR:=fun w'=>range_any s.r t.r w'
 have hT:=fun w' (hb:Below w.heap.size w w')=>ab4 A1 B1 n1 m1 c1 d1 s.h t.h w' ((h1.below aQ.kept hb).more aQ.kept hb.size) ((k1.below aQ.kept hb).more aQ.kept hb.size) hn1 hm1
 have hW:=fun w' (hb:Below w.heap.size w w')=>ab6 A2 B2 n2 m2 c2 d2 s.p t.p w' ((h2.below aP.kept hb).more aP.kept hb.size) ((k2.below aP.kept hb).more aP.kept hb.size) hn2 hm2
 have z1:=fun w=>Af s.f t.f w
 have z2:=fun w=>Af s.c t.c w
 have HS:=au (show s.same t=(s.r.same t.r&&decide (s.f=t.f)&&decide (s.c=t.c)&&aT Hs.same s.h t.h&&aT Pn.same s.p t.p) from rfl);generalize s.same t=res at*;generalize s.r.same t.r=b0 at*;generalize decide (s.f=t.f)=b1 at*;generalize decide (s.c=t.c)=b2 at*;generalize aT Hs.same s.h t.h=b3 at*;generalize aT Pn.same s.p t.p=b4 at*;clear h1 h2 k1 k2;go_enter Tryz.func40,Tryz.ntmps40;go_wp2_with (first
  |((with_reducible refine(hR _).mono ?_);rintro e w3 ⟨rfl,hb3⟩
    have j2:=i2.below hb3 i2.lt;have j3:=i3.below hb3 i3.lt;have hY:=hX.trans (hb3.mono hX.size);obtain⟨l2,x0,x1,x2,x3,x4,x5,x6,x7,x8,x9,x10,x11⟩:=xK j2;obtain⟨l3,y0,y1,y2,y3,y4,y5,y6,y7,y8,y9,rE,rF⟩:=xK j3)
  |((with_reducible refine(hT _ hY).mono ?_);rintro e w4 ⟨rfl,hb4⟩
    have k2':=j2.below hb4 j2.lt;have xM:=j3.below hb4 j3.lt;have hZ:=hY.trans (hb4.mono hY.size);obtain⟨Zx,-,-,-,-,-,-,-,-,-,-,-,z11⟩:=xK k2';obtain⟨Lj,-,-,-,-,-,-,-,-,-,-,-,u11⟩:=xK xM)
  |((with_reducible refine(hW _ hZ).mono ?_);rintro e w5 ⟨rfl,hb5⟩))
 all_goals go_ret
 all_goals refine⟨aZ ?_,by first|exact hY|exact hZ|exact hZ.trans (hb5.mono hZ.size)⟩
 all_goals rw[HS.out]
 all_goals simp_all
theorem ab7 (a b:Rc) (h g:aV) (w:World) (i:dO w a h) (j:dO w b g):
 Calls Tryz.prog 78 #[.agg (a.vals h),.agg (b.vals g)] w fun e w'=>e=.returned (.bool (vT a b (a.st.same b.st)))/\Below w.heap.size w w':=
 MQ a b h g _ w i j fun w' hb=>SC a.st b.st h.e.A h.f.A g.e.A g.f.A h.e.n h.f.n g.e.n g.f.n h.e.c h.f.c g.e.c g.f.c w' (i.below hb).hs (i.below hb).pn (j.below hb).hs (j.below hb).pn (i.below hb).ne (i.below hb).nf (j.below hb).ne (j.below hb).nf
theorem ab8 {a b:Rc} (h:vT a b (a.st.same b.st)=true):a=b:=by
 unfold vT at h;simp only[Bool.and_eq_true,decide_eq_true_eq,beq_iff_eq]at h;obtain⟨⟨⟨⟨⟨⟨⟨⟨⟨⟨⟨h1,h2⟩,h3⟩,h4⟩,h5⟩,h6⟩,h7⟩,h8⟩,h9⟩,h10⟩,h11⟩,h12⟩:=h;obtain⟨k,t,s,pv,cm,n,pt,rd,wr,ps,pr,st⟩:=a;obtain⟨k',t',s',pv',cm',n',pt',rd',wr',ps',pr',st'⟩:=b;have e8:=rW (fun a b (h:(a.toList==b.toList)=true)=>zQ (by simpa using h)) _ _ h8;have e9:=rW (fun _ _=>Wt.same_eq) _ _ h9;have e10:=rW (fun a b (h:(a==b)=true)=>by simpa using h) _ _ h10;have e11:=rW (fun _ _=>Wt.same_eq) _ _ h11;have e12:=dP.same_eq h12;simp only at*;have e7:pt=pt':=byOmega;subst h1 h2 h3 h4 h5 h6 e7 e8 e9 e10 e11 e12;rfl
