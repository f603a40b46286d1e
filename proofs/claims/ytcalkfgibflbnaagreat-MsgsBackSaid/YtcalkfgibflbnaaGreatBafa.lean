/- The walks of raceref's One, Seen, Ranges, Recs. -/
import Derived.Test.YtcalkfgibflbnaaGreatBaea
namespace Go.Proofs.YtcalkfgibflbnaaGreat
set_option maxHeartbeats 4000000
set_option maxRecDepth 100000
set_option linter.unusedVariables false
open Go.RowKit Fl
attribute [local go_sem] dJ
theorem Sl.mid {α:Type} {R:Rel α} {E:Nat} {w:World} {B n:Nat} {A:Option Addr} {l:List α} (h:Sl R E w B A n l) (hE:0<E) {k:Nat} (hk:k<n):
 ∃(ad:Addr) (b o:Nat) (cs:List Value) (a:α),A=some ad/\l[k]?=some a/\ad.add (k*E)=⟨b,o,none⟩/\b<B/\cs.length=E/\w.rangeAt b o cs/\R w B cs a:=by
 obtain⟨ad,cs,a,e,hl,hb,hc,hv,hr⟩:=h.at_ hk;obtain⟨u,hu⟩:∃u,cs[0]?=some u:=⟨cs[0],List.getElem?_eq_getElem byOmega⟩;have c0:=hv 0 u hu;rw[Nat.add_zero]at c0;have hbb:(ad.add (k*E)).block<B:=by rw[iW];exact hb
 have hv2:∀j v,cs[j]?=some v->w.cell? ((ad.add (k*E)).add j)=some v:=fun j v hj=>by rw[oh];exact hv j v hj
 generalize hq:ad.add (k*E)=q at*;obtain⟨b,o,sp⟩:=q;cases sp with
 |some s=>
  unfold World.cell? at c0;cases h5:w.heap[b]? with
  |none=>simp[h5]at c0
  |some x=>cases x<;>simp[h5]at c0
 |none=>exact⟨ad,b,o,cs,a,e,hl,hq,hbb,hc,fun j v hj=>by have:=hv2 j v hj;rwa [Addr.add_mid]at this,hr⟩
theorem Xc (r:Rc):vT r r true=true:=by
 unfold vT;have h1:(r.cm==r.cm)=true:=by cases r.cm<;>rfl
 simp[He,JW,JX]
theorem aiz (r:Rc) (g h:aV) (w:World) (i:dO w r g) (j:dO w r h):Calls Tryz.prog 78 #[.agg (r.vals g),.agg (r.vals h)] w fun e w'=>e=.returned (.bool true)/\Below w.heap.size w w':=by
 have hR:=MQ r r g h true w i j fun w' hb=>Lh r.st g.e.A g.f.A h.e.A h.f.A g.e.n g.f.n h.e.n h.f.n g.e.c g.f.c h.e.c h.f.c w' (i.below hb).hs (i.below hb).pn (j.below hb).hs (j.below hb).pn (i.below hb).ne (i.below hb).nf
 rw[Xc]at hR;exact hR
def Sn.same (a b:Sn):Bool:=(a.key.toList==b.key.toList)&&decide (a.s=b.s)&&a.v.same b.v
theorem one_any (a b:Sn) (w:World):
 Calls Tryz.prog 75 #[.agg #[.string a.key,.int .i64 a.v.k,.float .f64 a.v.n,.string a.v.t,.int .i64 a.s.w,.int .i64 a.s.l,.int .i64 a.s.n],.agg #[.string b.key,.int .i64 b.v.k,.float .f64 b.v.n,.string b.v.t,.int .i64 b.s.w,.int .i64 b.s.l,.int .i64 b.s.n]] w fun e w'=>e=.returned (.bool (a.same b))/\Below w.heap.size w w':=by
 have z1:=fun w=>Af a.s b.s w
 have hv:=fun w=>ET a.v b.v w
 have HZ:=au (show a.same b=((a.key.toList==b.key.toList)&&decide (a.s=b.s)&&a.v.same b.v) from rfl);have hX:Below w.heap.size w ((w.alloc (.cells #[.string a.key,.int .i64 a.v.k,.float .f64 a.v.n,.string a.v.t,.int .i64 a.s.w,.int .i64 a.s.l,.int .i64 a.s.n] 104)).alloc (.cells #[.string b.key,.int .i64 b.v.k,.float .f64 b.v.n,.string b.v.t,.int .i64 b.s.w,.int .i64 b.s.l,.int .i64 b.s.n] 104)):=aJ;generalize decide (a.s=b.s)=b1 at*;generalize a.v.same b.v=b2 at*;go_enter Tryz.func75,Tryz.ntmps75;go_wp2_with ((with_reducible refine(hv _).mono ?_);rintro e w1 ⟨rfl,hb1⟩);all_goals go_ret
 all_goals refine⟨aZ ?_,by first|exact hX.trans (hb1.mono hX.size)|exact hX⟩
 all_goals rw[HZ.out]
 all_goals simp_all
theorem aiA (A A':Option Addr) (n n' c c':Nat) (l m:List Sn) (w:World) (h:Sl gI 7 w w.heap.size A n l) (h':Sl gI 7 w w.heap.size A' n' m) (hn:n<=maxLen) (hn':n'<=maxLen):
 Calls Tryz.prog 35 #[.slice A n c,.slice A' n' c'] w fun e w'=>e=.returned (.bool (aT Sn.same l m))/\Below w.heap.size w w':=by
 unfold maxLen at hn hn';have hl:=h.1;have hl':=h'.1;by_cases hne:n=n'
 case neg=>
  have hb0:((n:Int) !=(n':Int))=true:=ay;rw[yJ l m byOmega];clear hl hl' hne;go_enter Tryz.func35,Tryz.ntmps35;go_wp2;go_ret;exact⟨rfl,aC⟩
 subst hne;have hb0:((n:Int) !=(n:Int))=false:=aA;have hle:l.length<=n:=byOmega;have hge:n<=l.length:=byOmega;have hle':n<=m.length:=byOmega;have hle2:m.length<=n:=byOmega;clear hl hl';go_enter Tryz.func35,Tryz.ntmps35;go_wp2
 go_loopw [5] (fun i wr=>xF Sn.same l m w i wr) (fun i _=>n-(intOf i).toNat)
 case atStart=>exact⟨0,byOmega,rfl,rfl,aC⟩
 case round=>
  obtain⟨k,hk,rfl,hs,hb⟩:=hrel;have hzz:=hb.size;by_cases hlt:k<n
  · obtain⟨ad,b,o,cs,a,rfl,ha,hq,hbb,hlc,hrg,hR⟩:=((h.below gI.kept hb).more gI.kept hb.size).mid byOmega hlt;obtain⟨ad',b',o',cs',a',rfl,ha',hq',Dj,Dk,Dl,hR'⟩:=((h'.below gI.kept hb).more gI.kept hb.size).mid byOmega hlt;have hd1:decide ((k:Int)<(n:Int))=true:=ay;have hk0:(0:Int)<=(k:Int):=byOmega;have hk1:(k:Int)<(n:Int):=byOmega;obtain⟨rfl,ok⟩:=hR;obtain⟨rfl,ok'⟩:=hR';have hE:∀w',Below wr.heap.size wr w'->Calls Tryz.prog 75 #[.agg a.cells.toArray,.agg a'.cells.toArray] w' fun e w''=>e=.returned (.bool (a.same a'))/\Below w'.heap.size w' w'':=fun w' hb=>one_any a a' w'
    rw[xE ha ha']at hs;generalize Sn.same a a'=r at*;have HS:=au hs;clear hs;clear ha ha';go_upto_region 6 with fail;refine wp_region_held_drew (S:=fun W'=>Below wr.heap.size wr W') ah (aC).drew (fun hHeld=>?_);have s0:Below wr.heap.size wr wr.drew:=(aC).drew;refine tc 0 17 ?_;go_frame;refine tc 1 18 ?_;go_frame;refine tc 2 19 ?_;go_frame;refine tl 3 20 rfl (yieldsIf_load_mid ah 104 _ rfl b o ah a.cells _ (fun w hw j v hj=>(hw.cell (p:=⟨b,o+j,none⟩) hbb).trans (hrg j v hj)) Tryz.underlying104 rfl (by rw[hlc];kernel_rfl)) ?_;go_frame;refine tc 4 21 ?_;go_frame;refine tc 5 22 ?_;go_frame;refine tc 6 23 ?_;go_frame;refine tl 7 24 rfl (yieldsIf_load_mid ah 104 _ rfl b' o' ah a'.cells _ (fun w hw j v hj=>(hw.cell (p:=⟨b',o'+j,none⟩) Dj).trans (Dl j v hj)) Tryz.underlying104 rfl (by rw[Dk];kernel_rfl)) ?_;go_frame;refine tr 8 rfl (fun K hK=>?_);go_simp
    (with_reducible refine(hE _ s0).mono ?_)
    rintro e w1 ⟨rfl,hb1⟩;have s1:=s0.trans (hb1.mono s0.size);refine hK.out _ _ s1 (fun hHeld=>?_);clear hK K
    try go_frame
    refine tc 9 26 ?_;go_frame;refine td ?_;have hY:=hb.trans (s1.mono hzz);cases r
    · have HF:RowKit.Hid (aT Sn.same l m=false):=(by have:=HS.out;rw[Bool.false_and]at this;exact this.symm);go_wp2;go_ret;rw[HF.out];exact⟨rfl,hY⟩
    · have HT:RowKit.Hid (aT Sn.same (l.drop (k+1)) (m.drop (k+1))=aT Sn.same l m):=(by have:=HS.out;rw[Bool.true_and]at this;exact this);go_wp2;go_roundw
      case rel=>exact⟨k+1,byOmega,by go_num,HT.out,hY⟩
      case measure=>simp[intOf];omega
  · have hd1:decide ((k:Int)<(n:Int))=false:=ay;have HS:=au (show aT Sn.same l m=true by rw[<-hs,bF byOmega,bF byOmega];rfl);clear hs;go_wp2;go_ret;rw[HS.out];exact⟨rfl,hb⟩
theorem aiB (A A':Option Addr) (n n' c c':Nat) (l m:List Rg) (w:World) (h:Sl gX 4 w w.heap.size A n l) (h':Sl gX 4 w w.heap.size A' n' m) (hn:n<=maxLen) (hn':n'<=maxLen):
 Calls Tryz.prog 38 #[.slice A n c,.slice A' n' c'] w fun e w'=>e=.returned (.bool (aT Rg.same l m))/\Below w.heap.size w w':=by
 unfold maxLen at hn hn';have hl:=h.1;have hl':=h'.1;by_cases hne:n=n'
 case neg=>
  have hb0:((n:Int) !=(n':Int))=true:=ay;rw[yJ l m byOmega];clear hl hl' hne;go_enter Tryz.func38,Tryz.ntmps38;go_wp2;go_ret;exact⟨rfl,aC⟩
 subst hne;have hb0:((n:Int) !=(n:Int))=false:=aA;have hle:l.length<=n:=byOmega;have hge:n<=l.length:=byOmega;have hle':n<=m.length:=byOmega;have hle2:m.length<=n:=byOmega;clear hl hl';go_enter Tryz.func38,Tryz.ntmps38;go_wp2
 go_loopw [5] (fun i wr=>xF Rg.same l m w i wr) (fun i _=>n-(intOf i).toNat)
 case atStart=>exact⟨0,byOmega,rfl,rfl,aC⟩
 case round=>
  obtain⟨k,hk,rfl,hs,hb⟩:=hrel;have hzz:=hb.size;by_cases hlt:k<n
  · obtain⟨ad,b,o,cs,a,rfl,ha,hq,hbb,hlc,hrg,hR⟩:=((h.below gX.kept hb).more gX.kept hb.size).mid byOmega hlt;obtain⟨ad',b',o',cs',a',rfl,ha',hq',Dj,Dk,Dl,hR'⟩:=((h'.below gX.kept hb).more gX.kept hb.size).mid byOmega hlt;have hd1:decide ((k:Int)<(n:Int))=true:=ay;have hk0:(0:Int)<=(k:Int):=byOmega;have hk1:(k:Int)<(n:Int):=byOmega;obtain⟨rfl,ok⟩:=hR;obtain⟨rfl,ok'⟩:=hR';have hE:∀w',Below wr.heap.size wr w'->Calls Tryz.prog 77 #[.agg a.cells.toArray,.agg a'.cells.toArray] w' fun e w''=>e=.returned (.bool (a.same a'))/\Below w'.heap.size w' w'':=fun w' hb=>range_any a a' w'
    rw[xE ha ha']at hs;generalize Rg.same a a'=r at*;have HS:=au hs;clear hs;clear ha ha';go_upto_region 6 with fail;refine wp_region_held_drew (S:=fun W'=>Below wr.heap.size wr W') ah (aC).drew (fun hHeld=>?_);have s0:Below wr.heap.size wr wr.drew:=(aC).drew;refine tc 0 17 ?_;go_frame;refine tc 1 18 ?_;go_frame;refine tc 2 19 ?_;go_frame;refine tl 3 20 rfl (yieldsIf_load_mid ah 35 _ rfl b o ah a.cells _ (fun w hw j v hj=>(hw.cell (p:=⟨b,o+j,none⟩) hbb).trans (hrg j v hj)) Tryz.underlying35 rfl (by rw[hlc];kernel_rfl)) ?_;go_frame;refine tc 4 21 ?_;go_frame;refine tc 5 22 ?_;go_frame;refine tc 6 23 ?_;go_frame;refine tl 7 24 rfl (yieldsIf_load_mid ah 35 _ rfl b' o' ah a'.cells _ (fun w hw j v hj=>(hw.cell (p:=⟨b',o'+j,none⟩) Dj).trans (Dl j v hj)) Tryz.underlying35 rfl (by rw[Dk];kernel_rfl)) ?_;go_frame;refine tr 8 rfl (fun K hK=>?_);go_simp
    (with_reducible refine(hE _ s0).mono ?_)
    rintro e w1 ⟨rfl,hb1⟩;have s1:=s0.trans (hb1.mono s0.size);refine hK.out _ _ s1 (fun hHeld=>?_);clear hK K
    try go_frame
    refine tc 9 26 ?_;go_frame;refine td ?_;have hY:=hb.trans (s1.mono hzz);cases r
    · have HF:RowKit.Hid (aT Rg.same l m=false):=(by have:=HS.out;rw[Bool.false_and]at this;exact this.symm);go_wp2;go_ret;rw[HF.out];exact⟨rfl,hY⟩
    · have HT:RowKit.Hid (aT Rg.same (l.drop (k+1)) (m.drop (k+1))=aT Rg.same l m):=(by have:=HS.out;rw[Bool.true_and]at this;exact this);go_wp2;go_roundw
      case rel=>exact⟨k+1,byOmega,by go_num,HT.out,hY⟩
      case measure=>simp[intOf];omega
  · have hd1:decide ((k:Int)<(n:Int))=false:=ay;have HS:=au (show aT Rg.same l m=true by rw[<-hs,bF byOmega,bF byOmega];rfl);clear hs;go_wp2;go_ret;rw[HS.out];exact⟨rfl,hb⟩
theorem aiq (A A':Option Addr) (n n' c c':Nat) (l:List Rc) (w:World) (h:Sl eX 29 w w.heap.size A n l) (h':Sl eX 29 w w.heap.size A' n' l) (hn:n<=maxLen) (hn':n'<=maxLen):
 Calls Tryz.prog 39 #[.slice A n c,.slice A' n' c'] w fun e w'=>e=.returned (.bool (true))/\Below w.heap.size w w':=by
 unfold maxLen at hn hn';have hl:=h.1;have hl':=h'.1;obtain rfl:n=n':=hl.symm.trans hl';have hb0:((n:Int) !=(n:Int))=false:=aA;have hle:l.length<=n:=byOmega;have hge:n<=l.length:=byOmega;clear hl hl';go_enter Tryz.func39,Tryz.ntmps39;go_wp2
 go_loopw [5] (fun i wr=>AllOf l w i wr) (fun i _=>n-(intOf i).toNat)
 case atStart=>exact⟨0,byOmega,rfl,aC⟩
 case round=>
  obtain⟨k,hk,rfl,hb⟩:=hrel;have hzz:=hb.size;by_cases hlt:k<n
  · obtain⟨ad,b,o,cs,a,rfl,ha,hq,hbb,hlc,hrg,hR⟩:=((h.below eX.kept hb).more eX.kept hb.size).mid byOmega hlt;obtain⟨ad',b',o',cs',a',rfl,ha',hq',Dj,Dk,Dl,hR'⟩:=((h'.below eX.kept hb).more eX.kept hb.size).mid byOmega hlt;have hd1:decide ((k:Int)<(n:Int))=true:=ay;have hk0:(0:Int)<=(k:Int):=byOmega;have hk1:(k:Int)<(n:Int):=byOmega;obtain rfl:a=a':=Option.some.inj (ha.symm.trans ha');obtain⟨g,rfl,ok,cp,i⟩:=hR;obtain⟨g',rfl,ok',cp',i'⟩:=hR';have hE:∀w',Below wr.heap.size wr w'->Calls Tryz.prog 78 #[.agg (a.vals g).toList.toArray,.agg (a.vals g').toList.toArray] w' fun e w''=>e=.returned (.bool true)/\Below w'.heap.size w' w'':=fun w' hb=>aiz a g g' w' (dO.below ⟨i.rd,i.wr,i.ps,i.pr,i.hs,i.pn,i.na,i.nb,i.nc,i.nd,i.ne,i.nf⟩ hb) (dO.below ⟨i'.rd,i'.wr,i'.ps,i'.pr,i'.hs,i'.pn,i'.na,i'.nb,i'.nc,i'.nd,i'.ne,i'.nf⟩ hb)
    clear i i' ok ok' cp cp';clear ha ha';go_upto_region 6 with fail;refine wp_region_held_drew (S:=fun W'=>Below wr.heap.size wr W') ah (aC).drew (fun hHeld=>?_);have s0:Below wr.heap.size wr wr.drew:=(aC).drew;refine tc 0 17 ?_;go_frame;refine tc 1 18 ?_;go_frame;refine tc 2 19 ?_;go_frame;refine tl 3 20 rfl (yieldsIf_load_mid ah 69 _ rfl b o ah (a.vals g).toList _ (fun w hw j v hj=>(hw.cell (p:=⟨b,o+j,none⟩) hbb).trans (hrg j v hj)) Tryz.underlying69 rfl (by rw[hlc];kernel_rfl)) ?_;go_frame;refine tc 4 21 ?_;go_frame;refine tc 5 22 ?_;go_frame;refine tc 6 23 ?_;go_frame;refine tl 7 24 rfl (yieldsIf_load_mid ah 69 _ rfl b' o' ah (a.vals g').toList _ (fun w hw j v hj=>(hw.cell (p:=⟨b',o'+j,none⟩) Dj).trans (Dl j v hj)) Tryz.underlying69 rfl (by rw[Dk];kernel_rfl)) ?_;go_frame;refine tr 8 rfl (fun K hK=>?_);go_simp
    (with_reducible refine(hE _ s0).mono ?_)
    rintro e w1 ⟨rfl,hb1⟩;have s1:=s0.trans (hb1.mono s0.size);refine hK.out _ _ s1 (fun hHeld=>?_);clear hK K
    try go_frame
    refine tc 9 26 ?_;go_frame;refine td ?_;have hY:=hb.trans (s1.mono hzz);go_wp2;go_roundw
    case rel=>exact⟨k+1,byOmega,by go_num,hY⟩
    case measure=>simp[intOf];omega
  · have hd1:decide ((k:Int)<(n:Int))=false:=ay;go_wp2;go_ret;exact⟨rfl,hb⟩
def Mg.Df (a b:Mg):Bool:=(a.k==b.k)&&(a.fr==b.fr)&&(a.aG==b.aG)&&decide (a.t=b.t)&&(a.rg==b.rg)&&(a.ep==b.ep)&&(a.cd==b.cd)
def Mg.Dh (a b:Mg):Bool:=decide (a.s=b.s)&&decide (a.pv=b.pv)&&(a.cm==b.cm)&&(a.n==b.n)&&(a.mx==b.mx)
def Mg.Di (a b:Mg):Bool:=aT (fun x y=>x.toList==y.toList) a.ks b.ks&&aT Sn.same a.sn b.sn&&aT Wt.same a.ws b.ws&&aT (fun x y=>x==y) a.ps b.ps&&aT Rg.same a.rs b.rs
def Mg.zL (a b:Mg) (br bs:Bool):Bool:=a.Df b&&a.Dh b&&a.Di b&&br&&bs
set_option maxRecDepth 100000 in
set_option maxHeartbeats 16000000 in
theorem Xb (a b:Mg) (h g:Hm) (br bs:Bool) (w:World) (i:bH w w.heap.size a h) (j:bH w w.heap.size b g) (ch:h.caps) (cg:g.caps)
 (hR:∀w',Below w.heap.size w w'->Calls Tryz.prog 39 #[.slice h.f.A h.f.n h.f.c,.slice g.f.A g.f.n g.f.c] w' fun e w''=>e=.returned (.bool br)/\Below w'.heap.size w' w'')
 (hS:∀w',Below w.heap.size w w'->Calls Tryz.prog 40 #[.agg (a.st.arr (.slice h.g.A h.g.n h.g.c) (.slice h.i.A h.i.n h.i.c)),.agg (b.st.arr (.slice g.g.A g.g.n g.g.c) (.slice g.i.A g.i.n g.i.c))] w' fun e w''=>e=.returned (.bool bs)/\Below w'.heap.size w' w''):
 Calls Tryz.prog 15 #[.agg (a.vals h),.agg (b.vals g)] w fun e w'=>e=.returned (.bool (a.zL b br bs))/\Below w.heap.size w w':=by
 have q0:=fun w=>DY a.t b.t w
 have q1:=fun w=>Af a.s b.s w
 have q2:=fun w=>Af a.pv b.pv w
 have hT:=fun w' (hb:Below w.heap.size w w')=>H7 h.a.A g.a.A h.a.n g.a.n h.a.c g.a.c a.ks b.ks w' (i.up hb).ks (j.up hb).ks (Nat.le_trans ch.a.1 ch.a.2) (Nat.le_trans cg.a.1 cg.a.2)
 have hN:=fun w' (hb:Below w.heap.size w w')=>aiA h.b.A g.b.A h.b.n g.b.n h.b.c g.b.c a.sn b.sn w' (i.up hb).sn (j.up hb).sn (Nat.le_trans ch.b.1 ch.b.2) (Nat.le_trans cg.b.1 cg.b.2)
 have hW:=fun w' (hb:Below w.heap.size w w')=>H8 h.c.A g.c.A h.c.n g.c.n h.c.c g.c.c a.ws b.ws w' (i.up hb).ws (j.up hb).ws (Nat.le_trans ch.c.1 ch.c.2) (Nat.le_trans cg.c.1 cg.c.2)
 have hI:=fun w' (hb:Below w.heap.size w w')=>QI h.d.A g.d.A h.d.n g.d.n h.d.c g.d.c a.ps b.ps w' (i.up hb).ps (j.up hb).ps (Nat.le_trans ch.d.1 ch.d.2) (Nat.le_trans cg.d.1 cg.d.2)
 have hG:=fun w' (hb:Below w.heap.size w w')=>aiB h.e.A g.e.A h.e.n g.e.n h.e.c g.e.c a.rs b.rs w' (i.up hb).rs (j.up hb).rs (Nat.le_trans ch.e.1 ch.e.2) (Nat.le_trans cg.e.1 cg.e.2)
 have H1:=au (show a.Df b=((a.k==b.k)&&(a.fr==b.fr)&&(a.aG==b.aG)&&decide (a.t=b.t)&&(a.rg==b.rg)&&(a.ep==b.ep)&&(a.cd==b.cd)) from rfl);have H2:=au (show a.Dh b=(decide (a.s=b.s)&&decide (a.pv=b.pv)&&(a.cm==b.cm)&&(a.n==b.n)&&(a.mx==b.mx)) from rfl);have H3:=au (show a.Di b=(aT (fun x y=>x.toList==y.toList) a.ks b.ks&&aT Sn.same a.sn b.sn&&aT Wt.same a.ws b.ws&&aT (fun x y=>x==y) a.ps b.ps&&aT Rg.same a.rs b.rs) from rfl);have H4:=au (show a.zL b br bs=(a.Df b&&a.Dh b&&a.Di b&&br&&bs) from rfl);clear i j ch cg;have hX:Below w.heap.size w ((w.alloc (.cells (a.vals h) 41)).alloc (.cells (b.vals g) 41)):=aJ;have bA:aj ((w.alloc (.cells (a.vals h) 41)).alloc (.cells (b.vals g) 41)) w.heap.size 41 (a.vals h):=(aj.new _ _ _).alloc _;have bB:aj ((w.alloc (.cells (a.vals h) 41)).alloc (.cells (b.vals g) 41)) (w.heap.size+1) 41 (b.vals g):=aj.new' _ _ aA;generalize decide (a.t=b.t)=b0 at*;generalize decide (a.s=b.s)=b1 at*;generalize decide (a.pv=b.pv)=b2 at*;generalize aT (fun x y=>x.toList==y.toList) a.ks b.ks=b3 at*;generalize aT Sn.same a.sn b.sn=b4 at*;generalize aT Wt.same a.ws b.ws=b5 at*;generalize aT (fun x y=>x==y) a.ps b.ps=b6 at*;generalize aT Rg.same a.rs b.rs=b7 at*;generalize a.Df b=x1 at*;generalize a.Dh b=x2 at*;generalize a.Di b=x3 at*;go_enter Tryz.func15,Tryz.ntmps15;go_upto_region 1 with fail;generalize ((w.alloc (.cells (a.vals h) 41)).alloc (.cells (b.vals g) 41))=w1 at*;have lA:=bA.lt;have lB:=bB.lt;have y0:=cl (bA.cell 0);have z0:=cl (bB.cell 0);have y1:=cl (bA.cell 1);have z1:=cl (bB.cell 1);have y2:=cl (bA.cell 2);have z2:=cl (bB.cell 2);have y3:=cl (bA.cell 3);have z3:=cl (bB.cell 3);have y4:=cl (bA.cell 4);have z4:=cl (bB.cell 4);have y5:=cl (bA.cell 5);have z5:=cl (bB.cell 5);have y6:=cl (bA.cell 6);have z6:=cl (bB.cell 6);have y7:=cl (bA.cell 7);have z7:=cl (bB.cell 7);have y8:=cl (bA.cell 8);have z8:=cl (bB.cell 8)
 go_cut [5] from 8 (fun v w'=>v=.bool x1/\w'=w1)
 case first=>
  clear hT hN hW hI hG hR hS;go_wp2_with fail;all_goals
   go_meet
   case rel=>exact⟨congrArg Value.bool (by rw[H1.out];simp_all),rfl⟩
 obtain⟨rfl,rfl⟩:=hcut;clear y0 z0 y1 z1 y2 z2 y3 z3 y4 z4 y5 z5 y6 z6 y7 z7 y8 z8;have y9:=cl (bA.cell 9);have z9:=cl (bB.cell 9);have rE:=cl (bA.cell 10);have z10:=cl (bB.cell 10);have rF:=cl (bA.cell 11);have z11:=cl (bB.cell 11);have IV:=cl (bA.cell 12);have z12:=cl (bB.cell 12);have y13:=cl (bA.cell 13);have z13:=cl (bB.cell 13);have IW:=cl (bA.cell 14);have z14:=cl (bB.cell 14);have IZ:=cl (bA.cell 15);have z15:=cl (bB.cell 15);have I4:=cl (bA.cell 16);have z16:=cl (bB.cell 16);have I5:=cl (bA.cell 17);have z17:=cl (bB.cell 17);go_upto_region 2 with fail
 go_cut [6] from 55 (fun v w'=>v=.bool x2/\w'=wc)
 case first=>
  clear hT hN hW hI hG hR hS;go_wp2_with fail;all_goals
   go_meet
   case rel=>exact⟨congrArg Value.bool (by rw[H2.out];simp_all),rfl⟩
 rename_i wd;obtain⟨rfl,rfl⟩:=hcut;clear y9 z9 rE z10 rF z11 IV z12 y13 z13 IW z14 IZ z15 I4 z16 I5 z17;have I7:=cl (bA.cell 18);have z18:=cl (bB.cell 18);have BN:=cl (bA.cell 19);have Xd:=cl (bB.cell 19);have y20:=cl (bA.cell 20);have z20:=cl (bB.cell 20);have y21:=cl (bA.cell 21);have z21:=cl (bB.cell 21);have y22:=cl (bA.cell 22);have z22:=cl (bB.cell 22);go_upto_region 3 with fail
 go_cut [7] from 88 (fun v w'=>v=.bool x3/\Below wc.heap.size wc w')
 case first=>
  clear hR hS;go_wp2_with (first
   |((with_reducible refine(hT _ hX).mono ?_);rintro e v1 ⟨rfl,hb1⟩
     have c1:=(Below.refl wc.heap.size wc).trans (hb1.mono (Below.refl wc.heap.size wc).size);have X1:=hX.trans (hb1.mono hX.size);have A1:=bA.below hb1 bA.lt;have B1:=bB.below hb1 bB.lt;have BN:=cl (A1.cell 19);have Xd:=cl (B1.cell 19);have y20:=cl (A1.cell 20);have z20:=cl (B1.cell 20);have y21:=cl (A1.cell 21);have z21:=cl (B1.cell 21);have y22:=cl (A1.cell 22);have z22:=cl (B1.cell 22);have lA1:=A1.lt;have lB1:=B1.lt)
   |((with_reducible refine(hN _ X1).mono ?_);rintro e v2 ⟨rfl,hb2⟩
     have c2:=c1.trans (hb2.mono c1.size);have X2:=X1.trans (hb2.mono X1.size);have A2:=A1.below hb2 A1.lt;have B2:=B1.below hb2 B1.lt;have y20:=cl (A2.cell 20);have z20:=cl (B2.cell 20);have y21:=cl (A2.cell 21);have z21:=cl (B2.cell 21);have y22:=cl (A2.cell 22);have z22:=cl (B2.cell 22);have lA2:=A2.lt;have lB2:=B2.lt)
   |((with_reducible refine(hW _ X2).mono ?_);rintro e v3 ⟨rfl,hb3⟩
     have c3:=c2.trans (hb3.mono c2.size);have X3:=X2.trans (hb3.mono X2.size);have A3:=A2.below hb3 A2.lt;have B3:=B2.below hb3 B2.lt;have y21:=cl (A3.cell 21);have z21:=cl (B3.cell 21);have y22:=cl (A3.cell 22);have z22:=cl (B3.cell 22);have lA3:=A3.lt;have lB3:=B3.lt)
   |((with_reducible refine(hI _ X3).mono ?_);rintro e v4 ⟨rfl,hb4⟩
     have c4:=c3.trans (hb4.mono c3.size);have X4:=X3.trans (hb4.mono X3.size);have A4:=A3.below hb4 A3.lt;have B4:=B3.below hb4 B3.lt;have y22:=cl (A4.cell 22);have z22:=cl (B4.cell 22);have lA4:=A4.lt;have lB4:=B4.lt)
   |((with_reducible refine(hG _ X4).mono ?_);rintro e v5 ⟨rfl,hb5⟩
     have c5:=c4.trans (hb5.mono c4.size)))
  all_goals
   go_meet
   case rel=>exact⟨congrArg Value.bool (by rw[H3.out];simp_all),by first|exact c5|exact c4|exact c3|exact c2|exact c1⟩
 obtain⟨rfl,hbc⟩:=hcut;have tV:=bA.below hbc lA;have bB2:=bB.below hbc lB;have hX2:=hX.trans (hbc.mono hX.size);clear I7 z18 BN Xd y20 z20 y21 z21 y22 z22;have y23:=cl (tV.cell 23);have z23:=cl (bB2.cell 23);have y24:=cl (tV.cell 24);have z24:=cl (bB2.cell 24);have y25:=cl (tV.cell 25);have z25:=cl (bB2.cell 25);have FK:=cl (tV.cell 26);have z26:=cl (bB2.cell 26);have y27:=cl (tV.cell 27);have z27:=cl (bB2.cell 27);have y28:=cl (tV.cell 28);have z28:=cl (bB2.cell 28);have y29:=cl (tV.cell 29);have z29:=cl (bB2.cell 29);have FM:=cl (tV.cell 30);have z30:=cl (bB2.cell 30);have y31:=cl (tV.cell 31);have z31:=cl (bB2.cell 31);have y32:=cl (tV.cell 32);have z32:=cl (bB2.cell 32);have FN:=cl (tV.cell 33);have z33:=cl (bB2.cell 33);have y34:=cl (tV.cell 34);have z34:=cl (bB2.cell 34);have FP:=cl (tV.cell 35);have z35:=cl (bB2.cell 35);have lA2:=tV.lt;have lB2:=bB2.lt;go_upto_region 4 with fail;cases x1<;>cases x2<;>cases x3
 all_goals
  go_wp2_with (first
   |((with_reducible refine(hR _ hX2).mono ?_);rintro e w8 ⟨rfl,hb8⟩
     have fU:=hX2.trans (hb8.mono hX2.size);have vH:=tV.below hb8 lA2;have vI:=bB2.below hb8 lB2;have lA3:=vH.lt;have lB3:=vI.lt;have y24:=cl (vH.cell 24);have z24:=cl (vI.cell 24);have y25:=cl (vH.cell 25);have z25:=cl (vI.cell 25);have FK:=cl (vH.cell 26);have z26:=cl (vI.cell 26);have y27:=cl (vH.cell 27);have z27:=cl (vI.cell 27);have y28:=cl (vH.cell 28);have z28:=cl (vI.cell 28);have y29:=cl (vH.cell 29);have z29:=cl (vI.cell 29);have FM:=cl (vH.cell 30);have z30:=cl (vI.cell 30);have y31:=cl (vH.cell 31);have z31:=cl (vI.cell 31);have y32:=cl (vH.cell 32);have z32:=cl (vI.cell 32);have FN:=cl (vH.cell 33);have z33:=cl (vI.cell 33);have y34:=cl (vH.cell 34);have z34:=cl (vI.cell 34);have FP:=cl (vH.cell 35);have z35:=cl (vI.cell 35))
   |((with_reducible refine(hS _ fU).mono ?_);rintro e w9 ⟨rfl,aB⟩))
 all_goals go_ret
 all_goals refine⟨aZ (by rw[H4.out];simp_all),by first|exact fU.trans (aB.mono fU.size)|exact fU|exact hX2⟩
def Rc.same (a b:Rc):Bool:=vT a b (a.st.same b.st)
set_option maxRecDepth 100000 in
set_option maxHeartbeats 4000000 in
theorem aiC (A A':Option Addr) (n n' c c':Nat) (l m:List Rc) (w:World) (h:Sl eX 29 w w.heap.size A n l) (h':Sl eX 29 w w.heap.size A' n' m) (hn:n<=maxLen) (hn':n'<=maxLen):
 Calls Tryz.prog 39 #[.slice A n c,.slice A' n' c'] w fun e w'=>e=.returned (.bool (aT Rc.same l m))/\Below w.heap.size w w':=by
 unfold maxLen at hn hn';have hl:=h.1;have hl':=h'.1;by_cases hne:n=n'
 case neg=>
  have hb0:((n:Int) !=(n':Int))=true:=ay;rw[yJ l m byOmega];clear hl hl' hne;go_enter Tryz.func39,Tryz.ntmps39;go_wp2;go_ret;exact⟨rfl,aC⟩
 subst hne;have hb0:((n:Int) !=(n:Int))=false:=aA;have hle:l.length<=n:=byOmega;have hge:n<=l.length:=byOmega;have hle':n<=m.length:=byOmega;have hle2:m.length<=n:=byOmega;clear hl hl';go_enter Tryz.func39,Tryz.ntmps39;go_wp2
 go_loopw [5] (fun i wr=>xF Rc.same l m w i wr) (fun i _=>n-(intOf i).toNat)
 case atStart=>exact⟨0,byOmega,rfl,rfl,aC⟩
 case round=>
  obtain⟨k,hk,rfl,hs,hb⟩:=hrel;have hzz:=hb.size;by_cases hlt:k<n
  · obtain⟨ad,b,o,cs,a,rfl,ha,hq,hbb,hlc,hrg,hR⟩:=((h.below eX.kept hb).more eX.kept hb.size).mid byOmega hlt;obtain⟨ad',b',o',cs',a',rfl,ha',hq',Dj,Dk,Dl,hR'⟩:=((h'.below eX.kept hb).more eX.kept hb.size).mid byOmega hlt;have hd1:decide ((k:Int)<(n:Int))=true:=ay;have hk0:(0:Int)<=(k:Int):=byOmega;have hk1:(k:Int)<(n:Int):=byOmega;obtain⟨g,rfl,ok,cp,i⟩:=hR;obtain⟨g',rfl,ok',cp',i'⟩:=hR';have hE:∀w',Below wr.heap.size wr w'->Calls Tryz.prog 78 #[.agg (a.vals g).toList.toArray,.agg (a'.vals g').toList.toArray] w' fun e w''=>e=.returned (.bool (a.same a'))/\Below w'.heap.size w' w'':=fun w' hb=>ab7 a a' g g' w' (dO.below ⟨i.rd,i.wr,i.ps,i.pr,i.hs,i.pn,i.na,i.nb,i.nc,i.nd,i.ne,i.nf⟩ hb) (dO.below ⟨i'.rd,i'.wr,i'.ps,i'.pr,i'.hs,i'.pn,i'.na,i'.nb,i'.nc,i'.nd,i'.ne,i'.nf⟩ hb)
    rw[xE ha ha']at hs;generalize Rc.same a a'=r at*;have HS:=au hs;clear hs;clear i i' ok ok' cp cp';clear ha ha';go_upto_region 6 with fail;refine wp_region_held_drew (S:=fun W'=>Below wr.heap.size wr W') ah (aC).drew (fun hHeld=>?_);have s0:Below wr.heap.size wr wr.drew:=(aC).drew;refine tc 0 17 ?_;go_frame;refine tc 1 18 ?_;go_frame;refine tc 2 19 ?_;go_frame;refine tl 3 20 rfl (yieldsIf_load_mid ah 69 _ rfl b o ah (a.vals g).toList _ (fun w hw j v hj=>(hw.cell (p:=⟨b,o+j,none⟩) hbb).trans (hrg j v hj)) Tryz.underlying69 rfl (by rw[hlc];kernel_rfl)) ?_;go_frame;refine tc 4 21 ?_;go_frame;refine tc 5 22 ?_;go_frame;refine tc 6 23 ?_;go_frame;refine tl 7 24 rfl (yieldsIf_load_mid ah 69 _ rfl b' o' ah (a'.vals g').toList _ (fun w hw j v hj=>(hw.cell (p:=⟨b',o'+j,none⟩) Dj).trans (Dl j v hj)) Tryz.underlying69 rfl (by rw[Dk];kernel_rfl)) ?_;go_frame;refine tr 8 rfl (fun K hK=>?_);go_simp
    (with_reducible refine(hE _ s0).mono ?_)
    rintro e w1 ⟨rfl,hb1⟩;have s1:=s0.trans (hb1.mono s0.size);refine hK.out _ _ s1 (fun hHeld=>?_);clear hK K
    try go_frame
    refine tc 9 26 ?_;go_frame;refine td ?_;have hY:=hb.trans (s1.mono hzz);cases r
    · have HF:RowKit.Hid (aT Rc.same l m=false):=(by have:=HS.out;rw[Bool.false_and]at this;exact this.symm);go_wp2;go_ret;rw[HF.out];exact⟨rfl,hY⟩
    · have HT:RowKit.Hid (aT Rc.same (l.drop (k+1)) (m.drop (k+1))=aT Rc.same l m):=(by have:=HS.out;rw[Bool.true_and]at this;exact this);go_wp2;go_roundw
      case rel=>exact⟨k+1,byOmega,by go_num,HT.out,hY⟩
      case measure=>simp[intOf];omega
  · have hd1:decide ((k:Int)<(n:Int))=false:=ay;have HS:=au (show aT Rc.same l m=true by rw[<-hs,bF byOmega,bF byOmega];rfl);clear hs;go_wp2;go_ret;rw[HS.out];exact⟨rfl,hb⟩
def Mg.same (a b:Mg):Bool:=a.zL b (aT Rc.same a.rc b.rc) (a.st.same b.st)
theorem Xe (a b:Mg) (h g:Hm) (w:World) (i:bH w w.heap.size a h) (j:bH w w.heap.size b g) (ch:h.caps) (cg:g.caps):
 Calls Tryz.prog 15 #[.agg (a.vals h),.agg (b.vals g)] w fun e w'=>e=.returned (.bool (a.same b))/\Below w.heap.size w w':=
 Xb a b h g _ _ w i j ch cg (fun w' hb=>aiC h.f.A g.f.A h.f.n g.f.n h.f.c g.f.c a.rc b.rc w' (i.up hb).rc (j.up hb).rc (Nat.le_trans ch.f.1 ch.f.2) (Nat.le_trans cg.f.1 cg.f.2))
  (fun w' hb=>SC a.st b.st h.g.A h.i.A g.g.A g.i.A h.g.n h.i.n g.g.n g.i.n h.g.c h.i.c g.g.c g.i.c w' (i.up hb).hs (i.up hb).pn (j.up hb).hs (j.up hb).pn (Nat.le_trans ch.g.1 ch.g.2) (Nat.le_trans ch.i.1 ch.i.2) (Nat.le_trans cg.g.1 cg.g.2) (Nat.le_trans cg.i.1 cg.i.2))
theorem aiD {l m:List ByteArray} (h:aT (fun x y=>x.toList==y.toList) l m=true):l=m:=rW (fun a b (h:(a.toList==b.toList)=true)=>zQ (by simpa using h)) _ _ h
theorem aiE {l m:List Int} (h:aT (fun x y=>x==y) l m=true):l=m:=rW (fun a b (h:(a==b)=true)=>by simpa using h) _ _ h
theorem Sn.same_eq {a b:Sn} (h:a.same b=true):a=b:=by
 unfold Sn.same at h;simp only[Bool.and_eq_true,decide_eq_true_eq,beq_iff_eq]at h;obtain⟨k,v,s⟩:=a;obtain⟨k',v',s'⟩:=b;have h1:=zQ h.1.1;have h2:=Vl.same_eq h.2;have h3:=h.1.2;simp only at h1 h2 h3;rw[h1,h2,h3]
theorem Mg.same_eq {a b:Mg} (h:a.same b=true):a=b:=by
 unfold Mg.same Mg.zL Mg.Df Mg.Dh Mg.Di at h;simp only[Bool.and_eq_true,decide_eq_true_eq,beq_iff_eq]at h;obtain⟨⟨⟨⟨⟨⟨⟨⟨⟨⟨h1,h2⟩,h3⟩,h4⟩,h5⟩,h6⟩,h7⟩,⟨⟨⟨h8,h9⟩,h10⟩,h11⟩,h12⟩,⟨⟨⟨g1,g2⟩,g3⟩,g4⟩,g5⟩,g6⟩,g7⟩:=h;obtain⟨k,fr,aG,t,rg,ep,cd,s,pv,cm,n,mx,ks,sn,ws,ps,rs,rc,st⟩:=a;obtain⟨k',fr',ajD,t',rg',ep',cd',s',pv',cm',n',mx',ks',sn',ws',ps',rs',rc',st'⟩:=b;have e1:=aiD g1;have e2:=rW (fun _ _=>Sn.same_eq) _ _ g2;have e3:=rW (fun _ _=>Wt.same_eq) _ _ g3;have e4:=aiE g4;have e5:=rW (fun _ _=>Rg.same_eq) _ _ g5;have e6:=rW (fun _ _=>ab8) _ _ g6;have e7:=dP.same_eq g7;simp only at*;subst h1 h2 h3 h4 h5 h6 h7 h8 h9 h10 h11 h12 e1 e2 e3 e4 e5 e6 e7;rfl
theorem Sn.self (a:Sn):a.same a=true:=by unfold Sn.same;simp[Vl.kL]
theorem Vn.kL (a:Vn):a.same a=true:=by unfold Vn.same;simp[Vl.kL]
theorem Hs.kL (a:Hs):a.same a=true:=by unfold Hs.same;simp[tX Vn.kL]
theorem Pn.kL (a:Pn):a.same a=true:=by unfold Pn.same;simp[tX Wt.kL,He]
theorem dP.kL (a:dP):a.same a=true:=by unfold dP.same;simp[tX Hs.kL,tX Pn.kL,Rg.kL]
theorem Rc.kL (r:Rc):r.same r=true:=by unfold Rc.same;rw[dP.kL];exact Xc r
theorem Mg.kL (m:Mg):m.same m=true:=by
 unfold Mg.same Mg.zL Mg.Df Mg.Dh Mg.Di;have h1:(m.cm==m.cm)=true:=by cases m.cm<;>rfl
 simp[He,JW,JX,tX Sn.self,tX Rg.kL,tX Rc.kL,dP.kL]
