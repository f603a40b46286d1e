/- The walks of the document's below and Halve; what lists weigh. -/
import Derived.Test.YtcalkfgibflbnaaGreatBabh
namespace Go.Proofs.YtcalkfgibflbnaaGreat
open Go.RowKit Fl
attribute [local go_sem] dJ
def bZ (n more most:Int):Int:=if most<more∨most<n then most+1 else n+more
set_option maxHeartbeats 400000 in
theorem qA (n more most:Int) (w:World) (h0:0<=n) (h1:0<=more) (h2:n<=1000000000000) (h3:more<=9223372036854775807) (h4:0<=most) (h5:most<=1000000000000):
 Calls Tryz.prog 50 #[.int .i64 n,.int .i64 more,.int .i64 most] w fun e w'=>e=.returned (.int .i64 (bZ n more most))/\w=w':=by
 by_cases ha:most<more
 · have hr:bZ n more most=most+1:=(by unfold bZ;rw[if_pos (.inl ha)]);have hb1:decide (most<more)=true:=(by simp[ha]);rw[hr];clear hr;go_enter Tryz.func50,Tryz.ntmps50;go_wp2;go_ret;exact⟨rfl,rfl⟩
 · have hb1:decide (most<more)=false:=ay;by_cases hb:most<n
   · have hr:bZ n more most=most+1:=(by unfold bZ;rw[if_pos (.inr hb)]);have hb2:decide (most<n)=true:=(by simp[hb]);rw[hr];clear hr;go_enter Tryz.func50,Tryz.ntmps50;go_wp2;go_ret;exact⟨rfl,rfl⟩
   · have hr:bZ n more most=n+more:=(by unfold bZ;rw[if_neg byOmega]);have hb2:decide (most<n)=false:=ay;rw[hr];clear hr;go_enter Tryz.func50,Tryz.ntmps50;go_wp2;go_ret;exact⟨rfl,rfl⟩
set_option maxHeartbeats 1000000
set_option maxRecDepth 100000
set_option linter.unusedVariables false
def Tx.less (a b:Tx):Bool:=if a.c≠b.c then decide (a.c<b.c) else if a.l≠b.l then decide (a.l<b.l) else decide (a.s<b.s)
theorem UC (a b:Tx) (w:World):Calls Tryz.prog 215 #[a.val,b.val] w fun e w'=>e=.returned (.bool (a.less b))/\Below w.heap.size w w':=by
 by_cases h1:a.c=b.c
 · by_cases h2:a.l=b.l
   · have hr:a.less b=decide (a.s<b.s):=(by unfold Tx.less;simp[h1,h2]);have hq1:(a.c !=b.c)=false:=(by simp[h1]);have hq2:(a.l !=b.l)=false:=(by simp[h2]);rw[hr];clear hr h1 h2;go_enter Tryz.func215,Tryz.ntmps215;go_wp2;go_ret;exact⟨rfl,by go_grown⟩
   · have hr:a.less b=decide (a.l<b.l):=(by unfold Tx.less;simp[h1,h2]);have hq1:(a.c !=b.c)=false:=(by simp[h1]);have hq2:(a.l !=b.l)=true:=(by simp[h2]);rw[hr];clear hr h1 h2;go_enter Tryz.func215,Tryz.ntmps215;go_wp2;go_ret;exact⟨rfl,by go_grown⟩
 · have hr:a.less b=decide (a.c<b.c):=(by unfold Tx.less;simp[h1]);have hq1:(a.c !=b.c)=true:=(by simp[h1]);rw[hr];clear hr h1;go_enter Tryz.func215,Tryz.ntmps215;go_wp2;go_ret;exact⟨rfl,by go_grown⟩
theorem NH (r:Rg) (k:ByteArray) (w:World) (hk:k.size<=maxLen):
 Calls Tryz.prog 122 #[r.val,.string k] w fun e w'=>e=.returned (.bool (jd r k))/\Below w.heap.size w w':=by
 have ho:=fun w=>X9 k w hk
 have hi:=fun w=>Yb r (ER k) w
 obtain⟨l2,c0,c1,c2,c3,-⟩:=(aj.new w 35 #[.int .i64 r.id,.int .i64 r.ep,.float .f64 r.lo,.float .f64 r.hi]).four;have hX:Below w.heap.size w (w.alloc (.cells #[.int .i64 r.id,.int .i64 r.ep,.float .f64 r.lo,.float .f64 r.hi] 35)):=aJ;go_enter Tryz.func122,Tryz.ntmps122;go_wp2;generalize (w.alloc (.cells #[.int .i64 r.id,.int .i64 r.ep,.float .f64 r.lo,.float .f64 r.hi] 35))=w0 at*
 go_region_held3 (fun w'=>w'.cell? ⟨w.heap.size,0,none⟩=some (.int .i64 r.id)/\w'.cell? ⟨w.heap.size,1,none⟩=some (.int .i64 r.ep)/\w'.cell? ⟨w.heap.size,2,none⟩=some (.float .f64 r.lo)/\w'.cell? ⟨w.heap.size,3,none⟩=some (.float .f64 r.hi))
  (first|exact⟨c0,c1,c2,c3⟩|exact⟨(hb1.cell (p:=⟨_,_,none⟩) l2).trans c0,(hb1.cell (p:=⟨_,_,none⟩) l2).trans c1,(hb1.cell (p:=⟨_,_,none⟩) l2).trans c2,(hb1.cell (p:=⟨_,_,none⟩) l2).trans c3⟩)
  (first|((with_reducible refine(ho _).mono ?_);rintro e w1 ⟨rfl,rfl⟩)|((with_reducible refine(hi _).mono ?_);rintro e w1 ⟨rfl,hw1⟩;have hb1:Below w0.heap.size w0 w1:=by rw[<-hw1];exact(aC).drew.alloc (Nat.le_refl _) _))
 go_wp2;go_ret;exact⟨rfl,hX.trans (hb1.mono hX.size)⟩
theorem aef (k:Nat):∀css:List (List Value),(∀cs∈css,cs.length=k)->css.flatten.length=css.length*k:=by
 intro css
 induction css with
 |nil=>intro _;simp
 |cons cs css ih=>
  intro h;rw[List.flatten_cons,aK,h cs (List.mem_cons_self ..),ih (fun c hc=>h c (List.mem_cons_of_mem _ hc)),List.length_cons,Nat.succ_mul];omega
theorem Sl.css {α:Type} {R:Rel α} {size n B:Nat} {w:World} {A:Option Addr} {l:List α} (hsz:0<size) (h:Sl R size w B A n l):
 ∃css:List (List Value),css.length=n/\(∀cs∈css,cs.length=size)/\Reads w B size A n css.flatten/\∀(i:Nat) (cs:List Value) (a:α),css[i]?=some cs->l[i]?=some a->R w B cs a:=by
 have hall:∀i,i<n->∃cs:List Value,cs.length=size/\(∃ad,A=some ad/\ad.block<B/\∀j u,cs[j]?=some u->w.cell? (ad.add (i*size+j))=some u)/\∀a,l[i]?=some a->R w B cs a:=fun i hi=>by
  obtain⟨ad,cs,a,e,hl,hb,hlen,hc,hr⟩:=h.at_ hi;exact⟨cs,hlen,⟨ad,e,hb,hc⟩,fun b hb=>by rw[hl]at hb;injection hb with hb;rw[<-hb];exact hr⟩
 obtain⟨f,hf⟩:=Go.Deep.choose_lt hall;have hget:∀(i:Nat) (cs:List Value),((List.range n).map f)[i]?=some cs->i<n/\cs=f i:=fun i cs hi=>by
  have hin:i<n:=by have:=(List.getElem?_eq_some_iff.1 hi).1;simpa using this
  rw[List.getElem?_map,List.getElem?_range hin]at hi;exact⟨hin,(Option.some.inj hi).symm⟩
 have hlen:∀cs∈(List.range n).map f,cs.length=size:=fun cs hcs=>by
  obtain⟨i,hi,rfl⟩:=List.mem_map.1 hcs;exact(hf i (List.mem_range.1 hi)).1
 refine⟨(List.range n).map f,aA,hlen,⟨by rw[aef size _ hlen];simp,fun hn=>?_⟩,fun i cs a h1 h2=>?_⟩
 · obtain⟨_,⟨ad,e,hb,_⟩,_⟩:=hf 0 hn;refine⟨ad,e,hb,fun j u hj=>?_⟩;have e2:j=j/size*size+j%size:=(Nat.div_add_mod' j size).symm;rw[e2,Qz size _ _ _ hlen (Nat.mod_lt _ hsz)]at hj;cases hl:((List.range n).map f)[j/size]? with
   |none=>rw[hl]at hj;cases hj
   |some cs=>
    rw[hl]at hj;obtain⟨hin,rfl⟩:=hget _ _ hl;obtain⟨_,⟨ad',e3,_,hc⟩,_⟩:=hf _ hin;rw[e]at e3;injection e3 with e3
    subst e3;rw[e2];exact hc _ u hj
 · obtain⟨hin,rfl⟩:=hget i cs h1;exact(hf i hin).2.2 a h2
def gB (g size:Nat) (v:Value):Nat->Bool:=fun k=>decide (k<size)&&decide (k≠g)&&decide (v.ownBlock≠some k)
theorem vX {g size k:Nat} {v:Value}:gB g size v k=true↔k<size/\k≠g/\v.ownBlock≠some k:=by
 unfold gB;simp only[Bool.and_eq_true,decide_eq_true_eq,and_assoc]
section
variable {α:Type} {R:Rel α} {E size base g:Nat} {w w':World} {v:Value} {l:List α}
theorem jH.NI (hR:R.Kept) (sD:R.ji) (h:jH R E size base (gB g w.heap.size v) w v l) (hg:g<base) (hs:w.heap.size<=w'.heap.size) (hb:∀k,k<w.heap.size->k≠g->w'.heap[k]?=w.heap[k]?):jH R E size base (gB g w'.heap.size v) w' v l:=by
 obtain⟨css,ho,hlen,hl,hc⟩:=h;refine⟨css,Qy ho (fun k h1 h2=>hb k h2 byOmega),hlen,hl,fun i cs a h1 h2=>((hc i cs a h1 h2).keep hR (fun k hk=>?_) hs).wider sD fun k hk=>?_⟩
 · rw[vX]at hk;exact hb k hk.1 hk.2.1
 · rw[vX]at*;exact⟨byOmega,hk.2⟩
theorem jH.F8 (hR:R.Kept) (sD:R.ji) (h:jH R E size base (gB g w.heap.size v) w v l) (hgb:g<base):∃xs,w.ownsRow base E size v l.length xs/\
 ∀(ds:List (List Value)) (es:List α) (w':World) (v':Value),ds.length=es.length->(∀cs∈ds,cs.length=size)->(∀(i:Nat) (cs:List Value) (a:α),ds[i]?=some cs->es[i]?=some a->jW R (gB g w.heap.size v) w cs a)->w'.ownsRow base E size v' (l.length+es.length) (xs++ds.flatten)->w.grownBy w' v.ownBlock->(v'.ownBlock=v.ownBlock∨v'.ownBlock=some w.heap.size)->
  jH R E size base (gB g w'.heap.size v') w' v' (l++es):=by
 obtain⟨css,ho,hlen,hl,hc⟩:=h;refine⟨css.flatten,ho,fun ds es w' v' hds hdl hin hown hg hat=>?_⟩;have hK:∀k,gB g w.heap.size v k=true->gB g w'.heap.size v' k=true:=fun k hk=>by
  rw[vX]at*;have:=hg.size;refine⟨byOmega,hk.2.1,fun e=>?_⟩;rcases hat with e2|e2
  · rw[e2]at e;exact hk.2.2 e
  · rw[e2]at e;injection e with e;omega
 have hB:∀k,gB g w.heap.size v k=true->w'.heap[k]?=w.heap[k]?:=fun k hk=>by
  rw[vX]at hk;exact hg.block k hk.1 (fun e=>hk.2.2 e.symm)
 have up:∀{cs:List Value} {a:α},jW R (gB g w.heap.size v) w cs a->jW R (gB g w'.heap.size v') w' cs a:=fun hi=>(hi.keep hR hB hg.size).wider sD hK
 refine⟨css++ds,?_,by simp[hlen,hds],?_,?_⟩
 · rw[aK,List.flatten_append];exact hown
 · intro c hc';rcases List.mem_append.1 hc' with h1|h1
   · exact hl c h1
   · exact hdl c h1
 · intro i c b h1 h2;by_cases hi:i<l.length
   · rw[List.getElem?_append_left byOmega]at h1 h2;exact up (hc i c b h1 h2)
   · rw[List.getElem?_append_right byOmega]at h1 h2;rw[hlen]at h1;exact up (hin _ c b h1 h2)
end
def wY (l:List Pn) (p:Pn):List Pn:=l.takeWhile (fun x=>x.t.less p.t)++p::l.dropWhile fun x=>x.t.less p.t
theorem aeg {l:List Pn} {p:Pn} {k:Nat} (hk:k<=l.length) (hall:∀x∈l.take k,x.t.less p.t=true) (hend:∀a,l[k]?=some a->a.t.less p.t=false):wY l p=l.take k++p::l.drop k:=by
 have h1:l.takeWhile (fun x=>x.t.less p.t)=l.take k/\l.dropWhile (fun x=>x.t.less p.t)=l.drop k:=by
  induction l generalizing k with
  |nil=>simp
  |cons a l ih=>
   cases k with
   |zero=>
    have:=hend a rfl;simp[this]
   |succ k=>
    have ha:=hall a aA;obtain⟨e1,e2⟩:=ih (k:=k) (by simpa using hk) (fun x hx=>hall x (by simp[hx])) (fun b hb=>hend b (by simpa using hb));simp[ha,e1,e2]
 unfold wY;rw[h1.1,h1.2]
theorem Reads.UD {w w':World} {B size n:Nat} {A:Option Addr} {xs:List Value} (h:Reads w B size A n xs) (hk:∀p u,p.block<B->w.cell? p=some u->w'.cell? p=some u):Reads w' B size A n xs:=
 ⟨h.1,fun hn=>by
  obtain⟨ad,e,hb,hc⟩:=h.2 hn;exact⟨ad,e,hb,fun j u hu=>hk _ _ (by rw[iW];exact hb) (hc j u hu)⟩⟩
theorem UE {w:World} {B:Nat} {cs:List Value} {p:Pn} (h:aP w B cs p):∀u∈cs,u.oneCell'=true:=by
 obtain⟨r,q,rfl,-,-,⟨A1,n1,c1,rfl,-⟩,⟨A2,n2,c2,rfl,-⟩⟩:=h;exact Ij p _ _ _ _ _ _
theorem UF (k:Nat):∀(css:List (List Value)) (m:Nat),(∀cs∈css,cs.length=k)->css.flatten.drop (m*k)=(css.drop m).flatten:=by
 intro css
 induction css with
 |nil=>intro m _;simp
 |cons cs css ih=>
  intro m h;cases m with
  |zero=>simp
  |succ m=>
   have h0:=h cs (List.mem_cons_self ..);have e:(m+1)*k=cs.length+m*k:=(by rw[Nat.succ_mul,h0];omega);rw[List.flatten_cons,e,List.drop_append,bF byOmega,List.nil_append,Nat.add_sub_cancel_left,List.drop_succ_cons];exact ih m fun c hc=>h c (List.mem_cons_of_mem _ hc)
def aeh (p:Pn) (A1 A2:Value) (g:Nat) (l:List Pn) (w:World) (v i:Value) (wr:World):Prop:=
 ∃k:Nat,k<=l.length/\i=.int .i64 (k:Int)/\(∀x∈l.take k,x.t.less p.t=true)/\jH aP 162 8 (w.heap.size+1) (gB g wr.heap.size v) wr v (l.take k)/\aj wr w.heap.size 162 (p.arr A1 A2)/\Below w.heap.size w wr
def aei (w:World) (g:Nat) (B1:Option Addr) (m1 d1:Nat) (L:Sp) (Hl:List Hs) (Pl:List Pn):Ending->World->Prop:=fun e w'=>∃B2 m2 d2,e=.returned (.tuple #[])/\ny w' g B1 m1 d1 B2 m2 d2 L Hl Pl/\w.grownBy w' (some g)
theorem ny.UG {w w9:World} {g:Nat} {B1 B2 A9:Option Addr} {m1 d1 m2 d2 n9 q9:Nat} {L:Sp} {Hl:List Hs} {Pl l9:List Pn} (h:ny w g B1 m1 d1 B2 m2 d2 L Hl Pl) (hb:Below w.heap.size w w9)
 (hblk:aj w9 g 241 #[.slice B1 m1 d1,.slice B2 m2 d2,.int .i64 L.w,.int .i64 L.l,.int .i64 L.n]) (hr:jH aP 162 8 (w.heap.size+1) (gB g w9.heap.size (.slice A9 n9 q9)) w9 (.slice A9 n9 q9) l9):
 ny (w9.setCell ⟨g,1,none⟩ (.slice A9 n9 q9)) g B1 m1 d1 A9 n9 q9 L Hl l9/\w.grownBy (w9.setCell ⟨g,1,none⟩ (.slice A9 n9 q9)) (some g):=by
 have hs:(w9.setCell ⟨g,1,none⟩ (.slice A9 n9 q9)).heap.size=w9.heap.size:=by simp[World.setCell]
 have hbl:∀k,k≠g->(w9.setCell ⟨g,1,none⟩ (.slice A9 n9 q9)).heap[k]?=w9.heap[k]?:=fun k hk=>Below.heap_setCell _ _ _ _ hk
 have hg:g<w.heap.size:=h.blk.lt;have hcell:∀p:Addr,(only (nb g) (w9.setCell ⟨g,1,none⟩ (.slice A9 n9 q9))).cell? p=(only (nb g) w9).cell? p:=fun p=>by
  cases hn:nb g p.block
  · rw[wP hn,wP hn]
  · rw[qE hn,qE hn];exact World.cell?_of_block (hbl _ (zi.1 hn))
 have hcell2:∀p:Addr,p.block<w.heap.size->(only (nb g) (w9.setCell ⟨g,1,none⟩ (.slice A9 n9 q9))).cell? p=(only (nb g) w).cell? p:=fun p hp=>by
  rw[hcell];cases hn:nb g p.block
  · rw[wP hn,wP hn]
  · rw[qE hn,qE hn];exact hb.cell hp
 obtain⟨A,n,c,e,h1,h2,h3⟩:=hr.held (K':=nb g) aP.mono byOmega (fun k hk=>zi.2 (vX.1 hk).2.1) (fun k hk=>zi.2 (by have:=(hr.lt k hk).1;omega));injection e with e1 e2 e3
 subst e1 e2 e3;refine⟨⟨hblk.fB 1 _,(h.hs.keep aQ.kept hcell2).more aQ.kept (by rw[hs];exact hb.size),?_,h1,h2,h.m1,Nat.le_trans h1 h2⟩,?_⟩
 · rw[hs];exact h3.keep aP.kept fun p _=>hcell p
 · exact⟨hb.os,hb.tape,hb.output,by rw[hs];exact hb.size,fun k hk hne=>by rw[hbl k (fun e=>hne (by rw[e]))];exact hb.block k hk⟩
set_option maxRecDepth 100000 in
set_option maxHeartbeats 8000000 in
theorem aej (g:Nat) (B1 B2:Option Addr) (m1 d1 m2 d2:Nat) (L:Sp) (Hl:List Hs) (Pl:List Pn) (p:Pn) (A1 A2:Option Addr) (n1 n2 c1 c2:Nat) (w:World) (h:ny w g B1 m1 d1 B2 m2 d2 L Hl Pl) (hP:Pl.length<=5000000) (hpt:p.t.ok) (hps:p.s.ok)
 (hr:Sl aO 1 w w.heap.size A1 n1 p.r) (hw:Sl aF 4 w w.heap.size A2 n2 p.w) (hn1:n1<=5000000) (hn2:n2<=5000000):
 Calls Tryz.prog 180 #[.pointer (some ⟨g,0,none⟩),p.val (.slice A1 n1 c1) (.slice A2 n2 c2)] w (aei w g B1 m1 d1 L Hl (wY Pl p)):=by
 obtain⟨i1,hi1,BF,BG,BH⟩:=info_parts QC;have hm:=h.m2;have ajk:=h.Sr;have hle2:=h.Sm;unfold maxLen at hm;have hl:=h.ps.1;have hge:m2<=Pl.length:=byOmega;have hle:Pl.length<=m2:=byOmega;have ajl:g<w.heap.size:=h.blk.lt;have hgw:g<w.heap.size+1:=byOmega;have HH0:=au h;clear hl;go_enter Tryz.func180,Tryz.ntmps180;go_wp2
 go_loopw [4,5] (fun v i wr=>aeh p (.slice A1 n1 c1) (.slice A2 n2 c2) g Pl w v i wr) (fun _ i _=>m2-(intOf i).toNat)
 case atStart=>exact⟨0,byOmega,rfl,fun x hx=>by simp at hx,jH.nil _,aj.new _ _ _,by go_grown⟩
 case round=>
  obtain⟨k,hk,rfl,hall,hrow,b3,hb⟩:=hrel;have hzz:=hb.size;have hst:=h.below hb;obtain⟨gl,k0,k1,-,-,-⟩:=hst.blk.zV;obtain⟨l3,y0,y1,y2,y3,y4,y5,y6,y7⟩:=b3.eight;obtain⟨Av,qv,rfl,ni,wV⟩:=hrow.form;have hlen:(Pl.take k).length<=5000000:=Nat.le_trans (List.length_take_le _ _) byOmega;by_cases hgo:∃a,Pl[k]?=some a/\a.t.less p.t=true
  · obtain⟨a,ha,hless⟩:=hgo;have hlt:k<m2:=(by have:=(List.getElem?_eq_some_iff.1 ha).1;omega);obtain⟨ad,a',A3,n3,c3,A4,n4,c4,rfl,ha',hbk,hxt,hxs,e0,e1,e2,e3,e4,e5,e6,e7,hn3,hc3,hs3,hn4,hc4,hs4⟩:=hst.pend.pn hlt;obtain rfl:a=a':=Option.some.inj (ha.symm.trans ha');obtain⟨Fq,a2,F9,n3',c3',UH,n4',c4',ex,ha2,hbk2,-,-,-,-,-,-,-,-,f6,f7,ajm,ajn,ks3,ajo,ajp,ks4⟩:=h.ps.pn hlt;injection ex with ex
    subst ex;obtain rfl:a=a2:=Option.some.inj (ha.symm.trans ha2);have f6:=(hb.cell (by exact hbk2)).trans (tZ f6).2;have f7:=(hb.cell (by exact hbk2)).trans (tZ f7).2;rw[e6]at f6;rw[e7]at f7;obtain⟨rfl,rfl,rfl⟩:A3=F9/\n3=n3'/\c3=c3':=(by simpa using f6);obtain⟨rfl,rfl,rfl⟩:A4=UH/\n4=n4'/\c4=c4':=(by simpa using f7);have hd1:decide ((k:Int)<(m2:Int))=true:=ay;have hk0:(0:Int)<=(k:Int):=byOmega;have hk1:(k:Int)<(m2:Int):=byOmega;have hL:=fun w=>UC a.t p.t w
    rw[hless]at hL;have hpn:aP (only (nb g) w) w.heap.size (a.cs (.slice A3 n3 c3) (.slice A4 n4 c4)) a:=⟨_,_,rfl,hxt,hxs,⟨_,_,_,rfl,hn3,hc3,ks3⟩,⟨_,_,_,rfl,hn4,hc4,ks4⟩⟩;have HS:=au (show Pl.take (k+1)=Pl.take k++[a] by rw[List.take_add_one,ha];rfl);have UJ:∀x∈Pl.take k++[a],x.t.less p.t=true:=fun x hx=>by
        rcases List.mem_append.1 hx with h1|h1
        · exact hall x h1
        · simp only[List.mem_cons,List.not_mem_nil,or_false]at h1;rw[h1];exact hless
    have HA:=au UJ;clear hall UJ ha ha' ha2 hless f6 f7;generalize Pl.take k=T1 at*;go_wp2
    go_region_held3 (fun w'=>w'.cell? ⟨g,1,none⟩=some (.slice (some ad) m2 d2)/\w'.cell? (ad.add (k*8))=some (.int .i64 a.t.c)/\w'.cell? ⟨(ad.add (k*8)).block,(ad.add (k*8)).off+1,none⟩=some (.int .i64 a.t.l)/\w'.cell? ⟨(ad.add (k*8)).block,(ad.add (k*8)).off+2,none⟩=some (.int .i64 a.t.s)/\w'.cell? ⟨w.heap.size,0,none⟩=some (.int .i64 p.t.c)/\w'.cell? ⟨w.heap.size,1,none⟩=some (.int .i64 p.t.l)/\w'.cell? ⟨w.heap.size,2,none⟩=some (.int .i64 p.t.s))
        (first|exact⟨k1,e0,e1,e2,y0,y1,y2⟩|exact⟨(aB.cell (by exact gl)).trans k1,(aB.cell (by exact hbk)).trans e0,(aB.cell (by exact hbk)).trans e1,(aB.cell (by exact hbk)).trans e2,(aB.cell (by exact l3)).trans y0,(aB.cell (by exact l3)).trans y1,(aB.cell (by exact l3)).trans y2⟩)
        (first|((with_reducible refine(hL _).mono ?_);rintro e w5 ⟨rfl,hb5⟩;have aB:Below wr.heap.size wr w5:=(Below.refl wr.heap.size wr).drew.trans hb5))
    have b35:=b3.below aB l3;have k15:=(aB.cell (p:=⟨g,1,none⟩) gl).trans k1;have E:=fun j (v:Value) (hc:wr.cell? ⟨(ad.add (k*8)).block,(ad.add (k*8)).off+j,none⟩=some v)=>(aB.cell (p:=⟨(ad.add (k*8)).block,(ad.add (k*8)).off+j,none⟩) hbk).trans hc
    have q0:=(aB.cell (by exact hbk)).trans e0;have q1:=E 1 _ e1;have q2:=E 2 _ e2;have q3:=E 3 _ e3;have q4:=E 4 _ e4;have q5:=E 5 _ e5;have q6:=E 6 _ e6;have q7:=E 7 _ e7;have gl5:g<w5.heap.size:=Nat.lt_of_lt_of_le gl aB.size;have hX:Below wr.heap.size wr (w5.alloc (.cells (a.arr (.slice A3 n3 c3) (.slice A4 n4 c4)) 162)):=aB.alloc aB.size _;have uZ:Below w.heap.size w (w5.alloc (.cells (a.arr (.slice A3 n3 c3) (.slice A4 n4 c4)) 162)):=hb.trans (hX.mono hzz);have Gf:=hrow.NI aP.kept aP.mono hgw (w':=w5.alloc (.cells (a.arr (.slice A3 n3 c3) (.slice A4 n4 c4)) 162)) hX.size (fun k hk _=>hX.block k hk);have yu:=hrow.lt;have hin:jW aP (gB g (w5.alloc (.cells (a.arr (.slice A3 n3 c3) (.slice A4 n4 c4)) 162)).heap.size (.slice Av T1.length qv)) (w5.alloc (.cells (a.arr (.slice A3 n3 c3) (.slice A4 n4 c4)) 162)) (a.cs (.slice A3 n3 c3) (.slice A4 n4 c4)) a:=
        aP.kept.2 _ _ _ _ _ (aP.mono _ _ _ _ _ hpn fun p u hp hc=>by
         obtain⟨hk,hc⟩:=tZ hc;rw[zi]at hk;rw[qE (vX.2 ⟨by have:=uZ.size;omega,hk,fun e=>by have:=(yu _ e).1;omega⟩)];exact(uZ.cell hp).trans hc) uZ.size
    obtain⟨xs,hown0,hpush⟩:=Gf.F8 aP.kept aP.mono hgw;have HI:=au hin;have Gg:=au hpush;have dF:=nK w5 162 (a.cs (.slice A3 n3 c3) (.slice A4 n4 c4)) 8 rfl;clear hpush hin e0 e1 e2 e3 e4 e5 e6 e7 k0 k1 y0 y1 y2 y3 y4 y5 y6 y7 E hpn;have h5z:=aB.size;go_wp2_with (first
        |(at_builtin
          refine iI _ rfl (.tmp 26) (.tmp 34) _ rfl (w.heap.size+1) 162 i1 _ 8 96 Tryz.underlying37 hi1 BF BG BH rfl byOmega (.slice Av T1.length qv) _ xs aI hown0 _ (some ⟨w5.heap.size,0,none⟩) 1 1 (a.cs (.slice A3 n3 c3) (.slice A4 n4 c4)) aI
           dF (Ij a _ _ _ _ _ _) dX byOmega ay ?_
          intro v3 w3 hown3 hg3 wJ;obtain⟨A9,q9,rfl,NJ,UK⟩:=fP hown3))
    have hrn:=Gg.out [a.cs (.slice A3 n3 c3) (.slice A4 n4 c4)] [a] w3 _ rfl (fun cs hcs=>by simp only[List.mem_cons,List.not_mem_nil,or_false]at hcs;rw[hcs];rfl) (fun i cs b h1 h2=>by
        cases i with
        |zero=>simp only[getZero,Option.some.injEq]at h1 h2;subst h1 h2;exact HI.out
        |succ i=>simp at h1) (by simpa using hown3) hg3 wJ
    have hbw:=uZ.grown hg3 uZ.size (fun q hq=>by have:=(hown0.lt q hq).1;omega);have b37:=(b35.alloc (.cells (a.arr (.slice A3 n3 c3) (.slice A4 n4 c4)) 162)).grown hg3 (fun e=>by have:=(yu _ e.symm).1;omega);go_roundw
    case rel=>
        refine⟨k+1,byOmega,by go_num,?_,?_,b37,hbw⟩
        · rw[HS.out];exact HA.out
        · rw[HS.out];exact hrn
    case measure=>simp[intOf];omega
  · have hend:∀a,Pl[k]?=some a->a.t.less p.t=false:=fun a ha=>by
        cases hx:a.t.less p.t
        · rfl
        · exact absurd ⟨a,ha,hx⟩ hgo
    have HP:=au (aeg hk hall hend);have HD:=au (show Pl.drop k=Pl.drop k from rfl);clear hgo hall;generalize Pl.take k=T1 at*;by_cases hlt:k<m2
    · obtain⟨ad,a,A3,n3,c3,A4,n4,c4,rfl,ha',hbk,hxt,hxs,e0,e1,e2,e3,e4,e5,e6,e7,hn3,hc3,hs3,hn4,hc4,hs4⟩:=hst.pend.pn hlt;have hd1:decide ((k:Int)<(m2:Int))=true:=ay;have hk0:(0:Int)<=(k:Int):=byOmega;have hk1:(k:Int)<(m2:Int):=byOmega;have hL:=fun w=>UC a.t p.t w
      rw[hend a ha']at hL;clear ha' hend;go_wp2
      go_region_held3 (fun w'=>w'.cell? ⟨g,1,none⟩=some (.slice (some ad) m2 d2)/\w'.cell? (ad.add (k*8))=some (.int .i64 a.t.c)/\w'.cell? ⟨(ad.add (k*8)).block,(ad.add (k*8)).off+1,none⟩=some (.int .i64 a.t.l)/\w'.cell? ⟨(ad.add (k*8)).block,(ad.add (k*8)).off+2,none⟩=some (.int .i64 a.t.s)/\w'.cell? ⟨w.heap.size,0,none⟩=some (.int .i64 p.t.c)/\w'.cell? ⟨w.heap.size,1,none⟩=some (.int .i64 p.t.l)/\w'.cell? ⟨w.heap.size,2,none⟩=some (.int .i64 p.t.s))
       (first|exact⟨k1,e0,e1,e2,y0,y1,y2⟩|exact⟨(aB.cell (by exact gl)).trans k1,(aB.cell (by exact hbk)).trans e0,(aB.cell (by exact hbk)).trans e1,(aB.cell (by exact hbk)).trans e2,(aB.cell (by exact l3)).trans y0,(aB.cell (by exact l3)).trans y1,(aB.cell (by exact l3)).trans y2⟩)
       (first|((with_reducible refine(hL _).mono ?_);rintro e w5 ⟨rfl,hb5⟩;have aB:Below wr.heap.size wr w5:=(Below.refl wr.heap.size wr).drew.trans hb5))
      have hbW:=aB;obtain⟨WW,wZ⟩:∃WW,WW=w5:=⟨_,rfl⟩;rw[<-wZ]at hbW ⊢;clear wZ aB hb5;have lI:=b3.below hbW l3;obtain⟨Lj,y0,y1,y2,y3,y4,y5,y6,y7⟩:=lI.eight;have zC:Below w.heap.size w WW:=hb.trans (hbW.mono hzz);have NK:=hbW.size;have NM:=au (fun k hk=>Sl.oO hr k hk:∀k∈p.r,k.size<=140737488351232);have NP:=au (fun k hk=>Sl.oO hw k hk:∀k∈p.w,Wt.ok k);go_wp2_with (go_at_call 100;fail);refine(Rw p A1 A2 n1 n2 c1 c2 WW ((hr.below aO.kept zC).more aO.kept zC.size) ((hw.below aF.kept zC).more aF.kept zC.size) hn1 hn2).mono ?_;rintro e w6 ⟨r1,u1,rfl,o1,o2,hb6⟩;obtain⟨D1,f1,rfl,hf1,aek⟩:=o1.form;obtain⟨D2,f2,rfl,hf2,ael⟩:=o2.form;have DW:=hb6.size;have tq:Below w6.heap.size w6 (w6.alloc (.cells (p.arr (.slice D1 p.r.length f1) (.slice D2 p.w.length f2)) 162)):=(aC).alloc (Nat.le_refl _) _;have hX:Below wr.heap.size wr (w6.alloc (.cells (p.arr (.slice D1 p.r.length f1) (.slice D2 p.w.length f2)) 162)):=(hbW.trans (hb6.mono NK)).trans (tq.mono byOmega);have uZ:Below w.heap.size w (w6.alloc (.cells (p.arr (.slice D1 p.r.length f1) (.slice D2 p.w.length f2)) 162)):=hb.trans (hX.mono hzz);have Gf:=hrow.NI aP.kept aP.mono hgw (w':=w6.alloc (.cells (p.arr (.slice D1 p.r.length f1) (.slice D2 p.w.length f2)) 162)) hX.size (fun k hk _=>hX.block k hk);have yu:=hrow.lt;have Cj:=World.ownsRow.lt o1;have CB:=World.ownsRow.lt o2;have vY:(w6.alloc (.cells (p.arr (.slice D1 p.r.length f1) (.slice D2 p.w.length f2)) 162)).heap.size=w6.heap.size+1:=aA;have hin:jW aP (gB g (w6.alloc (.cells (p.arr (.slice D1 p.r.length f1) (.slice D2 p.w.length f2)) 162)).heap.size (.slice Av T1.length qv)) (w6.alloc (.cells (p.arr (.slice D1 p.r.length f1) (.slice D2 p.w.length f2)) 162)) (p.cs (.slice D1 p.r.length f1) (.slice D2 p.w.length f2)) p:=
       ⟨_,_,rfl,hpt,hps,bV.Ik byOmega AU (o1.below tq) NM.out (fun k e=>vX.2 ⟨by have:=Cj k e;omega,by have:=Cj k e;omega,fun e9=>by have:=Cj k e;have:=yu k e9;omega⟩),
        bV.Ik byOmega Hr (o2.below tq) NP.out (fun k e=>vX.2 ⟨by have:=CB k e;omega,by have:=CB k e;omega,fun e9=>by have:=CB k e;have:=yu k e9;omega⟩)⟩
      have HI:=au hin;obtain⟨xs,hown0,hpush⟩:=Gf.F8 aP.kept aP.mono hgw;have Gg:=au hpush;have NQ:=au vY;have dF:=nK w6 162 (p.cs (.slice D1 p.r.length f1) (.slice D2 p.w.length f2)) 8 rfl;have NR:=((h.below uZ).blk);clear hpush hin vY y0 y1 y2 y3 y4 y5 y6 y7 k0 k1;have hkm:(k:Int)<=(m2:Int):=byOmega;have hkn:(0:Int)<=(k:Int):=byOmega;obtain⟨Gh,hcl,hcsz,hcr,hcp⟩:=h.ps.css byOmega;have NS:=au hcr;have Gi:=au hcp;have Gj:=au hcsz;clear hcr hcp hcsz;go_upto_region 7 with (first
       |(at_builtin
         refine iI _ rfl (.tmp 38) (.tmp 41) _ rfl (w.heap.size+1) 162 i1 _ 8 96 Tryz.underlying37 hi1 BF BG BH rfl byOmega (.slice Av T1.length qv) _ xs aI hown0 _ (some ⟨w6.heap.size,0,none⟩) 1 1 (p.cs (.slice D1 p.r.length f1) (.slice D2 p.w.length f2)) aI
            dF (Ij p _ _ _ _ _ _) dX byOmega ay ?_
         intro v7 w7 Gl zD NT))
      have zF:=Gg.out [p.cs (.slice D1 p.r.length f1) (.slice D2 p.w.length f2)] [p] w7 _ rfl (fun cs hcs=>by simp only[List.mem_cons,List.not_mem_nil,or_false]at hcs;rw[hcs];rfl) (fun i cs b h1 h2=>by
       cases i with
       |zero=>simp only[getZero,Option.some.injEq]at h1 h2;subst h1 h2;exact HI.out
       |succ i=>simp at h1) (by simpa using Gl) zD NT
      have hgb:=NR.grown zD (fun e=>by have:=(yu _ e.symm).1;omega);have hw7:=uZ.grown zD uZ.size (fun q hq=>by have:=(hown0.lt q hq).1;omega);have hcell:∀q u,q.block<w.heap.size->(only (nb g) w).cell? q=some u->w7.cell? q=some u:=fun q u hq hc=>(hw7.cell hq).trans (tZ hc).2
      have z1:=hgb.cell 1;simp only[List.getElem?_toArray,List.getElem?_cons_succ,getZero]at z1;have zf:=hgb.frozen 1;have zl:=hgb.lt;have xg:=zD.size;rw[World.size_alloc]at xg;have vY:=NQ.out;obtain⟨T2,hT2⟩:∃T2,T2=T1++[p]:=⟨_,rfl⟩;rw[<-hT2]at zF;have HT2:=au hT2;have aem:T2.length<=5000001:=(by rw[hT2];simp;omega);clear hT2;obtain⟨A7,q7,rfl,hq7,aen⟩:=zF.form;have CG:=zF.lt;obtain⟨NU,NV,Gm⟩:=zF.F8 aP.kept aP.mono hgw;have NW:=au Gm;have En:=(NS.out.UD hcell).cut (k:=k) (cap:=d2) byOmega hle2;rw[UF 8 _ _ Gj.out]at En;have hone:∀u∈(Gh.drop k).flatten,u.oneCell'=true:=fun u hu=>by
       obtain⟨cs,hcs,hu⟩:=List.mem_flatten.1 hu;obtain⟨i,hi⟩:=List.getElem?_of_mem (List.mem_of_mem_drop hcs);have hil:i<Pl.length:=(by have:=(List.getElem?_eq_some_iff.1 hi).1;omega);exact UE (Gi.out i cs _ hi (List.getElem?_eq_getElem hil)) u hu
      have NY:=au hone;have Gn:=hw7.size;have aeo:w.heap.size+1<=w7.heap.size:=byOmega;clear Gm Gl hown0 hone;rw[if_neg (show ¬d2=k by omega)]at En;go_wp2_with (first
       |(at_builtin
         refine iI _ rfl (.tmp 44) (.tmp 50) _ rfl (w.heap.size+1) 162 i1 _ 8 96 Tryz.underlying37 hi1 BF BG BH rfl byOmega (.slice A7 T2.length q7) _ NU aI NV _ _ (m2-k) (d2-k) _ aI En NY.out dX byOmega byOmega ?_;intro v9 w9 Gp rX Gq;have hgc:=hgb.grown rX (fun e=>by have:=(CG _ e.symm).1;omega);have z9:=hgc.cell 1;simp only[List.getElem?_toArray,List.getElem?_cons_succ,getZero]at z9;have f9:=hgc.frozen 1;have l9:=hgc.lt;obtain⟨A9,q9,rfl,NJ,UK⟩:=fP Gp))
      all_goals go_end0
      all_goals
       have NZ:=NW.out (Gh.drop k) (Pl.drop k) w9 (.slice A9 (T2.length+(m2-k)) q9) (by simp only[List.length_drop];omega) (fun cs hcs=>Gj.out cs (List.mem_of_mem_drop hcs)) (fun i cs b h1 h2=>by
        rw[List.getElem?_drop]at h1 h2;exact aP.kept.2 _ _ _ _ _ (aP.mono _ _ _ _ _ (Gi.out _ cs b h1 h2) fun q u hq hc=>by
         obtain⟨hk9,hc⟩:=tZ hc;rw[zi]at hk9;rw[qE (vX.2 ⟨byOmega,hk9,fun e=>by have:=(CG _ e).1;omega⟩)];exact(hw7.cell hq).trans hc) Gn) (by rw[show (Pl.drop k).length=m2-k by simp only[List.length_drop];omega];exact Gp) rX Gq
       obtain⟨o1,o2⟩:=HH0.out.UG (hw7.grown rX Gn (fun q hq=>by have:=(CG q hq).1;omega)) hgc NZ;rw[HP.out];refine⟨A9,T2.length+(m2-k),q9,rfl,?_,o2⟩;have e9:T2++Pl.drop k=T1++p::Pl.drop k:=(by rw[HT2.out,List.append_assoc];rfl);rw[<-e9];exact o1
    · have hd1:decide ((k:Int)<(m2:Int))=false:=ay;go_wp2
      go_quiet (fail)
      have hbW:Below wr.heap.size wr (wr.drewN nq):=bD nq;obtain⟨WW,wZ⟩:∃WW,WW=wr.drewN nq:=⟨_,rfl⟩;rw[<-wZ]at hbW ⊢;clear wZ;have lI:=b3.below hbW l3;obtain⟨Lj,y0,y1,y2,y3,y4,y5,y6,y7⟩:=lI.eight;have zC:Below w.heap.size w WW:=hb.trans (hbW.mono hzz);have NK:=hbW.size;have NM:=au (fun k hk=>Sl.oO hr k hk:∀k∈p.r,k.size<=140737488351232);have NP:=au (fun k hk=>Sl.oO hw k hk:∀k∈p.w,Wt.ok k);go_wp2_with (go_at_call 100;fail);refine(Rw p A1 A2 n1 n2 c1 c2 WW ((hr.below aO.kept zC).more aO.kept zC.size) ((hw.below aF.kept zC).more aF.kept zC.size) hn1 hn2).mono ?_;rintro e w6 ⟨r1,u1,rfl,o1,o2,hb6⟩;obtain⟨D1,f1,rfl,hf1,aek⟩:=o1.form;obtain⟨D2,f2,rfl,hf2,ael⟩:=o2.form;have DW:=hb6.size;have tq:Below w6.heap.size w6 (w6.alloc (.cells (p.arr (.slice D1 p.r.length f1) (.slice D2 p.w.length f2)) 162)):=(aC).alloc (Nat.le_refl _) _;have hX:Below wr.heap.size wr (w6.alloc (.cells (p.arr (.slice D1 p.r.length f1) (.slice D2 p.w.length f2)) 162)):=(hbW.trans (hb6.mono NK)).trans (tq.mono byOmega);have uZ:Below w.heap.size w (w6.alloc (.cells (p.arr (.slice D1 p.r.length f1) (.slice D2 p.w.length f2)) 162)):=hb.trans (hX.mono hzz);have Gf:=hrow.NI aP.kept aP.mono hgw (w':=w6.alloc (.cells (p.arr (.slice D1 p.r.length f1) (.slice D2 p.w.length f2)) 162)) hX.size (fun k hk _=>hX.block k hk);have yu:=hrow.lt;have Cj:=World.ownsRow.lt o1;have CB:=World.ownsRow.lt o2;have vY:(w6.alloc (.cells (p.arr (.slice D1 p.r.length f1) (.slice D2 p.w.length f2)) 162)).heap.size=w6.heap.size+1:=aA;have hin:jW aP (gB g (w6.alloc (.cells (p.arr (.slice D1 p.r.length f1) (.slice D2 p.w.length f2)) 162)).heap.size (.slice Av T1.length qv)) (w6.alloc (.cells (p.arr (.slice D1 p.r.length f1) (.slice D2 p.w.length f2)) 162)) (p.cs (.slice D1 p.r.length f1) (.slice D2 p.w.length f2)) p:=
       ⟨_,_,rfl,hpt,hps,bV.Ik byOmega AU (o1.below tq) NM.out (fun k e=>vX.2 ⟨by have:=Cj k e;omega,by have:=Cj k e;omega,fun e9=>by have:=Cj k e;have:=yu k e9;omega⟩),
        bV.Ik byOmega Hr (o2.below tq) NP.out (fun k e=>vX.2 ⟨by have:=CB k e;omega,by have:=CB k e;omega,fun e9=>by have:=CB k e;have:=yu k e9;omega⟩)⟩
      have HI:=au hin;obtain⟨xs,hown0,hpush⟩:=Gf.F8 aP.kept aP.mono hgw;have Gg:=au hpush;have NQ:=au vY;have dF:=nK w6 162 (p.cs (.slice D1 p.r.length f1) (.slice D2 p.w.length f2)) 8 rfl;have NR:=((h.below uZ).blk);clear hpush hin vY y0 y1 y2 y3 y4 y5 y6 y7 k0 k1;have hkm:(k:Int)<=(m2:Int):=byOmega;have hkn:(0:Int)<=(k:Int):=byOmega;obtain⟨Gh,hcl,hcsz,hcr,hcp⟩:=h.ps.css byOmega;have NS:=au hcr;have Gi:=au hcp;have Gj:=au hcsz;clear hcr hcp hcsz;go_upto_region 7 with (first
       |(at_builtin
         refine iI _ rfl (.tmp 38) (.tmp 41) _ rfl (w.heap.size+1) 162 i1 _ 8 96 Tryz.underlying37 hi1 BF BG BH rfl byOmega (.slice Av T1.length qv) _ xs aI hown0 _ (some ⟨w6.heap.size,0,none⟩) 1 1 (p.cs (.slice D1 p.r.length f1) (.slice D2 p.w.length f2)) aI
          dF (Ij p _ _ _ _ _ _) dX byOmega ay ?_
         intro v7 w7 Gl zD NT))
      have zF:=Gg.out [p.cs (.slice D1 p.r.length f1) (.slice D2 p.w.length f2)] [p] w7 _ rfl (fun cs hcs=>by simp only[List.mem_cons,List.not_mem_nil,or_false]at hcs;rw[hcs];rfl) (fun i cs b h1 h2=>by
       cases i with
       |zero=>simp only[getZero,Option.some.injEq]at h1 h2;subst h1 h2;exact HI.out
       |succ i=>simp at h1) (by simpa using Gl) zD NT
      have hgb:=NR.grown zD (fun e=>by have:=(yu _ e.symm).1;omega);have hw7:=uZ.grown zD uZ.size (fun q hq=>by have:=(hown0.lt q hq).1;omega);have hcell:∀q u,q.block<w.heap.size->(only (nb g) w).cell? q=some u->w7.cell? q=some u:=fun q u hq hc=>(hw7.cell hq).trans (tZ hc).2
      have z1:=hgb.cell 1;simp only[List.getElem?_toArray,List.getElem?_cons_succ,getZero]at z1;have zf:=hgb.frozen 1;have zl:=hgb.lt;have xg:=zD.size;rw[World.size_alloc]at xg;have vY:=NQ.out;obtain⟨T2,hT2⟩:∃T2,T2=T1++[p]:=⟨_,rfl⟩;rw[<-hT2]at zF;have HT2:=au hT2;have aem:T2.length<=5000001:=(by rw[hT2];simp;omega);clear hT2;obtain⟨A7,q7,rfl,hq7,aen⟩:=zF.form;have CG:=zF.lt;obtain⟨NU,NV,Gm⟩:=zF.F8 aP.kept aP.mono hgw;have NW:=au Gm;have En:=(NS.out.UD hcell).cut (k:=k) (cap:=d2) byOmega hle2;rw[UF 8 _ _ Gj.out]at En;have hone:∀u∈(Gh.drop k).flatten,u.oneCell'=true:=fun u hu=>by
       obtain⟨cs,hcs,hu⟩:=List.mem_flatten.1 hu;obtain⟨i,hi⟩:=List.getElem?_of_mem (List.mem_of_mem_drop hcs);have hil:i<Pl.length:=(by have:=(List.getElem?_eq_some_iff.1 hi).1;omega);exact UE (Gi.out i cs _ hi (List.getElem?_eq_getElem hil)) u hu
      have NY:=au hone;have Gn:=hw7.size;have aeo:w.heap.size+1<=w7.heap.size:=byOmega;clear Gm Gl hown0 hone
      skip
      go_wp2_with (first
       |(at_builtin
         refine iI _ rfl (.tmp 44) (.tmp 50) _ rfl (w.heap.size+1) 162 i1 _ 8 96 Tryz.underlying37 hi1 BF BG BH rfl byOmega (.slice A7 T2.length q7) _ NU aI NV _ _ (m2-k) (d2-k) _ aI En NY.out dX byOmega byOmega ?_;intro v9 w9 Gp rX Gq;have hgc:=hgb.grown rX (fun e=>by have:=(CG _ e.symm).1;omega);have z9:=hgc.cell 1;simp only[List.getElem?_toArray,List.getElem?_cons_succ,getZero]at z9;have f9:=hgc.frozen 1;have l9:=hgc.lt;obtain⟨A9,q9,rfl,NJ,UK⟩:=fP Gp))
      all_goals go_end0
      all_goals
       have NZ:=NW.out (Gh.drop k) (Pl.drop k) w9 (.slice A9 (T2.length+(m2-k)) q9) (by simp only[List.length_drop];omega) (fun cs hcs=>Gj.out cs (List.mem_of_mem_drop hcs)) (fun i cs b h1 h2=>by
        rw[List.getElem?_drop]at h1 h2;exact aP.kept.2 _ _ _ _ _ (aP.mono _ _ _ _ _ (Gi.out _ cs b h1 h2) fun q u hq hc=>by
         obtain⟨hk9,hc⟩:=tZ hc;rw[zi]at hk9;rw[qE (vX.2 ⟨byOmega,hk9,fun e=>by have:=(CG _ e).1;omega⟩)];exact(hw7.cell hq).trans hc) Gn) (by rw[show (Pl.drop k).length=m2-k by simp only[List.length_drop];omega];exact Gp) rX Gq
       obtain⟨o1,o2⟩:=HH0.out.UG (hw7.grown rX Gn (fun q hq=>by have:=(CG q hq).1;omega)) hgc NZ;rw[HP.out];refine⟨A9,T2.length+(m2-k),q9,rfl,?_,o2⟩;have e9:T2++Pl.drop k=T1++p::Pl.drop k:=(by rw[HT2.out,List.append_assoc];rfl);rw[<-e9];exact o1
end Go.Proofs.YtcalkfgibflbnaaGreat
namespace Go.Proofs.YtcalkfgibflbnaaGreat
open Go.RowKit Fl
theorem Gs {P:Program} {f:FuncId} {args:Array Value} {v:Value} {w:World} {Q q:Nat} (h:Calls P f args (w.drewN (Q+q)) fun e w'=>e=.returned v/\w.drewN (Q+q)=w'):
 Calls P f args (w.drewN (Q+q)) fun e w'=>e=.returned v/\∃m,w'=w.drewN (Q+m):=h.mono fun _ _ ⟨he,hw⟩=>⟨he,q,hw.symm⟩
theorem fO {n more most:Int} (h0:0<=n) (h1:0<=more) (h2:0<=most):0<=bZ n more most/\bZ n more most<=2*most+1/\(bZ n more most<=most->bZ n more most=n+more):=by
 unfold bZ;split<;>omega
def stepW (most n:Int) (a:Wt):Int:=bZ (bZ n (1+(a.key.size:Int)) most) (a.v.t.size:Int) most
def dS (most:Int):Int->List Wt->Int
 |n,[]=>n
 |n,a::l=>if n<=most then dS most (stepW most n a) l else n
theorem N7 {most n:Int} {l:List Wt} {k:Nat} {a:Wt} (h:l[k]?=some a) (hn:n<=most):dS most n (l.drop k)=dS most (stepW most n a) (l.drop (k+1)):=by
 have h1:=List.getElem?_eq_some_iff.1 h;rw[List.drop_eq_getElem_cons h1.1,h1.2];show (if _ then _ else _)=_;rw[if_pos hn]
theorem Ee {most n:Int} (l:List Wt) (hn:most<n):dS most n l=n:=by
 cases l with
 |nil=>rfl
 |cons a l=>show (if _ then _ else _)=_;rw[if_neg byOmega]
theorem aep:∀(l:List Wt) (most n:Int),0<=n->0<=most->dS most n l<=most->n+(l.map fun a=>1+(a.key.size:Int)+(a.v.t.size:Int)).sum<=most:=by
 intro l
 induction l with
 |nil=>intro most n h0 h1 h;simpa [dS] using h
 |cons a l ih=>
  intro most n h0 h1 h;by_cases hn:n<=most
  · have e:dS most n (a::l)=dS most (stepW most n a) l:=(by show (if _ then _ else _)=_;rw[if_pos hn]);rw[e]at h;have h2:0<=bZ n (1+(a.key.size:Int)) most:=(fO h0 byOmega h1).1;have h3:0<=stepW most n a:=by
        unfold stepW;unfold bZ at h2 ⊢;split<;>split at h2<;>omega
    have h4:=ih most _ h3 h1 h;have hs:0<=(l.map fun a=>1+(a.key.size:Int)+(a.v.t.size:Int)).sum:=by
        clear h4 h e ih
        induction l with
        |nil=>simp
        |cons b l ih=>simp only[List.map_cons,List.sum_cons];omega
    have h5:stepW most n a=n+(1+(a.key.size:Int))+(a.v.t.size:Int):=by
        have:stepW most n a<=most:=byOmega;unfold stepW bZ at this ⊢;split at this<;>split<;>omega
    simp only[List.map_cons,List.sum_cons];omega
  · rw[Ee _ byOmega]at h;omega
def UL (most:Int) (l:List Wt) (w:World) (s i:Value) (wr:World):Prop:=
 ∃(k q:Nat) (n:Int),k<=l.length/\i=.int .i64 (k:Int)/\s=.int .i64 n/\0<=n/\n<=2*most+1/\dS most n (l.drop k)=dS most 0 l/\w.drewN q=wr
set_option maxRecDepth 100000 in
set_option maxHeartbeats 4000000 in
theorem N8 (A:Option Addr) (n c:Nat) (l:List Wt) (most:Int) (w:World) (h:Sl aF 4 w w.heap.size A n l) (hn:n<=maxLen) (hm0:0<=most) (hm1:most<=5000000):
 Calls Tryz.prog 53 #[.slice A n c,.int .i64 most] w fun e w'=>e=.returned (.int .i64 (dS most 0 l))/\∃q,w.drewN q=w':=by
 unfold maxLen at hn;have hl:=h.1;have hle:l.length<=n:=byOmega;have hge:n<=l.length:=byOmega;clear hl;go_enter Tryz.func53,Tryz.ntmps53;go_wp2
 go_loopw [5,6] (fun s i wr=>UL most l w s i wr) (fun _ i _=>n-(intOf i).toNat)
 case atStart=>exact⟨0,0,0,byOmega,rfl,rfl,byOmega,byOmega,rfl,rfl⟩
 case round=>
  obtain⟨k,q,s,hk,rfl,rfl,hs0,hs1,hs,rfl⟩:=hrel;by_cases hlt:k<n
  · have hd1:decide ((k:Int)<(n:Int))=true:=ay;by_cases hst:s<=most
    · obtain⟨ad,a,rfl,ha,hbk,hok,c0,c1,c2,c3⟩:=h.wt hlt;have hd2:decide (s<=most)=true:=(by simp[hst]);have hk0:(0:Int)<=(k:Int):=byOmega;have hk1:(k:Int)<(n:Int):=byOmega;have hsz:=hok.1;have hsz2:=hok.2.2.2;rw[N7 ha hst]at hs;have HS:=au hs;have hr1:=fO (n:=s) (more:=1+(a.key.size:Int)) (most:=most) hs0 byOmega hm0;have hr2:0<=stepW most s a/\stepW most s a<=2*most+1:=by
       unfold stepW;have h9:bZ s (1+(a.key.size:Int)) most<=most+1∨bZ s (1+(a.key.size:Int)) most<=2*most+1:=.inr hr1.2.1;have h8:=hr1.1;have h7:bZ s (1+(a.key.size:Int)) most<=2*most+1:=hr1.2.1;generalize bZ s (1+(a.key.size:Int)) most=z at*;unfold bZ;split<;>omega
      have hwr:IntKind.i64.wrap (1+(a.key.size:Int))=1+(a.key.size:Int):=(by rw[IntKind.wrap_i64];omega);have hr3:=hr1.1;have hr4:=hr1.2.1;have wL:=hr2.1;have zY:=hr2.2;clear hr1 hr2;clear ha hs hok;go_wp2
      go_quiet (first
       |(go_at_call 50;exact Gs (qA _ _ _ _ byOmega byOmega byOmega byOmega hm0 byOmega)))
      go_wp2;go_roundw
      case rel=>exact⟨k+1,q+nq,stepW most s a,byOmega,by go_num,rfl,wL,zY,HS.out,rfl⟩
      case measure=>simp[intOf];omega
    · have hd2:decide (s<=most)=false:=ay;rw[Ee _ byOmega]at hs;have HS:=au hs;clear hs;go_wp2;go_ret;rw[<-HS.out];exact⟨rfl,q,rfl⟩
  · have hd1:decide ((k:Int)<(n:Int))=false:=ay;rw[bF byOmega]at hs;have HS:RowKit.Hid (s=dS most 0 l):=au hs;clear hs;go_wp2;go_ret;rw[<-HS.out];exact⟨rfl,q,rfl⟩
set_option maxHeartbeats 4000000
set_option maxRecDepth 100000
set_option linter.unusedVariables false
def gV {α:Type} (f:α->Int->Int) (most:Int):Int->List α->Int
 |n,[]=>n
 |n,a::l=>if n<=most then gV f most (f a n) l else n
section
variable {α:Type} {f:α->Int->Int} {most n:Int} {l:List α}
theorem Gt {k:Nat} {a:α} (h:l[k]?=some a) (hn:n<=most):gV f most n (l.drop k)=gV f most (f a n) (l.drop (k+1)):=by
 have h1:=List.getElem?_eq_some_iff.1 h;rw[List.drop_eq_getElem_cons h1.1,h1.2];show (if _ then _ else _)=_;rw[if_pos hn]
theorem zx (l:List α) (hn:most<n):gV f most n l=n:=by
 cases l with
 |nil=>rfl
 |cons a l=>show (if _ then _ else _)=_;rw[if_neg byOmega]
theorem Gu (hf:∀a∈l,∀n,0<=n->n<=most->0<=f a n/\f a n<=2*most+1) (h0:0<=n) (h1:n<=2*most+1):0<=gV f most n l/\gV f most n l<=2*most+1:=by
 induction l generalizing n with
 |nil=>exact⟨h0,h1⟩
 |cons a l ih=>
  by_cases hn:n<=most
  · have e:gV f most n (a::l)=gV f most (f a n) l:=(by show (if _ then _ else _)=_;rw[if_pos hn]);rw[e];have:=hf a (List.mem_cons_self ..) n h0 hn;exact ih (fun b hb=>hf b (List.mem_cons_of_mem _ hb)) this.1 this.2
  · rw[zx _ byOmega];exact⟨h0,h1⟩
theorem Gv (P:α->Prop) (hf:∀a n,0<=n->n<=most->0<=f a n/\(f a n<=most->n+1<=f a n/\P a)) (h0:0<=n) (h:gV f most n l<=most):n+(l.length:Int)<=most/\∀a∈l,P a:=by
 induction l generalizing n with
 |nil=>exact⟨by simpa [gV] using h,aA⟩
 |cons a l ih=>
  by_cases hn:n<=most
  · have e:gV f most n (a::l)=gV f most (f a n) l:=(by show (if _ then _ else _)=_;rw[if_pos hn]);rw[e]at h;obtain⟨h1,h2⟩:=hf a n h0 hn;obtain⟨h3,h4⟩:=ih h1 h;obtain⟨h5,h6⟩:=h2 byOmega;refine⟨by rw[List.length_cons];omega,fun b hb=>?_⟩;rcases List.mem_cons.1 hb with rfl|hb
    · exact h6
    · exact h4 b hb
  · rw[zx _ byOmega]at h;omega
end
def stepT (most:Int) (a:ByteArray) (n:Int):Int:=bZ n (1+(a.size:Int)) most
def jE (most:Int) (l:List ByteArray):Int:=gV (stepT most) most 0 l
def pG (most:Int) (a:Vn) (n:Int):Int:=bZ n (1+(a.v.t.size:Int)) most
def uq (most:Int) (h:Hs) (n:Int):Int:=gV (pG most) most (bZ n (1+(h.key.size:Int)) most) h.vs
def uw (most:Int) (l:List Hs):Int:=gV (uq most) most 0 l
def uY (most:Int) (p:Pn) (n:Int):Int:=bZ (bZ n (1+jE most p.r) most) (dS most 0 p.w) most
def uy (most:Int) (l:List Pn):Int:=gV (uY most) most 0 l
def pI (most:Int) (s:dP):Int:=bZ (uw most s.h) (uy most s.p) most
section
variable {most n:Int}
theorem Ef (a:ByteArray) (hm:0<=most) (h0:0<=n):0<=stepT most a n/\stepT most a n<=2*most+1/\(stepT most a n<=most->n+1<=stepT most a n):=by
 have:=fO (n:=n) (more:=1+(a.size:Int)) (most:=most) h0 byOmega hm;unfold stepT;exact⟨this.1,this.2.1,fun h=>by rw[this.2.2 h];omega⟩
theorem Cc (a:Vn) (hm:0<=most) (h0:0<=n):0<=pG most a n/\pG most a n<=2*most+1/\(pG most a n<=most->n+1<=pG most a n):=by
 have:=fO (n:=n) (more:=1+(a.v.t.size:Int)) (most:=most) h0 byOmega hm;unfold pG;exact⟨this.1,this.2.1,fun h=>by rw[this.2.2 h];omega⟩
theorem Ak (l:List ByteArray) (hm:0<=most):0<=jE most l/\jE most l<=2*most+1:=Gu (fun a _ n h0 _=>⟨(Ef a hm h0).1,(Ef a hm h0).2.1⟩) byOmega byOmega
theorem UM {l:List ByteArray} (hm:0<=most) (h:jE most l<=most):(l.length:Int)<=most:=by
 have:=(Gv (f:=stepT most) (fun _=>True) (fun a n h0 _=>⟨(Ef a hm h0).1,fun h=>⟨(Ef a hm h0).2.2 h,trivial⟩⟩) byOmega h).1;omega
theorem Eh (a:Hs) (hm:0<=most) (h0:0<=n):0<=uq most a n/\uq most a n<=2*most+1/\(uq most a n<=most->n+1<=uq most a n/\(a.vs.length:Int)<=most):=by
 have h2:=fO (n:=n) (more:=1+(a.key.size:Int)) (most:=most) h0 byOmega hm;have h3:=Gu (f:=pG most) (most:=most) (n:=bZ n (1+(a.key.size:Int)) most) (l:=a.vs) (fun a _ n h0 _=>⟨(Cc a hm h0).1,(Cc a hm h0).2.1⟩) h2.1 h2.2.1;unfold uq;refine⟨h3.1,h3.2,fun h=>?_⟩;have h4:=(Gv (f:=pG most) (fun _=>True) (fun a n h0 _=>⟨(Cc a hm h0).1,fun h=>⟨(Cc a hm h0).2.2 h,trivial⟩⟩) h2.1 h).1;have h5:=h2.2.2 byOmega;have h6:bZ n (1+(a.key.size:Int)) most<=gV (pG most) most (bZ n (1+(a.key.size:Int)) most) a.vs:=by
  have up:∀(l:List Vn) (n:Int),0<=n->gV (pG most) most n l<=most->n<=gV (pG most) most n l:=by
   intro l
   induction l with
   |nil=>intro n _ _;exact Int.le_refl _
   |cons b l ih=>
    intro n hn hl;by_cases hle:n<=most
    · have e:gV (pG most) most n (b::l)=gV (pG most) most (pG most b n) l:=(by show (if _ then _ else _)=_;rw[if_pos hle]);rw[e]at hl ⊢;have h7:=Cc b hm hn;have h8:=ih _ h7.1 hl;have h9:=h7.2.2 byOmega;omega
    · rw[zx _ byOmega];exact Int.le_refl _
  exact up _ _ h2.1 h
 omega
theorem Jg (l:List Hs) (hm:0<=most):0<=uw most l/\uw most l<=2*most+1:=Gu (fun a _ n h0 _=>⟨(Eh a hm h0).1,(Eh a hm h0).2.1⟩) byOmega byOmega
theorem N9 {l:List Wt} (hm:0<=most) (h:dS most 0 l<=most):(l.length:Int)<=most:=by
 have h1:=aep l most 0 byOmega hm h;have h2:(l.length:Int)<=(l.map fun a=>1+(a.key.size:Int)+(a.v.t.size:Int)).sum:=by
  clear h1 h
  induction l with
  |nil=>simp
  |cons a l ih=>simp only[List.map_cons,List.sum_cons,List.length_cons];omega
 omega
theorem vW:∀(l:List Wt) (n:Int),0<=most->0<=n->n<=2*most+1->0<=dS most n l/\dS most n l<=2*most+1:=by
 intro l
 induction l with
 |nil=>intro n _ h0 h1;exact⟨h0,h1⟩
 |cons a l ih=>
  intro n hm h0 h1;by_cases hle:n<=most
  · have e:dS most n (a::l)=dS most (stepW most n a) l:=(by show (if _ then _ else _)=_;rw[if_pos hle]);rw[e];have h2:=fO (n:=n) (more:=1+(a.key.size:Int)) (most:=most) h0 byOmega hm;have h3:=fO (n:=bZ n (1+(a.key.size:Int)) most) (more:=(a.v.t.size:Int)) (most:=most) h2.1 byOmega hm;exact ih _ hm h3.1 h3.2.1
  · rw[Ee _ byOmega];exact⟨h0,h1⟩
theorem Ei (p:Pn) (hm:0<=most) (h0:0<=n):0<=uY most p n/\uY most p n<=2*most+1/\(uY most p n<=most->n+1<=uY most p n/\(p.r.length:Int)<=most/\(p.w.length:Int)<=most):=by
 have h1:=Ak p.r hm;have h2:=vW p.w 0 hm byOmega byOmega;have h3:=fO (n:=n) (more:=1+jE most p.r) (most:=most) h0 byOmega hm;have h4:=fO (n:=bZ n (1+jE most p.r) most) (more:=dS most 0 p.w) (most:=most) h3.1 h2.1 hm;unfold uY;refine⟨h4.1,h4.2.1,fun h=>?_⟩;have h5:=h4.2.2 h;have h6:=h3.2.2 byOmega;exact⟨byOmega,UM hm byOmega,N9 hm byOmega⟩
theorem Jh (l:List Pn) (hm:0<=most):0<=uy most l/\uy most l<=2*most+1:=Gu (fun a _ n h0 _=>⟨(Ei a hm h0).1,(Ei a hm h0).2.1⟩) byOmega byOmega
theorem UN {s:dP} (hm:0<=most) (hm1:most<=5000000) (h:pI most s<=most):tY s.h/\uK s.p:=by
 unfold pI at h;have h1:=Jg s.h hm;have h2:=Jh s.p hm;have h3:=(fO (n:=uw most s.h) (more:=uy most s.p) (most:=most) h1.1 h2.1 hm).2.2 h;have h4:uw most s.h<=most:=byOmega;have h5:uy most s.p<=most:=byOmega;obtain⟨a1,a2⟩:=Gv (f:=uq most) (fun a=>(a.vs.length:Int)<=most) (fun a n h0 _=>⟨(Eh a hm h0).1,(Eh a hm h0).2.2⟩) (n:=0) byOmega h4;obtain⟨b1,b2⟩:=Gv (f:=uY most) (fun p=>(p.r.length:Int)<=most/\(p.w.length:Int)<=most) (fun a n h0 _=>⟨(Ei a hm h0).1,(Ei a hm h0).2.2⟩) (n:=0) byOmega h5;exact⟨⟨byOmega,fun x hx=>by have:=a2 x hx;omega⟩,⟨byOmega,fun p hp=>by have:=b2 p hp;omega⟩⟩
end
def Oa {α:Type} (f:α->Int->Int) (most:Int) (l:List α) (n0:Int) (w:World) (s i:Value) (wr:World):Prop:=
 ∃(k:Nat) (n:Int),k<=l.length/\i=.int .i64 (k:Int)/\s=.int .i64 n/\0<=n/\n<=2*most+1/\gV f most n (l.drop k)=gV f most n0 l/\w=wr
def aer {α:Type} (f:α->Int->Int) (most:Int) (l:List α) (n0:Int) (w:World) (s i:Value) (wr:World):Prop:=
 ∃(k q:Nat) (n:Int),k<=l.length/\i=.int .i64 (k:Int)/\s=.int .i64 n/\0<=n/\n<=2*most+1/\gV f most n (l.drop k)=gV f most n0 l/\w.drewN q=wr
theorem Ob (A:Option Addr) (n c:Nat) (l:List ByteArray) (most:Int) (w:World) (h:Sl aO 1 w w.heap.size A n l) (hn:n<=maxLen) (hm0:0<=most) (hm1:most<=5000000):
 Calls Tryz.prog 51 #[.slice A n c,.int .i64 most] w fun e w'=>e=.returned (.int .i64 (jE most l))/\w=w':=by
 unfold maxLen at hn;have hl:=h.1;have hle:l.length<=n:=byOmega;have hge:n<=l.length:=byOmega;clear hl;go_enter Tryz.func51,Tryz.ntmps51;go_wp2
 go_loopw [5,6] (fun s i wr=>Oa (stepT most) most l 0 w s i wr) (fun _ i _=>n-(intOf i).toNat)
 case atStart=>exact⟨0,0,byOmega,rfl,rfl,byOmega,byOmega,rfl,rfl⟩
 case round=>
  obtain⟨k,s,hk,rfl,rfl,hs0,hs1,hs,rfl⟩:=hrel;by_cases hlt:k<n
  · have hd1:decide ((k:Int)<(n:Int))=true:=ay;by_cases hst:s<=most
    · obtain⟨ad,a,rfl,ha,hbk,hok,c0⟩:=h.ky hlt;have hd2:decide (s<=most)=true:=(by simp[hst]);have hk0:(0:Int)<=(k:Int):=byOmega;have hk1:(k:Int)<(n:Int):=byOmega;rw[Gt ha hst]at hs;have HS:=au hs;have hr1:=Ef (n:=s) (most:=most) a hm0 hs0;have hr2:=hr1.1;have hr3:=hr1.2.1;have hwr:IntKind.i64.wrap (1+(a.size:Int))=1+(a.size:Int):=(by rw[IntKind.wrap_i64];omega);clear hr1 ha hs;go_wp2_with ((with_reducible refine(qA _ _ _ _ byOmega byOmega byOmega byOmega hm0 byOmega).mono ?_);rintro e w1 ⟨rfl,rfl⟩);go_roundw
      case rel=>exact⟨k+1,stepT most a s,byOmega,by go_num,rfl,hr2,hr3,HS.out,rfl⟩
      case measure=>simp[intOf];omega
    · have hd2:decide (s<=most)=false:=ay;rw[zx _ byOmega]at hs;have HS:=au (show s=jE most l from hs);clear hs;go_wp2;go_ret;rw[<-HS.out];exact⟨rfl,rfl⟩
  · have hd1:decide ((k:Int)<(n:Int))=false:=ay;rw[bF byOmega]at hs;have HS:RowKit.Hid (s=jE most l):=au hs;clear hs;go_wp2;go_ret;rw[<-HS.out];exact⟨rfl,rfl⟩
def aes (most:Int) (l:List Vn) (m0:Int) (w:World) (s i:Value) (wr:World):Prop:=Oa (pG most) most l m0 w s i wr
theorem aeu (A:Option Addr) (n c:Nat) (l:List Hs) (most:Int) (w:World) (h:Sl aQ 2 w w.heap.size A n l) (hn:n<=maxLen) (hm0:0<=most) (hm1:most<=5000000):
 Calls Tryz.prog 98 #[.slice A n c,.int .i64 most] w fun e w'=>e=.returned (.int .i64 (uw most l))/\w=w':=by
 unfold maxLen at hn;have hl:=h.1;have hle:l.length<=n:=byOmega;have hge:n<=l.length:=byOmega;clear hl;go_enter Tryz.func98,Tryz.ntmps98;go_wp2
 go_loopw [5,6] (fun s i wr=>Oa (uq most) most l 0 w s i wr) (fun _ i _=>n-(intOf i).toNat)
 case atStart=>exact⟨0,0,byOmega,rfl,rfl,byOmega,byOmega,rfl,rfl⟩
 case round=>
  obtain⟨k,s,hk,rfl,rfl,hs0,hs1,hs,rfl⟩:=hrel;by_cases hlt:k<n
  · have hd1:decide ((k:Int)<(n:Int))=true:=ay;by_cases hst:s<=most
    · obtain⟨ad,a,A',n',c',rfl,ha,hbk,hok,c0,c1,hn',hc',hsv⟩:=h.hs hlt;have hd2:decide (s<=most)=true:=(by simp[hst]);have hk0:(0:Int)<=(k:Int):=byOmega;have hk1:(k:Int)<(n:Int):=byOmega;unfold maxLen at hc';have hl':=hsv.1;have hle':a.vs.length<=n':=byOmega;have hge':n'<=a.vs.length:=byOmega;clear hl';rw[Gt ha hst]at hs;have HS:=au hs;have hr1:=fO (n:=s) (more:=1+(a.key.size:Int)) (most:=most) hs0 byOmega hm0;have hr2:=hr1.1;have hr3:=hr1.2.1;have hst1:=Eh (n:=s) a hm0 hs0;have hst2:=hst1.1;have hst3:=hst1.2.1;have hwr:IntKind.i64.wrap (1+(a.key.size:Int))=1+(a.key.size:Int):=(by rw[IntKind.wrap_i64];omega);have HE:=au (show uq most a s=gV (pG most) most (bZ s (1+(a.key.size:Int)) most) a.vs from rfl);clear hr1 ha hs hst1;go_wp2_with ((with_reducible refine(qA _ _ _ _ byOmega byOmega byOmega byOmega hm0 byOmega).mono ?_);rintro e w1 ⟨rfl,rfl⟩);generalize bZ s (1+(a.key.size:Int)) most=m0 at*;generalize uq most a s=m1 at*
      go_loopw [5,7] (fun s i wr=>aes most a.vs m0 w s i wr) (fun _ i _=>n'-(intOf i).toNat)
      case atStart=>exact⟨0,m0,byOmega,rfl,rfl,hr2,hr3,rfl,rfl⟩
      case round=>
       obtain⟨k2,s2,hk2,rfl,rfl,Oc,UO,hs2,rfl⟩:=hrel;by_cases hlt2:k2<n'
       · have hd3:decide ((k2:Int)<(n':Int))=true:=ay;by_cases hst2:s2<=most
         · obtain⟨Fq,v,rfl,hv,hbk2,hok2,e0,e1,e2,e3,e4,e5⟩:=hsv.vn hlt2;have hd4:decide (s2<=most)=true:=(by simp[hst2]);have ajq:(0:Int)<=(k2:Int):=byOmega;have hk12:(k2:Int)<(n':Int):=byOmega;rw[Gt hv hst2]at hs2;have HS2:=au hs2;have hsz:=hok2.2.2.2;have hr1:=Cc (n:=s2) (most:=most) v hm0 Oc;have hr4:=hr1.1;have wL:=hr1.2.1;have hwr2:IntKind.i64.wrap (1+(v.v.t.size:Int))=1+(v.v.t.size:Int):=(by rw[IntKind.wrap_i64];omega);clear hr1 hv hs2 hwr;go_wp2_with ((with_reducible refine(qA _ _ _ _ byOmega byOmega byOmega byOmega hm0 byOmega).mono ?_);rintro e w1 ⟨rfl,rfl⟩);go_roundw
           case rel=>exact⟨k2+1,pG most v s2,byOmega,by go_num,rfl,hr4,wL,HS2.out,rfl⟩
           case measure=>simp[intOf];omega
         · have hd4:decide (s2<=most)=false:=ay;rw[zx _ byOmega]at hs2;have HS2:=au (show m1=s2 by rw[HE.out,hs2]);clear hs2 hwr;go_wp2;go_roundw
           case rel=>exact⟨k+1,s2,byOmega,by go_num,rfl,Oc,UO,by rw[<-HS2.out];exact HS.out,rfl⟩
           case measure=>simp[intOf];omega
       · have hd3:decide ((k2:Int)<(n':Int))=false:=ay;rw[bF byOmega]at hs2;have HS2:=au (show m1=s2 by rw[HE.out,<-hs2];rfl);clear hs2 hwr;go_wp2;go_roundw
         case rel=>exact⟨k+1,s2,byOmega,by go_num,rfl,Oc,UO,by rw[<-HS2.out];exact HS.out,rfl⟩
         case measure=>simp[intOf];omega
    · have hd2:decide (s<=most)=false:=ay;rw[zx _ byOmega]at hs;have HS:=au (show s=uw most l from hs);clear hs;go_wp2;go_ret;rw[<-HS.out];exact⟨rfl,rfl⟩
  · have hd1:decide ((k:Int)<(n:Int))=false:=ay;rw[bF byOmega]at hs;have HS:RowKit.Hid (s=uw most l):=au hs;clear hs;go_wp2;go_ret;rw[<-HS.out];exact⟨rfl,rfl⟩
theorem aev {P:Program} {f:FuncId} {args:Array Value} {v:Value} {w:World} {Q q:Nat} (h:Calls P f args (w.drewN (Q+q)) fun e w'=>e=.returned v/\∃m,(w.drewN (Q+q)).drewN m=w'):
 Calls P f args (w.drewN (Q+q)) fun e w'=>e=.returned v/\∃m,w'=w.drewN (Q+m):=h.mono fun _ _ ⟨he,m,hw⟩=>⟨he,q+m,by rw[<-hw,World.drewN_drewN,Nat.add_assoc]⟩
theorem Oe {P:Program} {f:FuncId} {args:Array Value} {v:Value} {w:World} {q:Nat} (h:Calls P f args (w.drewN q) fun e w'=>e=.returned v/\∃m,(w.drewN q).drewN m=w'):
 Calls P f args (w.drewN q) fun e w'=>e=.returned v/\∃m,w'=w.drewN m:=h.mono fun _ _ ⟨he,m,hw⟩=>⟨he,q+m,by rw[<-hw,World.drewN_drewN]⟩
theorem aew (A:Option Addr) (n c:Nat) (l:List Pn) (most:Int) (w:World) (h:Sl aP 8 w w.heap.size A n l) (hn:n<=maxLen) (hm0:0<=most) (hm1:most<=5000000):
 Calls Tryz.prog 99 #[.slice A n c,.int .i64 most] w fun e w'=>e=.returned (.int .i64 (uy most l))/\∃q,w.drewN q=w':=by
 unfold maxLen at hn;have hl:=h.1;have hle:l.length<=n:=byOmega;have hge:n<=l.length:=byOmega;clear hl;go_enter Tryz.func99,Tryz.ntmps99;go_wp2
 go_loopw [5,6] (fun s i wr=>aer (uY most) most l 0 w s i wr) (fun _ i _=>n-(intOf i).toNat)
 case atStart=>exact⟨0,0,0,byOmega,rfl,rfl,byOmega,byOmega,rfl,rfl⟩
 case round=>
  obtain⟨k,q,s,hk,rfl,rfl,hs0,hs1,hs,rfl⟩:=hrel;by_cases hlt:k<n
  · have hd1:decide ((k:Int)<(n:Int))=true:=ay;by_cases hst:s<=most
    · obtain⟨ad,p,A1,n1,c1,A2,n2,c2,rfl,ha,hbk,hpt,hps,d0,d1,d2,d3,d4,d5,d6,d7,hn1,hc1,hs1',hn2,hc2,hs2'⟩:=h.pn hlt;have hd2:decide (s<=most)=true:=(by simp[hst]);have hk0:(0:Int)<=(k:Int):=byOmega;have hk1:(k:Int)<(n:Int):=byOmega;rw[Gt ha hst]at hs;have HS:=au hs;have hT:=Ak p.r hm0;have hT1:=hT.1;have hT2:=hT.2;have hW:=vW p.w 0 hm0 byOmega byOmega;have hW1:=hW.1;have hW2:=hW.2;have hF:=fO (n:=s) (more:=1+jE most p.r) (most:=most) hs0 byOmega hm0;have hF1:=hF.1;have hF2:=hF.2.1;have hr1:=Ei (n:=s) p hm0 hs0;have hr2:=hr1.1;have hr3:=hr1.2.1;have hwr:IntKind.i64.wrap (1+jE most p.r)=1+jE most p.r:=(by rw[IntKind.wrap_i64];omega);clear hr1 ha hs hT hW hF;go_wp2
      go_quiet (first
       |(go_at_call 51;exact Gs (Ob A1 n1 c1 p.r most _ hs1' byOmega hm0 hm1))
       |(go_at_call 53;exact aev (N8 A2 n2 c2 p.w most _ hs2' byOmega hm0 hm1))
       |(go_at_call 50;exact Gs (qA _ _ _ _ byOmega byOmega byOmega byOmega hm0 byOmega)))
      go_wp2;go_roundw
      case rel=>exact⟨k+1,q+nq,uY most p s,byOmega,by go_num,rfl,hr2,hr3,HS.out,rfl⟩
      case measure=>simp[intOf];omega
    · have hd2:decide (s<=most)=false:=ay;rw[zx _ byOmega]at hs;have HS:=au (show s=uy most l from hs);clear hs;go_wp2;go_ret;rw[<-HS.out];exact⟨rfl,q,rfl⟩
  · have hd1:decide ((k:Int)<(n:Int))=false:=ay;rw[bF byOmega]at hs;have HS:RowKit.Hid (s=uy most l):=au hs;clear hs;go_wp2;go_ret;rw[<-HS.out];exact⟨rfl,q,rfl⟩
theorem Og (s:dP) (A1 A2:Option Addr) (n1 n2 c1 c2:Nat) (most:Int) (w:World) (h1:Sl aQ 2 w w.heap.size A1 n1 s.h) (h2:Sl aP 8 w w.heap.size A2 n2 s.p) (hn1:n1<=maxLen) (hn2:n2<=maxLen) (hm0:0<=most) (hm1:most<=5000000):
 Calls Tryz.prog 55 #[.agg (s.arr (.slice A1 n1 c1) (.slice A2 n2 c2)),.int .i64 most] w fun e w'=>e=.returned (.int .i64 (pI most s))/\Below w.heap.size w w':=by
 have hX:Below w.heap.size w (w.alloc (.cells (s.arr (.slice A1 n1 c1) (.slice A2 n2 c2)) 39)):=aJ;have k1:=(h1.below aQ.kept hX).more aQ.kept hX.size;have k2:=(h2.below aP.kept hX).more aP.kept hX.size;have hH:=Jg s.h hm0;have hH1:=hH.1;have hH2:=hH.2;have hP:=Jh s.p hm0;have hP1:=hP.1;have hP2:=hP.2;clear hH hP;go_enter Tryz.func55,Tryz.ntmps55;go_wp2
 go_quiet (first
  |(go_at_call 98;exact nJ (aeu A1 n1 c1 s.h most _ k1 hn1 hm0 hm1))
  |(go_at_call 99;exact Oe (aew A2 n2 c2 s.p most _ k2 hn2 hm0 hm1))
  |(go_at_call 50;exact nJ (qA _ _ _ _ byOmega byOmega byOmega byOmega hm0 byOmega)))
 go_wp2;go_ret;exact⟨rfl,hX.trans ((bD _).mono hX.size)⟩
