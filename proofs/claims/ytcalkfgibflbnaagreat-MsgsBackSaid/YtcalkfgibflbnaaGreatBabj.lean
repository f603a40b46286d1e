/- The walk of the document's Load. -/
import Derived.Test.YtcalkfgibflbnaaGreatBabi
namespace Go.Proofs.YtcalkfgibflbnaaGreat
set_option linter.unusedVariables false
open Go.RowKit Fl
attribute [local go_sem] dJ
theorem aj.two {w:World} {g:Nat} {t:TypeId} {a b:Value} (h:aj w g t #[a,b]):g<w.heap.size/\w.cell? ⟨g,0,none⟩=some a/\w.cell? ⟨g,1,none⟩=some b:=⟨h.lt,h.cell 0,h.cell 1⟩
theorem UQ (a b:Sp):decide (0<a.cmp b)=decide (b.cmp a<0):=by
 rw[decide_eq_decide,Sp.MO,Sp.MO];unfold oP
 repeat' split
 all_goals omega
def Js (p:Option ByteArray) (h:Hs):Bool:=gY h.key&&(match p with|none=>true|some q=> !leB h.key q)&& !decide (h.vs.length=0)&&jG ⟨0,0,0⟩ h.vs
def qB:Option ByteArray->List Hs->Bool
 |_,[]=>true
 |p,h::l=>Js p h&&qB (some h.key) l
def vZ (l:List Hs):Nat->Option ByteArray
 |0=>none
 |k+1=>(l[k]?).map (·.key)
theorem aex {l:List Hs} {k:Nat} {a:Hs} (h:l[k]?=some a):qB (vZ l k) (l.drop k)=
 (gY a.key&&(match vZ l k with|none=>true|some q=> !leB a.key q)&& !decide (a.vs.length=0)&&jG ⟨0,0,0⟩ a.vs&&qB (vZ l (k+1)) (l.drop (k+1))):=by
 have h1:=List.getElem?_eq_some_iff.1 h;rw[List.drop_eq_getElem_cons h1.1,h1.2,show vZ l (k+1)=some a.key from by show (l[k]?).map (·.key)=_;rw[h];rfl];rfl
def qO (l:List Pn):List Pn:=l.foldl wY []
theorem aey (l:List Pn) (x:Pn):qO (l++[x])=wY (qO l) x:=by unfold qO;rw[List.foldl_append];rfl
theorem aez (l:List Pn) (p:Pn):(wY l p).length=l.length+1:=by
 unfold wY;have:=congrArg List.length (List.takeWhile_append_dropWhile (p:=fun x:Pn=>x.t.less p.t) (l:=l));simp only[aK,List.length_cons]at*;omega
theorem aeA (l:List Pn):(qO l).length=l.length:=by
 have h:∀(l m:List Pn),(l.foldl wY m).length=m.length+l.length:=by
  intro l
  induction l with
  |nil=>intro m;rfl
  |cons a l ih=>intro m;rw[List.foldl_cons,ih,aez,List.length_cons];omega
 unfold qO;rw[h];simp
def zG (H:List Hs):List Pn->List Pn->Int
 |_,[]=>0
 |m,x::l=>if dw x≠0 then dw x else if (0:Int)<=oI x.t 0 (qO m) then 9 else if nP m x then 18 else if zB H x then 20 else zG H (m++[x]) l
def iU (H:List Hs) (Q:List Pn):Int:=if qB none H then zG H [] Q else 4
theorem aeB {H:List Hs} {l:List Pn} {k:Nat} {x:Pn} (h:l[k]?=some x):zG H (l.take k) (l.drop k)=
 if dw x≠0 then dw x else if (0:Int)<=oI x.t 0 (qO (l.take k)) then 9 else if nP (l.take k) x then 18 else if zB H x then 20 else zG H (l.take (k+1)) (l.drop (k+1)):=by
 have h1:=List.getElem?_eq_some_iff.1 h;rw[List.drop_eq_getElem_cons h1.1,h1.2,List.take_add_one,h];rfl
def UR (H:List Hs) (Q:List Pn) (w:World):Ending->World->Prop:=fun e w'=>∃v,e=.returned (.tuple #[v,.int .i64 (iU H Q)])/\Below w.heap.size w w'/\
 (iU H Q=0->∃g B1 m1 d1 B2 m2 d2,v=.pointer (some ⟨g,0,none⟩)/\w.heap.size<=g/\ny w' g B1 m1 d1 B2 m2 d2 ⟨0,0,0⟩ H (qO Q))
theorem uD {H:List Hs} {Q:List Pn} {w w':World} {e:Int} {v:Value} (he:iU H Q=e) (hne:e≠0) (hb:Below w.heap.size w w'):UR H Q w (.returned (.tuple #[v,.int .i64 e])) w':=
 ⟨v,by rw[he],hb,fun h=>absurd (he▸h) hne⟩
def aeC (H:List Hs) (w:World) (i:Value) (wr:World):Prop:=
 ∃k:Nat,k<=H.length/\i=.int .i64 (k:Int)/\qB (vZ H k) (H.drop k)=qB none H/\aj wr w.heap.size 241 #[.slice none 0 0,.slice none 0 0,.int .i64 0,.int .i64 0,.int .i64 0]/\Below w.heap.size w wr
def UU (a:Hs) (A:Option Addr) (n c:Nat) (w wo:World) (gh gl:Nat) (i:Value) (wr:World):Prop:=
 ∃(j:Nat) (q:Sp),j<=a.vs.length/\i=.int .i64 (j:Int)/\jG q (a.vs.drop j)=jG ⟨0,0,0⟩ a.vs/\aj wr w.heap.size 241 #[.slice none 0 0,.slice none 0 0,.int .i64 0,.int .i64 0,.int .i64 0]/\aj wr gh 158 #[.string a.key,.slice A n c]/\aj wr gl 26 q.arr/\Below w.heap.size w wr/\Below wo.heap.size wo wr
theorem ny.start {w1:World} {g base:Nat} {v1:Value} {H:List Hs} (hblk:aj w1 g 241 #[.slice none 0 0,.slice none 0 0,.int .i64 0,.int .i64 0,.int .i64 0]) (hr:jH aQ 158 2 base (qc base w1.heap.size v1 (.slice none 0 0)) w1 v1 H) (hg:g<base):
 ∃B1 m1 d1,v1=.slice B1 m1 d1/\ny (w1.setCell ⟨g,0,none⟩ v1) g B1 m1 d1 none 0 0 ⟨0,0,0⟩ H []:=by
 have hs:(w1.setCell ⟨g,0,none⟩ v1).heap.size=w1.heap.size:=by simp[World.setCell]
 have hbl:∀k,k≠g->(w1.setCell ⟨g,0,none⟩ v1).heap[k]?=w1.heap[k]?:=fun k hk=>Below.heap_setCell _ _ _ _ hk
 have hcell:∀p:Addr,(only (nb g) (w1.setCell ⟨g,0,none⟩ v1)).cell? p=(only (nb g) w1).cell? p:=fun p=>by
  cases hn:nb g p.block
  · rw[wP hn,wP hn]
  · rw[qE hn,qE hn];exact World.cell?_of_block (hbl _ (zi.1 hn))
 obtain⟨A,n,c,rfl,h1,h2,h3⟩:=hr.held (K':=nb g) aQ.mono byOmega (fun k hk=>zi.2 (by have:=(yQ.1 hk).1;omega)) (fun k hk=>zi.2 (by have:=(hr.lt k hk).1;omega));exact⟨A,n,c,rfl,⟨hblk.fB 0 _,by rw[hs];exact h3.keep aQ.kept fun p _=>hcell p,by rw[hs];exact⟨rfl,fun i a hi=>by simp at hi⟩,Nat.le_refl _,Nat.zero_le _,Nat.le_trans h1 h2,Nat.zero_le _⟩⟩
def aeD (H:List Hs) (Q:List Pn) (w:World) (B1:Option Addr) (m1 d1:Nat) (i:Value) (wr:World):Prop:=
 ∃(k:Nat) (B2:Option Addr) (m2 d2:Nat),k<=Q.length/\i=.int .i64 (k:Int)/\zG H (Q.take k) (Q.drop k)=zG H [] Q/\ny wr w.heap.size B1 m1 d1 B2 m2 d2 ⟨0,0,0⟩ H (qO (Q.take k))/\Below w.heap.size w wr
def aeE (l:List Pn) (x:Pn) (wo:World) (i:Value) (wr:World):Prop:=
 ∃j:Nat,j<=l.length/\i=.int .i64 (j:Int)/\(l.drop j).any (fun y=>rD y x)=nP l x/\Below wo.heap.size wo wr
set_option maxRecDepth 100000 in
set_option maxHeartbeats 8000000 in
theorem aeF (A1 A2:Option Addr) (n1 n2 c1 c2:Nat) (H:List Hs) (Q:List Pn) (w:World) (h1:Sl aQ 2 w w.heap.size A1 n1 H) (h2:Sl aP 8 w w.heap.size A2 n2 Q) (hH:tY H) (hQ:uK Q):
 Calls Tryz.prog 121 #[.slice A1 n1 c1,.slice A2 n2 c2] w (UR H Q w):=by
 have hl1:=h1.1;have hl2:=h2.1;have vN:n1<=H.length:=byOmega;have hle1:H.length<=n1:=byOmega;have yN:n2<=Q.length:=byOmega;have hle2:Q.length<=n2:=byOmega;have hn1:n1<=5000000:=Nat.le_trans vN hH.1;have hn2:n2<=5000000:=Nat.le_trans yN hQ.1;clear hl1 hl2;go_enter Tryz.func121,Tryz.ntmps121;go_wp2_with fail
 go_loopw [7] (fun i wr=>aeC H w i wr) (fun i _=>n1-(intOf i).toNat)
 case atStart=>exact⟨0,byOmega,rfl,rfl,aj.new _ _ _,by go_grown⟩
 case round=>
  obtain⟨k,hk,rfl,hs,b6,hb⟩:=hrel;obtain⟨wo,rfl⟩:∃wo,wo=wr:=⟨_,rfl⟩;have hzz:=hb.size;have l6:=b6.lt;by_cases hlt:k<n1
  · obtain⟨ad,a,A',n',c',rfl,ha,hbk,hkz,d0,d1,hn',hc',hsv⟩:=((h1.below aQ.kept hb).more aQ.kept hb.size).hs hlt;have hd1:decide ((k:Int)<(n1:Int))=true:=ay;have hk0:(0:Int)<=(k:Int):=byOmega;have hk1:(k:Int)<(n1:Int):=byOmega;have hsm:n'<=5000000:=by
        have:=hH.2 a (List.mem_of_getElem? ha);have:=hsv.1;omega
    have hsl:=hsv.1;have hka:=fun w=>EW a.key w
    have hX0:Below wo.heap.size wo (wo.alloc (.cells #[.string a.key,.slice A' n' c'] 158)):=aJ;have i8:=aj.new wo 158 #[.string a.key,.slice A' n' c'];rw[aex ha]at hs;have HA:=au (show vZ H (k+1)=some a.key by show (H[k]?).map (·.key)=_;rw[ha];rfl);cases hkb:gY a.key
    · rw[hkb]at hka hs;have HF:=au (show iU H Q=4 by unfold iU;rw[<-hs];rfl);clear hs ha;go_wp2
      go_quiet (first|(go_at_call 116;exact nJ (hka _)))
      go_wp2
      go_ret2
      exact uD HF.out (by decide) (hb.trans ((hX0.trans ((bD _).mono hX0.size)).mono hzz))
    rw[hkb]at hka hs;by_cases hz:k=0
    · have hd2:decide (0<k)=false:=ay;have hs':(!decide (a.vs.length=0)&&jG ⟨0,0,0⟩ a.vs&&qB (vZ H (k+1)) (H.drop (k+1)))=qB none H:=(by rw[<-hs,hz];simp[vZ]);clear hs ha hz;by_cases hn0:n'=0
      · have HF:=au (show iU H Q=4 by unfold iU;rw[<-hs',show a.vs.length=0 by omega];rfl);subst hn0;clear hs';go_wp2
        go_quiet (first|(go_at_call 116;exact nJ (hka _)))
        go_wp2
        go_ret2
        exact uD HF.out (by decide) (hb.trans ((hX0.trans ((bD _).mono hX0.size)).mono hzz))
      · have hn3:((n':Int)==0)=false:=ay;have hn4:(n'==0)=false:=ay;have hvl:decide (a.vs.length=0)=false:=decide_eq_false byOmega;rw[hvl]at hs';have HT:=au (show jG ⟨0,0,0⟩ a.vs=true->qB (vZ H (k+1)) (H.drop (k+1))=qB none H from fun e=>by rw[<-hs',e];rfl);have HV:=au (show jG ⟨0,0,0⟩ a.vs=false->iU H Q=4 from fun e=>by unfold iU;rw[<-hs',e];rfl);clear hs' hvl;go_wp2
        go_quiet (first|(go_at_call 116;exact nJ (hka _)))
        go_wp2_with fail
        go_loopw [10] (fun i wr=>UU a A' n' c' w wo wo.heap.size (wo.heap.size+1) i wr) (fun i _=>n'-(intOf i).toNat)
        case atStart=>
         have CJ:=(hX0.trans ((bD nq).mono hX0.size)).alloc (by have:=hX0.size;exact this) (.cells #[.int .i64 0,.int .i64 0,.int .i64 0] 26);exact⟨0,⟨0,0,0⟩,byOmega,rfl,rfl,b6.below CJ l6,(i8.below (bD nq) i8.lt).alloc _,aj.new' _ _ (by simp[World.drewN]),hb.trans (CJ.mono hzz),CJ⟩
        case round=>
         clear d0 d1;obtain⟨j,q,hj,rfl,hs2,b6,b8,b9,hb2,hb3⟩:=hrel;have hz2:=hb2.size;obtain⟨l8,x0,x1⟩:=b8.two;obtain⟨l9,y0,y1,y2⟩:=b9.three;by_cases hlt2:j<n'
         · obtain⟨Fq,v,rfl,hv,hbk2,hok2,e0,e1,e2,e3,e4,e5⟩:=((hsv.below fC.kept hb3).more fC.kept hb3.size).vn hlt2;have hd3:decide ((j:Int)<(n':Int))=true:=ay;have hj0:(0:Int)<=(j:Int):=byOmega;have hj1:(j:Int)<(n':Int):=byOmega;have hm:=fun w=>jF v.s w
           have hc:=fun w=>MP q v.s w
           have hva:=fun w=>DX v.v w
           rw[KC q hv,UQ v.s q]at hs2;clear hv;generalize decide (q.cmp v.s<0)=cc at*;generalize hmb:v.s.may=mb at*;generalize hvb:v.v.may=vb at*;have bX:=aj.new wr 160 v.cells.toArray;have hX:Below wr.heap.size wr (wr.alloc (.cells v.cells.toArray 160)):=aJ;cases mb
           · have HF:=au (show iU H Q=4 from HV.out (by rw[<-hs2];rfl));clear hs2;go_wp2_with (first
              |((with_reducible refine(hm _).mono ?_);rintro e w1 ⟨rfl,hm1⟩
                have l7:=bX.below hm1 bX.lt;have mD:=(b9.below hX l9).below hm1 (Nat.lt_of_lt_of_le l9 hX.size);have hw1:Below wr.heap.size wr w1:=hX.trans (hm1.mono hX.size);obtain⟨tu,p0,p1,p2,p3,p4,p5⟩:=l7.six;obtain⟨tC,r0,r1,r2⟩:=mD.three)
              |((with_reducible refine(hc _).mono ?_);rintro e w2 ⟨rfl,hm2⟩
                have bX2:=l7.below hm2 tu;have mF:=mD.below hm2 tC;have hw2:Below wr.heap.size wr w2:=hw1.trans (hm2.mono hw1.size);obtain⟨tH,s0,s1,s2,s3,s4,s5⟩:=bX2.six;obtain⟨tJ,t0,t1,t2⟩:=mF.three)
              |((with_reducible refine(hva _).mono ?_);rintro e w3 ⟨rfl,iY⟩
                have tK:=bX2.below iY tH;have lC:=mF.below iY tJ;have hw3:Below wr.heap.size wr w3:=hw2.trans (iY.mono hw2.size);obtain⟨CO,q0,q1,q2,q3,q4,q5⟩:=tK.six;obtain⟨CP,z0,z1,z2⟩:=lC.three)
              |(refine wpList_store_row rfl 26 _ _ rfl _ _ rfl rfl _ _ lC ah ah ah ?_))
             go_ret2
             exact uD HF.out (by decide) (hb2.trans (hw1.mono hz2))
           cases cc
           · have HF:=au (show iU H Q=4 from HV.out (by rw[<-hs2];rfl));clear hs2;go_wp2_with (first
              |((with_reducible refine(hm _).mono ?_);rintro e w1 ⟨rfl,hm1⟩
                have l7:=bX.below hm1 bX.lt;have mD:=(b9.below hX l9).below hm1 (Nat.lt_of_lt_of_le l9 hX.size);have hw1:Below wr.heap.size wr w1:=hX.trans (hm1.mono hX.size);obtain⟨tu,p0,p1,p2,p3,p4,p5⟩:=l7.six;obtain⟨tC,r0,r1,r2⟩:=mD.three)
              |((with_reducible refine(hc _).mono ?_);rintro e w2 ⟨rfl,hm2⟩
                have bX2:=l7.below hm2 tu;have mF:=mD.below hm2 tC;have hw2:Below wr.heap.size wr w2:=hw1.trans (hm2.mono hw1.size);obtain⟨tH,s0,s1,s2,s3,s4,s5⟩:=bX2.six;obtain⟨tJ,t0,t1,t2⟩:=mF.three)
              |((with_reducible refine(hva _).mono ?_);rintro e w3 ⟨rfl,iY⟩
                have tK:=bX2.below iY tH;have lC:=mF.below iY tJ;have hw3:Below wr.heap.size wr w3:=hw2.trans (iY.mono hw2.size);obtain⟨CO,q0,q1,q2,q3,q4,q5⟩:=tK.six;obtain⟨CP,z0,z1,z2⟩:=lC.three)
              |(refine wpList_store_row rfl 26 _ _ rfl _ _ rfl rfl _ _ lC ah ah ah ?_))
             go_ret2
             exact uD HF.out (by decide) (hb2.trans (hw2.mono hz2))
           cases vb
           · have HF:=au (show iU H Q=4 from HV.out (by rw[<-hs2];rfl));clear hs2;go_wp2_with (first
              |((with_reducible refine(hm _).mono ?_);rintro e w1 ⟨rfl,hm1⟩
                have l7:=bX.below hm1 bX.lt;have mD:=(b9.below hX l9).below hm1 (Nat.lt_of_lt_of_le l9 hX.size);have hw1:Below wr.heap.size wr w1:=hX.trans (hm1.mono hX.size);obtain⟨tu,p0,p1,p2,p3,p4,p5⟩:=l7.six;obtain⟨tC,r0,r1,r2⟩:=mD.three)
              |((with_reducible refine(hc _).mono ?_);rintro e w2 ⟨rfl,hm2⟩
                have bX2:=l7.below hm2 tu;have mF:=mD.below hm2 tC;have hw2:Below wr.heap.size wr w2:=hw1.trans (hm2.mono hw1.size);obtain⟨tH,s0,s1,s2,s3,s4,s5⟩:=bX2.six;obtain⟨tJ,t0,t1,t2⟩:=mF.three)
              |((with_reducible refine(hva _).mono ?_);rintro e w3 ⟨rfl,iY⟩
                have tK:=bX2.below iY tH;have lC:=mF.below iY tJ;have hw3:Below wr.heap.size wr w3:=hw2.trans (iY.mono hw2.size);obtain⟨CO,q0,q1,q2,q3,q4,q5⟩:=tK.six;obtain⟨CP,z0,z1,z2⟩:=lC.three)
              |(refine wpList_store_row rfl 26 _ _ rfl _ _ rfl rfl _ _ lC ah ah ah ?_))
             go_ret2
             exact uD HF.out (by decide) (hb2.trans (hw3.mono hz2))
           · have HS:=au (show jG v.s (a.vs.drop (j+1))=jG ⟨0,0,0⟩ a.vs from hs2);clear hs2;go_wp2_with (first
              |((with_reducible refine(hm _).mono ?_);rintro e w1 ⟨rfl,hm1⟩
                have l7:=bX.below hm1 bX.lt;have mD:=(b9.below hX l9).below hm1 (Nat.lt_of_lt_of_le l9 hX.size);have hw1:Below wr.heap.size wr w1:=hX.trans (hm1.mono hX.size);obtain⟨tu,p0,p1,p2,p3,p4,p5⟩:=l7.six;obtain⟨tC,r0,r1,r2⟩:=mD.three)
              |((with_reducible refine(hc _).mono ?_);rintro e w2 ⟨rfl,hm2⟩
                have bX2:=l7.below hm2 tu;have mF:=mD.below hm2 tC;have hw2:Below wr.heap.size wr w2:=hw1.trans (hm2.mono hw1.size);obtain⟨tH,s0,s1,s2,s3,s4,s5⟩:=bX2.six;obtain⟨tJ,t0,t1,t2⟩:=mF.three)
              |((with_reducible refine(hva _).mono ?_);rintro e w3 ⟨rfl,iY⟩
                have tK:=bX2.below iY tH;have lC:=mF.below iY tJ;have hw3:Below wr.heap.size wr w3:=hw2.trans (iY.mono hw2.size);obtain⟨CO,q0,q1,q2,q3,q4,q5⟩:=tK.six;obtain⟨CP,z0,z1,z2⟩:=lC.three)
              |(refine wpList_store_row rfl 26 _ _ rfl _ _ rfl rfl _ _ lC ah ah ah ?_))
             go_roundw
             case rel=>exact⟨j+1,v.s,byOmega,by go_num,HS.out,(b6.below hw3 b6.lt).jT _ byOmega,(b8.below hw3 l8).jT _ byOmega,lC.setRow _,below_setRow (hb2.trans (hw3.mono hz2)) byOmega _,below_setRow (hb3.trans (hw3.mono hb3.size)) byOmega _⟩
             case measure=>simp[intOf];omega
         · have hd3:decide ((j:Int)<(n':Int))=false:=ay;rw[bF byOmega]at hs2;have HV:=au (HT.out hs2.symm);clear hs2;go_wp2;go_roundw
           case rel=>exact⟨k+1,byOmega,by go_num,HV.out,b6,hb2⟩
           case measure=>simp[intOf];omega
    · obtain⟨ad',b,A'',n'',c'',e',hb',gq,hok',y0,-⟩:=((h1.below aQ.kept hb).more aQ.kept hb.size).hs (k:=k-1) byOmega;injection e' with e'
      subst e';have hd2:decide (0<k)=true:=ay;have hj0:(0:Int)<=(k:Int)-1:=byOmega;have hj1:(k:Int)-1<(n1:Int):=byOmega;have hj2:((k:Int)-1).toNat=k-1:=byOmega;have hj3:IntKind.i64.wrap ((k:Int)-1)=(k:Int)-1:=(by rw[IntKind.wrap_i64];omega);have hah:vZ H k=some b.key:=by
       cases k with
       |zero=>omega
       |succ j=>show (H[j]?).map (·.key)=_;rw[show H[j]?=some b from hb'];rfl
      rw[hah]at hs;have hle:(Op.bytesLess a.key.toList b.key.toList||a.key.toList==b.key.toList)=leB a.key b.key:=rfl;clear hz hah hb' ha hok';cases hbl:leB a.key b.key
      · have hs':(!decide (a.vs.length=0)&&jG ⟨0,0,0⟩ a.vs&&qB (vZ H (k+1)) (H.drop (k+1)))=qB none H:=(by rw[<-hs];simp[hbl]);rw[hbl]at hle;have hl1:Op.bytesLess a.key.toList b.key.toList=false/\(a.key.toList==b.key.toList)=false:=(by simpa [Bool.or_eq_false_iff] using hle);obtain⟨hl2,hl3⟩:=hl1;clear hs hle hbl;by_cases hn0:n'=0
        · have HF:=au (show iU H Q=4 by unfold iU;rw[<-hs',show a.vs.length=0 by omega];rfl);subst hn0;clear hs';go_wp2
          go_quiet (first|(go_at_call 116;exact nJ (hka _)))
          go_wp2
          go_ret2
          exact uD HF.out (by decide) (hb.trans ((hX0.trans ((bD _).mono hX0.size)).mono hzz))
        · have hn3:((n':Int)==0)=false:=ay;have hn4:(n'==0)=false:=ay;have hvl:decide (a.vs.length=0)=false:=decide_eq_false byOmega;rw[hvl]at hs';have HT:=au (show jG ⟨0,0,0⟩ a.vs=true->qB (vZ H (k+1)) (H.drop (k+1))=qB none H from fun e=>by rw[<-hs',e];rfl);have HV:=au (show jG ⟨0,0,0⟩ a.vs=false->iU H Q=4 from fun e=>by unfold iU;rw[<-hs',e];rfl);clear hs' hvl;go_wp2
          go_quiet (first|(go_at_call 116;exact nJ (hka _)))
          go_wp2_with fail
          go_loopw [10] (fun i wr=>UU a A' n' c' w wo wo.heap.size (wo.heap.size+1) i wr) (fun i _=>n'-(intOf i).toNat)
          case atStart=>
           have CJ:=(hX0.trans ((bD nq).mono hX0.size)).alloc (by have:=hX0.size;exact this) (.cells #[.int .i64 0,.int .i64 0,.int .i64 0] 26);exact⟨0,⟨0,0,0⟩,byOmega,rfl,rfl,b6.below CJ l6,(i8.below (bD nq) i8.lt).alloc _,aj.new' _ _ (by simp[World.drewN]),hb.trans (CJ.mono hzz),CJ⟩
          case round=>
           clear d0 d1;obtain⟨j,q,hj,rfl,hs2,b6,b8,b9,hb2,hb3⟩:=hrel;have hz2:=hb2.size;obtain⟨l8,x0,x1⟩:=b8.two;obtain⟨l9,y0,y1,y2⟩:=b9.three;by_cases hlt2:j<n'
           · obtain⟨Fq,v,rfl,hv,hbk2,hok2,e0,e1,e2,e3,e4,e5⟩:=((hsv.below fC.kept hb3).more fC.kept hb3.size).vn hlt2;have hd3:decide ((j:Int)<(n':Int))=true:=ay;have hj0:(0:Int)<=(j:Int):=byOmega;have hj1:(j:Int)<(n':Int):=byOmega;have hm:=fun w=>jF v.s w
             have hc:=fun w=>MP q v.s w
             have hva:=fun w=>DX v.v w
             rw[KC q hv,UQ v.s q]at hs2;clear hv;generalize decide (q.cmp v.s<0)=cc at*;generalize hmb:v.s.may=mb at*;generalize hvb:v.v.may=vb at*;have bX:=aj.new wr 160 v.cells.toArray;have hX:Below wr.heap.size wr (wr.alloc (.cells v.cells.toArray 160)):=aJ;cases mb
             · have HF:=au (show iU H Q=4 from HV.out (by rw[<-hs2];rfl));clear hs2;go_wp2_with (first
                |((with_reducible refine(hm _).mono ?_);rintro e w1 ⟨rfl,hm1⟩
                  have l7:=bX.below hm1 bX.lt;have mD:=(b9.below hX l9).below hm1 (Nat.lt_of_lt_of_le l9 hX.size);have hw1:Below wr.heap.size wr w1:=hX.trans (hm1.mono hX.size);obtain⟨tu,p0,p1,p2,p3,p4,p5⟩:=l7.six;obtain⟨tC,r0,r1,r2⟩:=mD.three)
                |((with_reducible refine(hc _).mono ?_);rintro e w2 ⟨rfl,hm2⟩
                  have bX2:=l7.below hm2 tu;have mF:=mD.below hm2 tC;have hw2:Below wr.heap.size wr w2:=hw1.trans (hm2.mono hw1.size);obtain⟨tH,s0,s1,s2,s3,s4,s5⟩:=bX2.six;obtain⟨tJ,t0,t1,t2⟩:=mF.three)
                |((with_reducible refine(hva _).mono ?_);rintro e w3 ⟨rfl,iY⟩
                  have tK:=bX2.below iY tH;have lC:=mF.below iY tJ;have hw3:Below wr.heap.size wr w3:=hw2.trans (iY.mono hw2.size);obtain⟨CO,q0,q1,q2,q3,q4,q5⟩:=tK.six;obtain⟨CP,z0,z1,z2⟩:=lC.three)
                |(refine wpList_store_row rfl 26 _ _ rfl _ _ rfl rfl _ _ lC ah ah ah ?_))
               go_ret2
               exact uD HF.out (by decide) (hb2.trans (hw1.mono hz2))
             cases cc
             · have HF:=au (show iU H Q=4 from HV.out (by rw[<-hs2];rfl));clear hs2;go_wp2_with (first
                |((with_reducible refine(hm _).mono ?_);rintro e w1 ⟨rfl,hm1⟩
                  have l7:=bX.below hm1 bX.lt;have mD:=(b9.below hX l9).below hm1 (Nat.lt_of_lt_of_le l9 hX.size);have hw1:Below wr.heap.size wr w1:=hX.trans (hm1.mono hX.size);obtain⟨tu,p0,p1,p2,p3,p4,p5⟩:=l7.six;obtain⟨tC,r0,r1,r2⟩:=mD.three)
                |((with_reducible refine(hc _).mono ?_);rintro e w2 ⟨rfl,hm2⟩
                  have bX2:=l7.below hm2 tu;have mF:=mD.below hm2 tC;have hw2:Below wr.heap.size wr w2:=hw1.trans (hm2.mono hw1.size);obtain⟨tH,s0,s1,s2,s3,s4,s5⟩:=bX2.six;obtain⟨tJ,t0,t1,t2⟩:=mF.three)
                |((with_reducible refine(hva _).mono ?_);rintro e w3 ⟨rfl,iY⟩
                  have tK:=bX2.below iY tH;have lC:=mF.below iY tJ;have hw3:Below wr.heap.size wr w3:=hw2.trans (iY.mono hw2.size);obtain⟨CO,q0,q1,q2,q3,q4,q5⟩:=tK.six;obtain⟨CP,z0,z1,z2⟩:=lC.three)
                |(refine wpList_store_row rfl 26 _ _ rfl _ _ rfl rfl _ _ lC ah ah ah ?_))
               go_ret2
               exact uD HF.out (by decide) (hb2.trans (hw2.mono hz2))
             cases vb
             · have HF:=au (show iU H Q=4 from HV.out (by rw[<-hs2];rfl));clear hs2;go_wp2_with (first
                |((with_reducible refine(hm _).mono ?_);rintro e w1 ⟨rfl,hm1⟩
                  have l7:=bX.below hm1 bX.lt;have mD:=(b9.below hX l9).below hm1 (Nat.lt_of_lt_of_le l9 hX.size);have hw1:Below wr.heap.size wr w1:=hX.trans (hm1.mono hX.size);obtain⟨tu,p0,p1,p2,p3,p4,p5⟩:=l7.six;obtain⟨tC,r0,r1,r2⟩:=mD.three)
                |((with_reducible refine(hc _).mono ?_);rintro e w2 ⟨rfl,hm2⟩
                  have bX2:=l7.below hm2 tu;have mF:=mD.below hm2 tC;have hw2:Below wr.heap.size wr w2:=hw1.trans (hm2.mono hw1.size);obtain⟨tH,s0,s1,s2,s3,s4,s5⟩:=bX2.six;obtain⟨tJ,t0,t1,t2⟩:=mF.three)
                |((with_reducible refine(hva _).mono ?_);rintro e w3 ⟨rfl,iY⟩
                  have tK:=bX2.below iY tH;have lC:=mF.below iY tJ;have hw3:Below wr.heap.size wr w3:=hw2.trans (iY.mono hw2.size);obtain⟨CO,q0,q1,q2,q3,q4,q5⟩:=tK.six;obtain⟨CP,z0,z1,z2⟩:=lC.three)
                |(refine wpList_store_row rfl 26 _ _ rfl _ _ rfl rfl _ _ lC ah ah ah ?_))
               go_ret2
               exact uD HF.out (by decide) (hb2.trans (hw3.mono hz2))
             · have HS:=au (show jG v.s (a.vs.drop (j+1))=jG ⟨0,0,0⟩ a.vs from hs2);clear hs2;go_wp2_with (first
                |((with_reducible refine(hm _).mono ?_);rintro e w1 ⟨rfl,hm1⟩
                  have l7:=bX.below hm1 bX.lt;have mD:=(b9.below hX l9).below hm1 (Nat.lt_of_lt_of_le l9 hX.size);have hw1:Below wr.heap.size wr w1:=hX.trans (hm1.mono hX.size);obtain⟨tu,p0,p1,p2,p3,p4,p5⟩:=l7.six;obtain⟨tC,r0,r1,r2⟩:=mD.three)
                |((with_reducible refine(hc _).mono ?_);rintro e w2 ⟨rfl,hm2⟩
                  have bX2:=l7.below hm2 tu;have mF:=mD.below hm2 tC;have hw2:Below wr.heap.size wr w2:=hw1.trans (hm2.mono hw1.size);obtain⟨tH,s0,s1,s2,s3,s4,s5⟩:=bX2.six;obtain⟨tJ,t0,t1,t2⟩:=mF.three)
                |((with_reducible refine(hva _).mono ?_);rintro e w3 ⟨rfl,iY⟩
                  have tK:=bX2.below iY tH;have lC:=mF.below iY tJ;have hw3:Below wr.heap.size wr w3:=hw2.trans (iY.mono hw2.size);obtain⟨CO,q0,q1,q2,q3,q4,q5⟩:=tK.six;obtain⟨CP,z0,z1,z2⟩:=lC.three)
                |(refine wpList_store_row rfl 26 _ _ rfl _ _ rfl rfl _ _ lC ah ah ah ?_))
               go_roundw
               case rel=>exact⟨j+1,v.s,byOmega,by go_num,HS.out,(b6.below hw3 b6.lt).jT _ byOmega,(b8.below hw3 l8).jT _ byOmega,lC.setRow _,below_setRow (hb2.trans (hw3.mono hz2)) byOmega _,below_setRow (hb3.trans (hw3.mono hb3.size)) byOmega _⟩
               case measure=>simp[intOf];omega
           · have hd3:decide ((j:Int)<(n':Int))=false:=ay;rw[bF byOmega]at hs2;have HV:=au (HT.out hs2.symm);clear hs2;go_wp2;go_roundw
             case rel=>exact⟨k+1,byOmega,by go_num,HV.out,b6,hb2⟩
             case measure=>simp[intOf];omega
      · have HF:=au (show iU H Q=4 by unfold iU;rw[<-hs];simp[hbl]);rw[hbl]at hle;have hle':(Op.bytesLess a.key.toList b.key.toList||a.key.toList==b.key.toList)=true:=hle;clear hs hle hbl;go_wp2
        go_quiet (first|(go_at_call 116;exact nJ (hka _)))
        all_goals go_wp2
        all_goals go_ret2
        all_goals exact uD HF.out (by decide) (hb.trans ((hX0.trans ((bD _).mono hX0.size)).mono hzz))
  · have hd1:decide ((k:Int)<(n1:Int))=false:=ay;have hL:iU H Q=zG H [] Q:=by
        unfold iU;rw[<-hs,bF byOmega];rfl
    have HL:=au hL;clear hs hL;have hC:=aaF A1 n1 c1 H wo ((h1.below aQ.kept hb).more aQ.kept hb.size) hH;go_wp2_with (go_at_call 56;fail);refine hC.mono ?_;rintro e w1 ⟨v1,rfl,⟨hr1,-,-⟩,hb1⟩;have vg:Below w.heap.size w w1:=hb.trans (hb1.mono hzz);have Jt:=b6.below hb1 l6;obtain⟨l61,o0,-⟩:=Jt.zV;have of0:=Jt.frozen 0;obtain⟨B1,m1,d1,rfl,UW⟩:=ny.start Jt hr1 l6;have hbw2:Below w.heap.size w (w1.setCell ⟨w.heap.size,0,none⟩ (.slice B1 m1 d1)):=⟨vg.os,vg.tape,vg.output,by simp only[World.setCell,Array.size_modify];exact vg.size,fun k hk=>(Below.heap_setCell _ _ _ _ (by show k≠w.heap.size;omega)).trans (vg.block k hk)⟩;clear hC hr1 b6 Jt hb hb1 hzz l6;go_wp2_with fail
    go_loopw [12] (fun i wr=>aeD H Q w B1 m1 d1 i wr) (fun i _=>n2-(intOf i).toNat)
    case atStart=>exact⟨0,none,0,0,byOmega,rfl,rfl,UW,hbw2⟩
    case round=>
        clear UW hbw2 vg o0 of0 l61 hlt hk;obtain⟨k,B2,m2,d2,hk,rfl,hs,hst,hb⟩:=hrel;obtain⟨wo,rfl⟩:∃wo,wo=wr:=⟨_,rfl⟩;have hzz:=hb.size;by_cases hlt:k<n2
        · obtain⟨ad,x,A3,n3,c3,A4,n4,c4,rfl,ha,hbk,hxt,hxs,e0,e1,e2,e3,e4,e5,e6,e7,hn3,hc3,hs3,hn4,hc4,hs4⟩:=((h2.below aP.kept hb).more aP.kept hb.size).pn hlt;have hd1:decide ((k:Int)<(n2:Int))=true:=ay;have hk0:(0:Int)<=(k:Int):=byOmega;have hk1:(k:Int)<(n2:Int):=byOmega;have hsm:=hQ.2 x (List.mem_of_getElem? ha);have hl3:=hs3.1;have hl4:=hs4.1;rw[aeB ha]at hs;have HK:=au (show Q.take (k+1)=Q.take k++[x] by rw[List.take_add_one,ha];rfl);have hQl:(qO (Q.take k)).length<=5000000:=(by rw[aeA,List.length_take];omega);have hTl:(Q.take k).length=k:=(by rw[List.length_take];omega);have hlk:nP (Q.take k) x=(Q.take k).any (fun y=>rD y x):=rfl;have hT:∀(j:Nat) (y:Pn),j<k->Q[j]?=some y->(Q.take k)[j]?=some y:=fun j y hj hy=>by rw[List.getElem?_take,if_pos hj];exact hy
          have Fa:=TW x A3 A4 n3 n4 c3 c4 wo hs3 hs4 byOmega byOmega;generalize hpe:dw x=pe at*;have HA:=au ha;clear ha;go_wp2_with (go_at_call 176;fail);refine Fa.mono ?_;rintro e w1 ⟨rfl,hb1⟩;have vg:Below w.heap.size w w1:=hb.trans (hb1.mono hzz);have hst1:=hst.below hb1;have f0:=(hb1.cell (p:=ad.add (k*8)) hbk).trans e0;have f1:=(hb1.cell (p:=⟨(ad.add (k*8)).block,(ad.add (k*8)).off+1,none⟩) hbk).trans e1;have f2:=(hb1.cell (p:=⟨(ad.add (k*8)).block,(ad.add (k*8)).off+2,none⟩) hbk).trans e2;by_cases hp0:pe=0
          · have hpn:(pe !=0)=false:=(by simp[hp0]);rw[if_neg (fun e=>e hp0)]at hs;have hW:=aa7 w.heap.size B1 B2 m1 d1 m2 d2 ⟨0,0,0⟩ H (qO (Q.take k)) x.t w1 hst1;generalize oI x.t 0 (qO (Q.take k))=wh at*;by_cases hw:(0:Int)<=wh
            · have hw1:decide ((0:Int)<=wh)=true:=(by simp[hw]);rw[if_pos hw]at hs;have HF:=au (show iU H Q=9 by rw[HL.out,<-hs]);clear hs hp0 hw;go_wp2_with ((with_reducible refine hW.mono ?_);rintro e w2 ⟨rfl,hb2⟩)
              go_ret2
              exact uD HF.out (by decide) (vg.trans (hb2.mono vg.size))
            have hw1:decide ((0:Int)<=wh)=false:=ay;rw[if_neg hw]at hs;clear hp0 hw;go_wp2_with (go_at_call 177;fail);refine hW.mono ?_;rintro e w2 ⟨rfl,hb2⟩;have hbw2:Below w.heap.size w w2:=vg.trans (hb2.mono vg.size);have hst2:=hst1.below hb2;clear hW hst1 hst vg hb1 hb2 f0 f1 f2 e0 e1 e2 e3 e4 e5 e6 e7 hs3 hs4 Fa hb hzz;have hz2:=hbw2.size;go_wp2_with fail
            go_loopw [14] (fun i wr=>aeE (Q.take k) x w2 i wr) (fun i _=>k-(intOf i).toNat)
            case atStart=>exact⟨0,byOmega,rfl,rfl,aC⟩
            case round=>
             obtain⟨j,hj,rfl,hs2,hbi⟩:=hrel;obtain⟨wi,rfl⟩:∃wi,wi=wr:=⟨_,rfl⟩;have Eo:Below w.heap.size w wi:=hbw2.trans (hbi.mono hz2);have hzi:=Eo.size;have UY:=(h2.below aP.kept Eo).more aP.kept Eo.size;obtain⟨ad',x',A3,n3,c3,A4,n4,c4,ex,ha,hbk2,-,-,e0,e1,e2,e3,e4,e5,e6,e7,hn3,hc3,hs3,hn4,hc4,hs4⟩:=UY.pn hlt;injection ex with ex
             subst ex;obtain rfl:x'=x:=Option.some.inj (ha.symm.trans HA.out);have hl3:=hs3.1;have hl4:=hs4.1;clear ha;by_cases hlt2:j<k
             · obtain⟨ad',y,A5,n5,c5,A6,n6,c6,ex,ha,lI,-,-,g0,g1,g2,g3,g4,g5,g6,g7,hn5,hc5,hs5,hn6,hc6,hs6⟩:=UY.pn (k:=j) byOmega;injection ex with ex
               subst ex;have hd3:decide ((j:Int)<(k:Int))=true:=ay;have hj0:(0:Int)<=(j:Int):=byOmega;have hj1:(j:Int)<(n2:Int):=byOmega;have Bh:=aec x' y A3 A4 A5 A6 n3 n4 n5 n6 c3 c4 c5 c6 wi.drew (hs3.below aO.kept (aC).drew) (hs4.below aF.kept (aC).drew) (hs5.below aO.kept (aC).drew) (hs6.below aF.kept (aC).drew) byOmega byOmega byOmega byOmega;rw[Jr (hT j y hlt2 ha)]at hs2;clear ha;cases hcb:rD y x'
               · rw[hcb]at Bh hs2;have HS:=au (show ((Q.take k).drop (j+1)).any (fun y=>rD y x')=nP (Q.take k) x' from hs2);clear hs2 hcb;go_wp2
                 go_region_held3 (fun w'=>w'.cell? (ad.add (k*8))=some (.int .i64 x'.t.c)/\w'.cell? ⟨(ad.add (k*8)).block,(ad.add (k*8)).off+1,none⟩=some (.int .i64 x'.t.l)/\w'.cell? ⟨(ad.add (k*8)).block,(ad.add (k*8)).off+2,none⟩=some (.int .i64 x'.t.s)/\w'.cell? ⟨(ad.add (k*8)).block,(ad.add (k*8)).off+3,none⟩=some (.int .i64 x'.s.w)/\w'.cell? ⟨(ad.add (k*8)).block,(ad.add (k*8)).off+4,none⟩=some (.int .i64 x'.s.l)/\w'.cell? ⟨(ad.add (k*8)).block,(ad.add (k*8)).off+5,none⟩=some (.int .i64 x'.s.n)/\w'.cell? ⟨(ad.add (k*8)).block,(ad.add (k*8)).off+6,none⟩=some (.slice A3 n3 c3)/\w'.cell? ⟨(ad.add (k*8)).block,(ad.add (k*8)).off+7,none⟩=some (.slice A4 n4 c4)/\w'.cell? (ad.add (j*8))=some (.int .i64 y.t.c)/\w'.cell? ⟨(ad.add (j*8)).block,(ad.add (j*8)).off+1,none⟩=some (.int .i64 y.t.l)/\w'.cell? ⟨(ad.add (j*8)).block,(ad.add (j*8)).off+2,none⟩=some (.int .i64 y.t.s)/\w'.cell? ⟨(ad.add (j*8)).block,(ad.add (j*8)).off+3,none⟩=some (.int .i64 y.s.w)/\w'.cell? ⟨(ad.add (j*8)).block,(ad.add (j*8)).off+4,none⟩=some (.int .i64 y.s.l)/\w'.cell? ⟨(ad.add (j*8)).block,(ad.add (j*8)).off+5,none⟩=some (.int .i64 y.s.n)/\w'.cell? ⟨(ad.add (j*8)).block,(ad.add (j*8)).off+6,none⟩=some (.slice A5 n5 c5)/\w'.cell? ⟨(ad.add (j*8)).block,(ad.add (j*8)).off+7,none⟩=some (.slice A6 n6 c6))
                  (first|exact⟨e0,e1,e2,e3,e4,e5,e6,e7,g0,g1,g2,g3,g4,g5,g6,g7⟩|exact⟨(aB.cell (by exact hbk2)).trans e0,(aB.cell (by exact hbk2)).trans e1,(aB.cell (by exact hbk2)).trans e2,(aB.cell (by exact hbk2)).trans e3,(aB.cell (by exact hbk2)).trans e4,(aB.cell (by exact hbk2)).trans e5,(aB.cell (by exact hbk2)).trans e6,(aB.cell (by exact hbk2)).trans e7,(aB.cell (by exact lI)).trans g0,(aB.cell (by exact lI)).trans g1,(aB.cell (by exact lI)).trans g2,(aB.cell (by exact lI)).trans g3,(aB.cell (by exact lI)).trans g4,(aB.cell (by exact lI)).trans g5,(aB.cell (by exact lI)).trans g6,(aB.cell (by exact lI)).trans g7⟩)
                  (first|((with_reducible refine Bh.mono ?_);rintro e w5 ⟨rfl,hb5⟩;have aB:Below wi.heap.size wi w5:=(Below.refl wi.heap.size wi).drew.trans hb5))
                 go_wp2;go_roundw
                 case rel=>exact⟨j+1,byOmega,by go_num,HS.out,hbi.trans (aB.mono hbi.size)⟩
                 case measure=>simp[intOf];omega
               · rw[hcb]at Bh hs2;have HF:=au (show iU H Q=18 by rw[HL.out,<-hs,if_pos (show nP (Q.take k) x'=true from hs2.symm)]);clear hs2 hs hcb;go_wp2
                 go_region_held3 (fun w'=>w'.cell? (ad.add (k*8))=some (.int .i64 x'.t.c)/\w'.cell? ⟨(ad.add (k*8)).block,(ad.add (k*8)).off+1,none⟩=some (.int .i64 x'.t.l)/\w'.cell? ⟨(ad.add (k*8)).block,(ad.add (k*8)).off+2,none⟩=some (.int .i64 x'.t.s)/\w'.cell? ⟨(ad.add (k*8)).block,(ad.add (k*8)).off+3,none⟩=some (.int .i64 x'.s.w)/\w'.cell? ⟨(ad.add (k*8)).block,(ad.add (k*8)).off+4,none⟩=some (.int .i64 x'.s.l)/\w'.cell? ⟨(ad.add (k*8)).block,(ad.add (k*8)).off+5,none⟩=some (.int .i64 x'.s.n)/\w'.cell? ⟨(ad.add (k*8)).block,(ad.add (k*8)).off+6,none⟩=some (.slice A3 n3 c3)/\w'.cell? ⟨(ad.add (k*8)).block,(ad.add (k*8)).off+7,none⟩=some (.slice A4 n4 c4)/\w'.cell? (ad.add (j*8))=some (.int .i64 y.t.c)/\w'.cell? ⟨(ad.add (j*8)).block,(ad.add (j*8)).off+1,none⟩=some (.int .i64 y.t.l)/\w'.cell? ⟨(ad.add (j*8)).block,(ad.add (j*8)).off+2,none⟩=some (.int .i64 y.t.s)/\w'.cell? ⟨(ad.add (j*8)).block,(ad.add (j*8)).off+3,none⟩=some (.int .i64 y.s.w)/\w'.cell? ⟨(ad.add (j*8)).block,(ad.add (j*8)).off+4,none⟩=some (.int .i64 y.s.l)/\w'.cell? ⟨(ad.add (j*8)).block,(ad.add (j*8)).off+5,none⟩=some (.int .i64 y.s.n)/\w'.cell? ⟨(ad.add (j*8)).block,(ad.add (j*8)).off+6,none⟩=some (.slice A5 n5 c5)/\w'.cell? ⟨(ad.add (j*8)).block,(ad.add (j*8)).off+7,none⟩=some (.slice A6 n6 c6))
                  (first|exact⟨e0,e1,e2,e3,e4,e5,e6,e7,g0,g1,g2,g3,g4,g5,g6,g7⟩|exact⟨(aB.cell (by exact hbk2)).trans e0,(aB.cell (by exact hbk2)).trans e1,(aB.cell (by exact hbk2)).trans e2,(aB.cell (by exact hbk2)).trans e3,(aB.cell (by exact hbk2)).trans e4,(aB.cell (by exact hbk2)).trans e5,(aB.cell (by exact hbk2)).trans e6,(aB.cell (by exact hbk2)).trans e7,(aB.cell (by exact lI)).trans g0,(aB.cell (by exact lI)).trans g1,(aB.cell (by exact lI)).trans g2,(aB.cell (by exact lI)).trans g3,(aB.cell (by exact lI)).trans g4,(aB.cell (by exact lI)).trans g5,(aB.cell (by exact lI)).trans g6,(aB.cell (by exact lI)).trans g7⟩)
                  (first|((with_reducible refine Bh.mono ?_);rintro e w5 ⟨rfl,hb5⟩;have aB:Below wi.heap.size wi w5:=(Below.refl wi.heap.size wi).drew.trans hb5))
                 go_wp2
                 go_ret2
                 exact uD HF.out (by decide) (Eo.trans (aB.mono hzi))
             · have hd3:decide ((j:Int)<(k:Int))=false:=ay;rw[bF byOmega]at hs2;rw[if_neg (show ¬nP (Q.take k) x'=true from fun e=>by rw[<-hs2]at e;simp at e)]at hs;clear hs2;have hst3:=hst2.below hbi;have hO:=aee w.heap.size B1 B2 m1 d1 m2 d2 ⟨0,0,0⟩ H (qO (Q.take k)) x' A3 A4 n3 n4 c3 c4 wi hst3 hs4 byOmega;by_cases hob:zB H x'=true
               · rw[hob]at hO;have HF:=au (show iU H Q=20 by rw[HL.out,<-hs,if_pos hob]);clear hs hob;go_wp2_with ((with_reducible refine hO.mono ?_);rintro e w3 ⟨rfl,hb3⟩)
                 go_ret2
                 exact uD HF.out (by decide) (Eo.trans (hb3.mono hzi))
               · have hof:zB H x'=false:=(by simpa using hob);rw[hof]at hO;rw[if_neg hob]at hs;have HS:=au hs;clear hs hob hof;go_wp2_with (go_at_call 179;fail);refine hO.mono ?_;rintro e w3 ⟨rfl,hb3⟩;have hbw3:Below w.heap.size w w3:=Eo.trans (hb3.mono hzi);have Bf:=hst3.below hb3;have hP:=aej w.heap.size B1 B2 m1 d1 m2 d2 ⟨0,0,0⟩ H (qO (Q.take k)) x' A3 A4 n3 n4 c3 c4 w3 Bf hQl hxt hxs ((hs3.below aO.kept hb3).more aO.kept hb3.size) ((hs4.below aF.kept hb3).more aF.kept hb3.size) byOmega byOmega;have E:=fun (i:Nat) (v:Value) (hc:wi.cell? ⟨(ad.add (k*8)).block,(ad.add (k*8)).off+i,none⟩=some v)=>(hb3.cell (p:=⟨(ad.add (k*8)).block,(ad.add (k*8)).off+i,none⟩) hbk2).trans hc
                 have p0:=(hb3.cell (p:=ad.add (k*8)) hbk2).trans e0;have p1:=E 1 _ e1;have p2:=E 2 _ e2;have p3:=E 3 _ e3;have p4:=E 4 _ e4;have p5:=E 5 _ e5;have p6:=E 6 _ e6;have p7:=E 7 _ e7;clear E e0 e1 e2 e3 e4 e5 e6 e7 hO;go_wp2_with (go_at_call 180;fail);refine hP.mono ?_;rintro e w4 ⟨B2',m2',LW,rfl,hst5,hg5⟩;have Fb:=hbw3.grown hg5 hbw3.size (fun q hq=>by injection hq with hq;omega);go_wp2;go_roundw
                 case rel=>
                  refine⟨k+1,B2',m2',LW,byOmega,by go_num,HS.out,?_,Fb⟩;rw[HK.out,aey];exact hst5
                 case measure=>simp[intOf];omega
          · have hpn:(pe !=0)=true:=(by simp[hp0]);rw[if_pos hp0]at hs;have HF:=au (show iU H Q=pe by rw[HL.out,<-hs]);clear hs;go_wp2
            go_ret2
            exact uD HF.out hp0 vg
        · have hd1:decide ((k:Int)<(n2:Int))=false:=ay;rw[bF byOmega]at hs;rw[List.take_of_length_le byOmega]at hst;have HF:=au (show iU H Q=0 by rw[HL.out,<-hs];rfl);clear hs;go_wp2
          go_ret2
          exact⟨_,by rw[HF.out];rfl,hb,fun _=>⟨_,_,_,_,_,_,_,rfl,Nat.le_refl _,hst⟩⟩
