/- The walks of slices.Clone, slices.Contains and mvcc's writes. -/
import Derived.Maps.RangeWalk
import Derived.DeepKeys4
import Derived.Deep.MidRow
import Derived.BigRegion
import Derived.Test.YtcalkfgibflbnaaGreatBaaa
import Derived.Test.YtcalkfgibflbnaaGreatBaab
namespace Go.Proofs.YtcalkfgibflbnaaGreat
set_option maxHeartbeats 4000000
set_option maxRecDepth 100000
open Go.RowKit Fl
attribute [local go_sem] dJ
theorem KF:(Tryz.prog.info? 160).map (fun i=>(i.zero,i.size,i.bytes))=some (some (.agg #[.int .i64 0,.int .i64 0,.int .i64 0,.int .i64 0,.float .f64 0,.string ⟨#[]⟩]),6,56):=ah
theorem Yq (A:Option Addr) (n c:Nat) (l:List Vn) (w:World) (h:Sl fC 6 w w.heap.size A n l) (hn:n<=5000000):
 Calls Tryz.prog 163 #[.slice A n c] w fun e w'=>∃v,e=.returned v/\bV Vn.cells 160 6 w.heap.size w' v l/\Below w.heap.size w w':=by
 cases A with
 |none=>
  have hl:l=[]:=by
   rcases Nat.eq_zero_or_pos n with h0|h0
   · exact List.eq_nil_of_length_eq_zero (by rw[h.1];exact h0)
   · obtain⟨ad,_,_,e,_⟩:=h.at_ h0;cases e
  subst hl;obtain rfl:n=0:=h.1.symm;have he:∀w:World,(binOp .eql 156 (.slice none 0 c) (.slice none 0 0)).run Tryz.prog w=.ok (.bool true) w:=fun _=>rfl
  go_enter Tryz.func163,Tryz.ntmps163;go_wp2;go_ret;exact⟨_,rfl,bV.nil _,aC⟩
 |some ad=>
  obtain⟨i0,hi0,hz0,hz1,hz2⟩:=info_parts KF;have hl:=h.1;have he:∀w:World,(binOp .eql 156 (.slice (some ad) n c) (.slice none 0 0)).run Tryz.prog w=.ok (.bool false) w:=fun _=>rfl
  have hr:=h.reads byOmega J4;go_enter Tryz.func163,Tryz.ntmps163;go_wp2_with (first
   |(at_builtin
     refine iI _ rfl (.tmp 5) (.tmp 6) _ rfl w.heap.size 160 i0 _ 6 56 Tryz.underlying156 hi0 hz0 hz1 hz2 rfl byOmega (.slice (some ⟨w.heap.size,0,none⟩) 0 0) 0 [] aI
      (World.ownsRow_made w #[] 0 (Nat.le_refl _) dX rfl) w.heap.size (some ad) n c (l.flatMap Vn.cells) aI (hr.alloc (Nat.le_refl _) _) (J5 Pm l) dX byOmega aA ?_
     intro v1 w1 hown1 hg1 nN;simp only[Nat.zero_add,List.nil_append]at hown1;obtain⟨A1,c1,rfl,hn1,hc1⟩:=fP hown1))
  have hb1:Below w.heap.size w w1:=((aC).alloc (Nat.le_refl _) _).grown hg1 aA (by intro k hk;simp[Value.ownBlock]at hk;omega);go_ret;refine⟨_,rfl,?_,hb1⟩;unfold bV;rw[hl];exact hown1
theorem Yr (A:Option Addr) (n c:Nat) (l:List ByteArray) (w:World) (h:Sl aO 1 w w.heap.size A n l) (hn:n<=5000000):
 Calls Tryz.prog 206 #[.slice A n c] w fun e w'=>∃v,e=.returned v/\bV gQ 9 1 w.heap.size w' v l/\Below w.heap.size w w':=by
 cases A with
 |none=>
  have hl:l=[]:=by
   rcases Nat.eq_zero_or_pos n with h0|h0
   · exact List.eq_nil_of_length_eq_zero (by rw[h.1];exact h0)
   · obtain⟨ad,_,_,e,_⟩:=h.at_ h0;cases e
  subst hl;obtain rfl:n=0:=h.1.symm;have he:∀w:World,(binOp .eql 27 (.slice none 0 c) (.slice none 0 0)).run Tryz.prog w=.ok (.bool true) w:=fun _=>rfl
  go_enter Tryz.func206,Tryz.ntmps206;go_wp2;go_ret;exact⟨_,rfl,bV.nil _,aC⟩
 |some ad=>
  obtain⟨i0,hi0,hz0,hz1,hz2⟩:=info_parts Dv;have hl:=h.1;have he:∀w:World,(binOp .eql 27 (.slice (some ad) n c) (.slice none 0 0)).run Tryz.prog w=.ok (.bool false) w:=fun _=>rfl
  have hr:=h.reads byOmega AU;go_enter Tryz.func206,Tryz.ntmps206;go_wp2_with (first
   |(at_builtin
     refine iI _ rfl (.tmp 5) (.tmp 6) _ rfl w.heap.size 9 i0 _ 1 16 Tryz.underlying27 hi0 hz0 hz1 hz2 rfl byOmega (.slice (some ⟨w.heap.size,0,none⟩) 0 0) 0 [] aI
      (World.ownsRow_made w #[] 0 (Nat.le_refl _) dX rfl) w.heap.size (some ad) n c (l.flatMap gQ) aI (hr.alloc (Nat.le_refl _) _) (J5 EP l) dX byOmega aA ?_
     intro v1 w1 hown1 hg1 nN;simp only[Nat.zero_add,List.nil_append]at hown1;obtain⟨A1,c1,rfl,hn1,hc1⟩:=fP hown1))
  have hb1:Below w.heap.size w w1:=((aC).alloc (Nat.le_refl _) _).grown hg1 aA (by intro k hk;simp[Value.ownBlock]at hk;omega);go_ret;refine⟨_,rfl,?_,hb1⟩;unfold bV;rw[hl];exact hown1
theorem Yt (A:Option Addr) (n c:Nat) (l:List Wt) (w:World) (h:Sl aF 4 w w.heap.size A n l) (hn:n<=5000000):
 Calls Tryz.prog 207 #[.slice A n c] w fun e w'=>∃v,e=.returned v/\bV Wt.cells 61 4 w.heap.size w' v l/\Below w.heap.size w w':=by
 cases A with
 |none=>
  have hl:l=[]:=by
   rcases Nat.eq_zero_or_pos n with h0|h0
   · exact List.eq_nil_of_length_eq_zero (by rw[h.1];exact h0)
   · obtain⟨ad,_,_,e,_⟩:=h.at_ h0;cases e
  subst hl;obtain rfl:n=0:=h.1.symm;have he:∀w:World,(binOp .eql 29 (.slice none 0 c) (.slice none 0 0)).run Tryz.prog w=.ok (.bool true) w:=fun _=>rfl
  go_enter Tryz.func207,Tryz.ntmps207;go_wp2;go_ret;exact⟨_,rfl,bV.nil _,aC⟩
 |some ad=>
  obtain⟨i0,hi0,hz0,hz1,hz2⟩:=info_parts Kz;have hl:=h.1;have he:∀w:World,(binOp .eql 29 (.slice (some ad) n c) (.slice none 0 0)).run Tryz.prog w=.ok (.bool false) w:=fun _=>rfl
  have hr:=h.reads byOmega Hr;go_enter Tryz.func207,Tryz.ntmps207;go_wp2_with (first
   |(at_builtin
     refine iI _ rfl (.tmp 5) (.tmp 6) _ rfl w.heap.size 61 i0 _ 4 48 Tryz.underlying29 hi0 hz0 hz1 hz2 rfl byOmega (.slice (some ⟨w.heap.size,0,none⟩) 0 0) 0 [] aI
      (World.ownsRow_made w #[] 0 (Nat.le_refl _) dX rfl) w.heap.size (some ad) n c (l.flatMap Wt.cells) aI (hr.alloc (Nat.le_refl _) _) (J5 Pj l) dX byOmega aA ?_
     intro v1 w1 hown1 hg1 nN;simp only[Nat.zero_add,List.nil_append]at hown1;obtain⟨A1,c1,rfl,hn1,hc1⟩:=fP hown1))
  have hb1:Below w.heap.size w w1:=((aC).alloc (Nat.le_refl _) _).grown hg1 aA (by intro k hk;simp[Value.ownBlock]at hk;omega);go_ret;refine⟨_,rfl,?_,hb1⟩;unfold bV;rw[hl];exact hown1
def oQ (k:ByteArray) (l:List ByteArray):Bool:=l.any fun b=>k.toList==b.toList
def jc (k:ByteArray) (l:List Wt):Bool:=l.any fun a=>a.key.toList==k.toList
theorem yM {α:Type} {f:α->Bool} {l:List α} {k:Nat} {a:α} (h:l[k]?=some a):(l.drop k).any f=(f a||(l.drop (k+1)).any f):=by
 have h1:=List.getElem?_eq_some_iff.1 h;rw[List.drop_eq_getElem_cons h1.1,h1.2];rfl
def AY {α:Type} (f:α->Bool) (l:List α) (w:World) (i:Value) (wr:World):Prop:=∃k:Nat,k<=l.length/\i=.int .i64 (k:Int)/\(l.drop k).any f=l.any f/\Below w.heap.size w wr
theorem Yu (A:Option Addr) (n c:Nat) (l:List ByteArray) (x:ByteArray) (w:World) (h:Sl aO 1 w w.heap.size A n l) (hn:n<=maxLen):
 Calls Tryz.prog 231 #[.slice A n c,.string x] w fun e w'=>∃z:Int,e=.returned (.int .i64 z)/\decide (0<=z)=oQ x l/\Below w.heap.size w w':=by
 unfold maxLen at hn;have hl:=h.1;have hge:n<=l.length:=byOmega;have hle:l.length<=n:=byOmega;clear hl;go_enter Tryz.func231,Tryz.ntmps231;go_wp2
 go_loopw [8] (fun i wr=>AY (fun b=>x.toList==b.toList) l w i wr) (fun i _=>n-(intOf i).toNat)
 case atStart=>exact⟨0,byOmega,rfl,rfl,aC⟩
 case round=>
  obtain⟨k,hk,rfl,hs,hb⟩:=hrel;by_cases hlt:k<n
  · obtain⟨ad,a,rfl,ha,hbk,hok,c0⟩:=(h.below aO.kept hb).ky hlt;have hd1:decide ((k:Int)<(n:Int))=true:=ay;have hk0:(0:Int)<=(k:Int):=byOmega;have hk1:(k:Int)<(n:Int):=byOmega;rw[yM ha]at hs;cases hq:(x.toList==a.toList)
    · rw[hq]at hs;have HT:=au hs;clear hs ha;go_wp2;go_roundw
      case rel=>exact⟨k+1,byOmega,by go_num,HT.out,hb⟩
      case measure=>simp[intOf];omega
    · have HF:=au (show oQ x l=true by unfold oQ;rw[<-hs,hq];rfl);clear hs ha;go_wp2;go_ret;exact⟨k,rfl,by rw[HF.out];simp,hb⟩
  · have hd1:decide ((k:Int)<(n:Int))=false:=ay;have HF:=au (show oQ x l=false by unfold oQ;rw[<-hs,bF byOmega];rfl);clear hs;go_wp2;go_ret;exact⟨-1,rfl,by rw[HF.out];simp,hb⟩
theorem P5 (A:Option Addr) (n c:Nat) (l:List ByteArray) (x:ByteArray) (w:World) (h:Sl aO 1 w w.heap.size A n l) (hn:n<=maxLen):
 Calls Tryz.prog 204 #[.slice A n c,.string x] w fun e w'=>e=.returned (.bool (oQ x l))/\Below w.heap.size w w':=by
 go_enter Tryz.func204,Tryz.ntmps204;go_wp2_with (go_at_call 231;fail);refine(Yu A n c l x w h hn).mono ?_;rintro e w1 ⟨z,rfl,hz,hb⟩;have HZ:=au hz;clear hz;go_wp2;go_ret;exact⟨aZ HZ.out,hb⟩
theorem Yv (a:Wt) (x:ByteArray) (B:Nat) (w:World) (hB:B<w.heap.size) (hc:w.cell? ⟨B,0,none⟩=some (.string x)):
 Calls Tryz.prog 230 #[a.val,.pointer (some ⟨B,0,none⟩)] w fun e w'=>e=.returned (.bool (a.key.toList==x.toList))/\Below w.heap.size w w':=by
 go_enter Tryz.func230,Tryz.ntmps230;go_wp2;go_ret;exact⟨rfl,by go_grown⟩
theorem Yw (A:Option Addr) (n c:Nat) (l:List Wt) (x:ByteArray) (B:Nat) (w:World) (h:Sl aF 4 w w.heap.size A n l) (hn:n<=maxLen) (hB:B<w.heap.size) (hc:w.cell? ⟨B,0,none⟩=some (.string x)):
 Calls Tryz.prog 235 #[.slice A n c,.func (.func 230) #[] #[.pointer (some ⟨B,0,none⟩)]] w fun e w'=>∃z:Int,e=.returned (.int .i64 z)/\decide (0<=z)=jc x l/\Below w.heap.size w w':=by
 unfold maxLen at hn;have hl:=h.1;have hge:n<=l.length:=byOmega;have hle:l.length<=n:=byOmega;clear hl;go_enter Tryz.func235,Tryz.ntmps235;go_wp2
 go_loopw [8] (fun i wr=>AY (fun a:Wt=>a.key.toList==x.toList) l w i wr) (fun i _=>n-(intOf i).toNat)
 case atStart=>exact⟨0,byOmega,rfl,rfl,aC⟩
 case round=>
  obtain⟨k,hk,rfl,hs,hb⟩:=hrel;have hzz:=hb.size;by_cases hlt:k<n
  · obtain⟨ad,a,rfl,ha,hbk,hok,c0,c1,c2,c3⟩:=(h.below aF.kept hb).wt hlt;have hd1:decide ((k:Int)<(n:Int))=true:=ay;have hk0:(0:Int)<=(k:Int):=byOmega;have hk1:(k:Int)<(n:Int):=byOmega;have hC:=Yv a x B wr byOmega ((hb.cell (p:=⟨B,0,none⟩) hB).trans hc);rw[yM ha]at hs;cases hq:(a.key.toList==x.toList)
    · rw[hq]at hs hC;have HT:=au hs;clear hs ha;go_wp2_with (first
       |((with_reducible refine hC.mono ?_);rintro e w1 ⟨rfl,hb1⟩))
      go_roundw
      case rel=>exact⟨k+1,byOmega,by go_num,HT.out,hb.trans (hb1.mono hzz)⟩
      case measure=>simp[intOf];omega
    · have HF:=au (show jc x l=true by unfold jc;rw[<-hs,hq];rfl);rw[hq]at hC;clear hs ha;go_wp2_with (first
       |((with_reducible refine hC.mono ?_);rintro e w1 ⟨rfl,hb1⟩))
      go_ret;exact⟨k,rfl,by rw[HF.out];simp,hb.trans (hb1.mono hzz)⟩
  · have hd1:decide ((k:Int)<(n:Int))=false:=ay;have HF:=au (show jc x l=false by unfold jc;rw[<-hs,bF byOmega];rfl);clear hs;go_wp2;go_ret;exact⟨-1,rfl,by rw[HF.out];simp,hb⟩
theorem Yx (A:Option Addr) (n c:Nat) (l:List Wt) (x:ByteArray) (B:Nat) (w:World) (h:Sl aF 4 w w.heap.size A n l) (hn:n<=maxLen) (hB:B<w.heap.size) (hc:w.cell? ⟨B,0,none⟩=some (.string x)):
 Calls Tryz.prog 229 #[.slice A n c,.func (.func 230) #[] #[.pointer (some ⟨B,0,none⟩)]] w fun e w'=>e=.returned (.bool (jc x l))/\Below w.heap.size w w':=by
 go_enter Tryz.func229,Tryz.ntmps229;go_wp2_with (go_at_call 235;fail);refine(Yw A n c l x B w h hn hB hc).mono ?_;rintro e w1 ⟨z,rfl,hz,hb⟩;have HZ:=au hz;clear hz;go_wp2;go_ret;exact⟨aZ HZ.out,hb⟩
theorem P6 (p:Pn) (r:Value) (x:ByteArray) (A:Option Addr) (n c:Nat) (w:World) (_hr:r.oneCell'=true) (h:Sl aF 4 w w.heap.size A n p.w) (hn:n<=maxLen):
 Calls Tryz.prog 203 #[p.val r (.slice A n c),.string x] w fun e w'=>e=.returned (.bool (jc x p.w))/\Below w.heap.size w w':=by
 go_enter Tryz.func203,Tryz.ntmps203;go_wp2_with (go_at_call 229;fail);have hX:Below w.heap.size w ((w.alloc (.cells #[.int .i64 p.t.c,.int .i64 p.t.l,.int .i64 p.t.s,.int .i64 p.s.w,.int .i64 p.s.l,.int .i64 p.s.n,r,.slice A n c] 162)).alloc (.cells #[.string x] 9)):=aJ;refine(Yx A n c p.w x (w.heap.size+1) _ (h.below aF.kept hX|>.more aF.kept hX.size) hn aA ((aj.new' _ _ aA).cell 0)).mono ?_;rintro e w1 ⟨rfl,hb⟩;go_wp2;go_ret;exact⟨rfl,hX.trans (hb.mono hX.size)⟩
section
variable {α:Type} {f:α->List Value} {E size base base':Nat} {w:World} {v:Value} {l:List α}
theorem bV.zU (h:bV f E size base w v l) (hb:base'<=base):bV f E size base' w v l:=by
 refine⟨h.1,?_⟩;rcases h.2 with h|⟨g,c,cur,e,hg,r⟩
 · exact .inl h
 · exact .inr ⟨g,c,cur,e,Nat.le_trans hb hg,r⟩
theorem bV.far (h:bV f E size base w v l) {g:Nat} (hg:g<base):v.ownBlock=none∨v.ownBlock≠some g:=by
 cases e:v.ownBlock with
 |none=>exact .inl rfl
 |some k=>
  refine .inr fun e2=>?_
  have:=(h.lt k e).1;injection e2 with e2
  omega
theorem bV.Ic (h:bV f E size base w v l) {p:Addr} (hp:p.block<base) (u:Value):bV f E size base (w.setCell p u) v l:=
 World.ownsRow.kept (row:=some p.block) h ⟨rfl,rfl,rfl,aA,fun k _ hne=>Below.heap_setCell w p u k (fun e=>hne (by rw[e]))⟩ (h.far hp)
theorem bV.jT (h:bV f E size base w v l) {g:Nat} (hp:g<base) (cs:Array Value):bV f E size base (w.setRow g cs) v l:=
 World.ownsRow.kept (row:=some g) h ⟨rfl,rfl,rfl,aA,fun k _ hne=>setRow_other w g k cs (fun e=>hne (by rw[e]))⟩ (h.far hp)
end
def P7 (p:Pn) (w:World):Ending->World->Prop:=fun e w'=>∃r q,e=.returned (p.val r q)/\bV gQ 9 1 w.heap.size w' r p.r/\bV Wt.cells 61 4 w.heap.size w' q p.w/\Below w.heap.size w w'
theorem Yy (p:Pn) (A1 A2:Option Addr) (n1 n2 c1 c2:Nat) (w:World) (hr:Sl aO 1 w w.heap.size A1 n1 p.r) (hw:Sl aF 4 w w.heap.size A2 n2 p.w) (hn1:n1<=5000000) (hn2:n2<=5000000):
 Calls Tryz.prog 166 #[p.val (.slice A1 n1 c1) (.slice A2 n2 c2)] w (P7 p w):=by
 go_enter Tryz.func166,Tryz.ntmps166;go_wp2_with (go_at_call 206;fail);have hX:Below w.heap.size w ((w.alloc (.cells #[.int .i64 p.t.c,.int .i64 p.t.l,.int .i64 p.t.s,.int .i64 p.s.w,.int .i64 p.s.l,.int .i64 p.s.n,.slice A1 n1 c1,.slice A2 n2 c2] 162)).alloc (.cells #[.int .i64 0,.int .i64 0,.int .i64 0,.int .i64 0,.int .i64 0,.int .i64 0,.slice none 0 0,.slice none 0 0] 162)):=aJ;have d1:=(aj.new w 162 #[.int .i64 p.t.c,.int .i64 p.t.l,.int .i64 p.t.s,.int .i64 p.s.w,.int .i64 p.s.l,.int .i64 p.s.n,.slice A1 n1 c1,.slice A2 n2 c2]).alloc (.cells #[.int .i64 0,.int .i64 0,.int .i64 0,.int .i64 0,.int .i64 0,.int .i64 0,.slice none 0 0,.slice none 0 0] 162);have d2:=aj.new' (w:=w.alloc (.cells #[.int .i64 p.t.c,.int .i64 p.t.l,.int .i64 p.t.s,.int .i64 p.s.w,.int .i64 p.s.l,.int .i64 p.s.n,.slice A1 n1 c1,.slice A2 n2 c2] 162)) (g:=w.heap.size+1) 162 #[.int .i64 0,.int .i64 0,.int .i64 0,.int .i64 0,.int .i64 0,.int .i64 0,.slice none 0 0,.slice none 0 0] aA;refine(Yr A1 n1 c1 p.r _ (hr.below aO.kept hX|>.more aO.kept hX.size) hn1).mono ?_;rintro e w1 ⟨v1,rfl,ho1,hb1⟩;have e1:=d1.below hb1 d1.lt;have e2:=d2.below hb1 d2.lt;have hw1:Below w.heap.size w w1:=hX.trans (hb1.mono hX.size);replace ho1:bV gQ 9 1 (w.heap.size+2) w1 v1 p.r:=ho1.zU aA;clear hb1 hX d1 d2;obtain⟨g1,x0,x1,x2,x3,x4,x5,x6,x7⟩:=e1.eight;have g2:=e2.lt;have f6:=e1.frozen 6;have f7:=e1.frozen 7;obtain⟨A3,q3,rfl,hq3,xG⟩:=ho1.form;go_wp2_with (go_at_call 207;fail);have ho2:=ho1.Ic (p:=⟨w.heap.size,6,none⟩) aA (.slice A3 p.r.length q3);have k1:aj (w1.setCell ⟨w.heap.size,6,none⟩ (.slice A3 p.r.length q3)) w.heap.size 162 #[.int .i64 p.t.c,.int .i64 p.t.l,.int .i64 p.t.s,.int .i64 p.s.w,.int .i64 p.s.l,.int .i64 p.s.n,.slice A3 p.r.length q3,.slice A2 n2 c2]:=e1.fB 6 _;have k2:=e2.far (p:=⟨w.heap.size,6,none⟩) aA (.slice A3 p.r.length q3);have hw2:Below w.heap.size w (w1.setCell ⟨w.heap.size,6,none⟩ (.slice A3 p.r.length q3)):=hw1.setCell aA _;clear e1 e2 ho1 hw1 x0 x1 x2 x3 x4 x5 x6 x7 f6 f7;generalize (w1.setCell ⟨w.heap.size,6,none⟩ (.slice A3 p.r.length q3))=w2 at*;refine(Yt A2 n2 c2 p.w _ (hw.below aF.kept hw2|>.more aF.kept hw2.size) hn2).mono ?_;rintro e w3 ⟨v3,rfl,ho3,hb3⟩;have e1:=k1.below hb3 k1.lt;have e2:=k2.below hb3 k2.lt;have hw3:Below w.heap.size w w3:=hw2.trans (hb3.mono hw2.size);have l2:=k2.lt;replace ho3:bV Wt.cells 61 4 (w.heap.size+2) w3 v3 p.w:=ho3.zU byOmega;have ho2:=ho2.below hb3;clear k1 k2 hw2;obtain⟨g1,x0,x1,x2,x3,x4,x5,x6,x7⟩:=e1.eight;have g2:=e2.lt;have f7:=e1.frozen 7;obtain⟨A4,q4,rfl,hq4,Yz⟩:=ho3.form;have e3:aj (w3.setCell ⟨w.heap.size,7,none⟩ (.slice A4 p.w.length q4)) w.heap.size 162 #[.int .i64 p.t.c,.int .i64 p.t.l,.int .i64 p.t.s,.int .i64 p.s.w,.int .i64 p.s.l,.int .i64 p.s.n,.slice A3 p.r.length q3,.slice A4 p.w.length q4]:=e1.fB 7 _;have e4:=e2.far (p:=⟨w.heap.size,7,none⟩) aA (.slice A4 p.w.length q4);go_wp2_with (first
  |(refine wpList_store_row rfl 162 _ _ rfl _ _ rfl rfl _ _ e4 ah ah ah ?_))
 refine gJ rfl aI (e4.setRow _) rfl rfl ah ?_;refine⟨_,_,rfl,?_,?_,?_⟩
 · exact((ho2.Ic aA _).jT byOmega _).zU byOmega
 · exact((ho3.Ic aA _).jT byOmega _).zU byOmega
 · exact below_setRow (hw3.setCell aA _) byOmega _
abbrev xH:Value->Option (DataW Value×List MemPlace):=fun v=>some (.held v,[])
theorem YA:laidOutB Tryz.prog=true:=ah
theorem P8:Maps.Keyed Tryz.prog 9:=Maps.string_keyed Tryz.underlying9
theorem Dw:Maps.Keyed Tryz.prog 23:=Maps.Keyed.of_law (deep_law_laid (m:=3) YA byOmega (of_decide_eq_true ah) ah ah)
noncomputable def oU (t:Tx):Lit:=(keyOf Tryz.prog 23 t.val).getD .nil
theorem EY {t:Tx} (h:t.ok):keyOf Tryz.prog 23 t.val=some (oU t):=by
 have hw:∀z,bG z->(Lit.int .i64 z).wf=true:=fun z hz=>by unfold bG at hz;simp[Lit.wf,IntKind.min,IntKind.max,IntKind.signed,IntKind.bits];omega
 have e:keyOf Tryz.prog 23 t.val=some (.string (keyBytes [.int .i64 t.c,.int .i64 t.l,.int .i64 t.s])):=by
  unfold keyOf;rw[Tryz.underlying23];have h1:(Tryz.prog.keyType 23&&Value.formed Tryz.prog 23 t.val)=true:=ah;show (if _ then _ else _)=_;rw[if_pos h1];obtain⟨m,hm⟩:∃m,Tryz.prog.types.size=m+1:=⟨Tryz.prog.types.size-1,by
   have:0<Tryz.prog.types.size:=of_decide_eq_true ah;omega⟩
  rw[hm];have hc:Tryz.prog.cellsOf 23=3:=ah;have hi:Tryz.prog.cellsOf 3=1:=ah;simp[Program.keyLits,Tryz.underlying23,Tryz.underlying3,hc,hi,Value.cells,hw _ h.1,hw _ h.2.1,hw _ h.2.2]
 unfold oU;rw[e];rfl
theorem KG {a b:Tx} (ha:a.ok) (hb:b.ok) (h:oU a=oU b):a=b:=by
 have h1:=EY ha;have h2:=EY hb;rw[h]at h1;have:=Dw.inj h1 h2;cases a;cases b;simpa using this
def pV (l:List Hs) (key:ByteArray):List Vn:=l.foldl (fun acc h=>if h.key.toList==key.toList then h.vs else acc) []
theorem YB (l:List Hs) (h:Hs) (key:ByteArray):pV (l++[h]) key=if h.key.toList==key.toList then h.vs else pV l key:=by
 unfold pV;rw[List.foldl_append];rfl
abbrev xI (k:ByteArray):Lit:=.string k.data.toList
abbrev YC:DataW Value:=.held (.slice none 0 0)
def qZ (w:World) (B:Nat) (D:DataW Value) (l:List Hs):Prop:=∀key:ByteArray,∃v,D.atKey (xI key) YC=.held v/\dH fC 6 w B v (pV l key)
def ru (w:World) (B:Nat) (D:DataW Value) (l:List Pn):Prop:=
 (∀kl,Maps.has D kl=true->∃p∈l,kl=oU p.t)/\∀p∈l,p.t.ok/\p.s.ok/\∃r q,(∀zd,D.atKey (oU p.t) zd=.held (p.val r q))/\dH aO 1 w B r p.r/\dH aF 4 w B q p.w
section
variable {w w':World} {B B':Nat} {D:DataW Value} {l:List Hs} {m:List Pn}
theorem qZ.below (h:qZ w B D l) (hb:Below B w w'):qZ w' B D l:=fun key=>by
 obtain⟨v,e,hv⟩:=h key;exact⟨v,e,hv.below fC.kept hb⟩
theorem qZ.more (h:qZ w B D l) (hB:B<=B'):qZ w B' D l:=fun key=>by
 obtain⟨v,e,hv⟩:=h key;exact⟨v,e,hv.more fC.kept hB⟩
theorem ru.below (h:ru w B D m) (hb:Below B w w'):ru w' B D m:=⟨h.1,fun p hp=>by
 obtain⟨h1,h2,r,q,e,hr,hq⟩:=h.2 p hp;exact⟨h1,h2,r,q,e,hr.below aO.kept hb,hq.below aF.kept hb⟩⟩
theorem ru.more (h:ru w B D m) (hB:B<=B'):ru w B' D m:=⟨h.1,fun p hp=>by
 obtain⟨h1,h2,r,q,e,hr,hq⟩:=h.2 p hp;exact⟨h1,h2,r,q,e,hr.more aO.kept hB,hq.more aF.kept hB⟩⟩
theorem qZ.nil:qZ w B (.map []) []:=fun _=>⟨_,rfl,dH.nil⟩
theorem ru.nil:ru w B (.map []) []:=⟨fun kl h=>by simp[Maps.has]at h,fun p hp=>by simp at hp⟩
theorem YD {a b:ByteArray} (h:xI a=xI b):a.toList=b.toList:=by
 injection h with h
 rw[ByteArray.toList_eq,ByteArray.toList_eq,h]
theorem qZ.put (h:qZ w B D l) (hD:Maps.IsMap D) {x:Hs} {v:Value} (hv:dH fC 6 w B v x.vs):qZ w B (D.put (xI x.key) (.held v)) (l++[x]):=fun key=>by
 rw[YB];by_cases hk:x.key.toList=key.toList
 · have e:xI key=xI x.key:=(by rw[ByteArray.toList_eq,ByteArray.toList_eq]at hk;show Lit.string _=Lit.string _;rw[hk]);rw[e,Maps.atKey_put_same hD (show WideAt.IsKeyLit (xI x.key) from trivial)];refine⟨v,rfl,?_⟩;simp only[hk,beq_self_eq_true,if_true];exact hv
 · obtain⟨u,e,hu⟩:=h key;refine⟨u,?_,?_⟩
   · rw[Maps.atKey_put_other (fun e2=>hk (YD e2).symm)];exact e
   · simp only[beq_eq_false_iff_ne.2 hk,Bool.false_eq_true,if_false];exact hu
set_option maxRecDepth 100000 in
theorem ru.put (h:ru w B D m) (hD:Maps.IsMap D) {p:Pn} {r q:Value} (h1:p.t.ok) (h2:p.s.ok) (hr:dH aO 1 w B r p.r) (hq:dH aF 4 w B q p.w) (hn:∀x∈m,x.t≠p.t):
 ru w B (D.put (oU p.t) (.held (p.val r q))) (m++[p]):=by
 have hk:WideAt.IsKeyLit (oU p.t):=Dw.key (EY h1);refine⟨fun kl hkl=>?_,fun x hx=>?_⟩
 · by_cases e:kl=oU p.t
   · exact⟨p,aA,e⟩
   · rw[Maps.has_put_other e]at hkl;obtain⟨x,hx,e2⟩:=h.1 kl hkl;exact⟨x,by simp[hx],e2⟩
 · rcases List.mem_append.1 hx with hx|hx
   · obtain⟨h3,h4,r',q',e,hr',hq'⟩:=h.2 x hx;refine⟨h3,h4,r',q',fun zd=>?_,hr',hq'⟩;rw[Maps.atKey_put_other (fun e2=>hn x hx (KG h3 h1 e2))];exact e zd
   · simp only[List.mem_cons,List.not_mem_nil,or_false]at hx;subst hx;exact⟨h1,h2,r,q,fun zd=>Maps.atKey_put_same hD hk _ _,hr,hq⟩
end
structure pW (w:World) (base g b1 b2:Nat) (l:List Hs) (m:List Pn):Prop where
 blk:aj w g 231 #[.map (some b1),.map (some b2),.int .i64 0,.int .i64 0,.int .i64 0]
 g0:base<=g
 b10:base<=b1
 b20:base<=b2
 ne:b1≠b2
 ne1:g≠b1
 Ie:g≠b2
 ks:∃D,w.ownsMap Tryz.prog 9 xH b1 l.length D/\qZ w w.heap.size D l
 one:∀p∈m,∀p'∈m,p.t=p'.t->p=p'
 ps:∃D,w.ownsMap Tryz.prog 23 xH b2 m.length D/\ru w w.heap.size D m
theorem grownBy_below {w w':World} (hb:Below w.heap.size w w') (row:Option Nat):w.grownBy w' row:=⟨hb.os,hb.tape,hb.output,hb.size,fun k hk _=>hb.block k hk⟩
theorem pW.below {w w':World} {base g b1 b2:Nat} {l:List Hs} {m:List Pn} (h:pW w base g b1 b2 l m) (hb:Below w.heap.size w w'):pW w' base g b1 b2 l m:=by
 obtain⟨D1,o1,k1⟩:=h.ks;obtain⟨D2,o2,k2⟩:=h.ps;exact⟨h.blk.below hb h.blk.lt,h.g0,h.b10,h.b20,h.ne,h.ne1,h.Ie,⟨D1,o1.kept (grownBy_below hb none) aA,(k1.below hb).more hb.size⟩,h.one,⟨D2,o2.kept (grownBy_below hb none) aA,(k2.below hb).more hb.size⟩⟩
set_option maxHeartbeats 1000000 in
theorem YE (w:World):Calls Tryz.prog 161 #[] w fun e w'=>∃g b1 b2,e=.returned (.pointer (some ⟨g,0,none⟩))/\pW w' w.heap.size g b1 b2 [] []/\Below w.heap.size w w':=by
 have hmm:=@run_makeMap Tryz.prog;go_enter Tryz.func161,Tryz.ntmps161;go_wp2;go_ret;refine⟨_,w.heap.size,w.heap.size+1,rfl,⟨aj.new' _ _ aA,by first|omega|(simp;omega),by first|omega|simp,by first|omega|simp,by first|omega|simp,by first|omega|(simp;omega),by first|omega|simp,⟨.map [],?_,qZ.nil⟩,aA,⟨.map [],?_,ru.nil⟩⟩,(((aC).alloc (Nat.le_refl _) _).alloc aA _).alloc ay _⟩
 · exact((World.ownsMap_made w _ _ _).alloc _).alloc _
 · have h:=(World.ownsMap_made (w.alloc (.map #[] 0)) Tryz.prog 23 xH).alloc (.cells #[.map (some w.heap.size),.map (some (w.heap.size+1)),.int .i64 0,.int .i64 0,.int .i64 0] 231);rw[show (w.alloc (.map #[] 0)).heap.size=w.heap.size+1 from aA]at h;exact h
theorem YF {P:Program} (w:World) {ops:Array Oper} {rest:List Oper} {o:Oper} {a:Act} {Q:Exit->Act->World->Prop}
 (hg:o.guard=none) (m x:Operand) (t:TypeId) (hop:o.op=Op.lookup t m x false)
 (k e:TypeId) (K:Maps.Keyed P k) (ht:P.underlying t=some (.map k e)) (z:Value) (hz:(zeroValue e).run P w=.ok z w) (b n:Nat) (D:DataW Value)
 (hm:a.eval m=.map (some b)) (hown:w.ownsMap P k xH b n D) (key:Value) (kl:Lit) (hx:a.eval x=key) (hkey:keyOf P k key=some kl)
 (hK:∀v,D.atKey kl (.held z)=.held v->wpList P ops Q rest (a.put o.dst v) w):wpList P ops Q (o::rest) a w:=by
 refine wpList_plain hg fun K' hK'=>?_
 obtain⟨v,ps,hrun,hat⟩:=hown.lookup K ht hz rfl hkey;unfold Oper.wp;simp[execOp,hop,hm,hx,hrun,Result.andThen];refine hK' _ _ (hK v ?_);injection hat with hat
 injection hat with h1 h2
 exact h1.symm
theorem aj.zV {w:World} {g:Nat} {t:TypeId} {a b c d e:Value} (h:aj w g t #[a,b,c,d,e]):g<w.heap.size/\w.cell? ⟨g,0,none⟩=some a/\w.cell? ⟨g,1,none⟩=some b/\w.cell? ⟨g,2,none⟩=some c/\
 w.cell? ⟨g,3,none⟩=some d/\w.cell? ⟨g,4,none⟩=some e:=⟨h.lt,h.cell 0,h.cell 1,h.cell 2,h.cell 3,h.cell 4⟩
theorem aj.Dx {w:World} {g:Nat} {t:TypeId} {a b c d e f i:Value} (h:aj w g t #[a,b,c,d,e,f,i]):g<w.heap.size/\w.cell? ⟨g,0,none⟩=some a/\w.cell? ⟨g,1,none⟩=some b/\w.cell? ⟨g,2,none⟩=some c/\
 w.cell? ⟨g,3,none⟩=some d/\w.cell? ⟨g,4,none⟩=some e/\w.cell? ⟨g,5,none⟩=some f/\w.cell? ⟨g,6,none⟩=some i:=⟨h.lt,h.cell 0,h.cell 1,h.cell 2,h.cell 3,h.cell 4,h.cell 5,h.cell 6⟩
theorem aj.range {w:World} {g:Nat} {t:TypeId} {cs:Array Value} (h:aj w g t cs) (o:Nat) (xs:List Value) (hx:∀j v,xs[j]?=some v->cs[o+j]?=some v):w.rangeAt g o xs:=fun j v hj=>by rw[h.cell];exact hx j v hj
theorem aj.there {w:World} {g:Nat} {t:TypeId} {cs:Array Value} (h:aj w g t cs) (o n:Nat) (hn:o+n<=cs.size):w.there g o n:=fun j hj=>by
 refine⟨?_,h.frozen _⟩;rw[h.cell,Array.getElem?_eq_getElem byOmega];rfl
theorem wK {cs:Array Value} {o:Nat} {a b c:Value} (h0:cs[o]?=some a) (h1:cs[o+1]?=some b) (h2:cs[o+2]?=some c):∀j v,[a,b,c][j]?=some v->cs[o+j]?=some v:=by
 intro j v hj
 match j,hj with
 |0,hj=>simp at hj;subst hj;exact h0
 |1,hj=>simp at hj;subst hj;exact h1
 |2,hj=>simp at hj;subst hj;exact h2
theorem Ig {P:Program} {md:Region.Mode} {ops:Array Oper} {Q:Exit->Act->World->Prop} {S:World->Prop} {fuel:Nat} {listed:Array Bool} {a:Act} {w:World} {i:Nat} {op:Oper}
 (hr:Region.ready md ops listed=[i]) (ho:ops[i]?=some op) (hg:op.guard=none) (ty:TypeId) (x y:Operand) (hop:op.op=.store ty x y)
 (b o:Nat) (cells:Array Value) (hx:a.eval x=.pointer (some ⟨b,o,none⟩)) (hy:a.eval y=.agg cells) (ht:w.there b o cells.size) (hi:(P.info? ty).map (·.size)=some cells.size) (h1:cells.all (·.oneCell')=true)
 (hS:S (w.setCells b o cells.toList)) (h:wpAnyH P md ops Q S fuel (listed.setIfInBounds i true) (a.put op.dst undef) (w.setCells b o cells.toList)):wpAnyH P md ops Q S (fuel+1) listed a w:=by
 refine wpAnyH_all hr aA (fun j hj=>?_);obtain rfl:j=i:=by simpa using hj
 refine wpOp_step ho (fun K' hK=>?_);have hw:Region.wanted op (yielded ops a.tmps)=true:=by simp[Region.wanted,hg]
 rw[if_pos hw];exact wp_store_mid ty x y hop b o cells hx hy ht hi h1 (hK _ _ ⟨hS,h⟩)
theorem aj.P9 {w:World} {g:Nat} {t:TypeId} {a b c d e f i x y z:Value} (h:aj w g t #[a,b,c,d,e,f,i]):aj (w.setCells g 1 [x,y,z]) g t #[a,x,y,z,e,f,i]:=((h.fB 1 x).fB 2 y).fB 3 z
theorem aj.Qa {w:World} {g:Nat} {t:TypeId} {a b c d e f i x y z:Value} (h:aj w g t #[a,b,c,d,e,f,i]):aj (w.setCells g 4 [x,y,z]) g t #[a,b,c,d,x,y,z]:=((h.fB 4 x).fB 5 y).fB 6 z
theorem aj.zW {w:World} {g b o:Nat} {t:TypeId} {cs:Array Value} {x y z:Value} (h:aj w g t cs) (hne:g≠b):aj (w.setCells b o [x,y,z]) g t cs:=((h.far (p:=⟨b,o,none⟩) hne x).far (p:=⟨b,o+1,none⟩) hne y).far (p:=⟨b,o+1+1,none⟩) hne z
theorem Ih {B:Nat} {w w':World} {b o:Nat} {x y z:Value} (h:Below B w w') (hb:B<=b):Below B w (w'.setCells b o [x,y,z]):=((h.setCell (p:=⟨b,o,none⟩) hb x).setCell (p:=⟨b,o+1,none⟩) hb y).setCell (p:=⟨b,o+1+1,none⟩) hb z
theorem aj.drew {w:World} {g:Nat} {t:TypeId} {cs:Array Value} (h:aj w g t cs):aj w.drew g t cs:=h
def mW:Vn:=⟨⟨0,0,0⟩,⟨0,0,⟨#[]⟩⟩⟩
def pY (l:List Vn):Vn:=l.foldl (fun _ v=>v) mW
theorem Qb {l:List Vn} {k:Nat} {a:Vn} (h:l[k]?=some a):pY (l.take (k+1))=a:=by
 unfold pY;rw[List.take_add_one,h,List.foldl_append];rfl
abbrev jq (key:ByteArray) (v:Vn):Array Value:=#[.string key,.int .i64 v.v.k,.float .f64 v.v.n,.string v.v.t,.int .i64 v.s.w,.int .i64 v.s.l,.int .i64 v.s.n]
def Qc (key:ByteArray) (l:List Vn) (w:World) (i:Value) (wr:World):Prop:=
 ∃k:Nat,k<=l.length/\i=.int .i64 (k:Int)/\aj wr (w.heap.size+1) 104 (jq ⟨#[]⟩ mW)/\aj wr (w.heap.size+1+1) 104 (jq key (pY (l.take k)))/\Below w.heap.size w wr
set_option maxRecDepth 100000 in
set_option maxHeartbeats 4000000 in
theorem YG (base g b1 b2:Nat) (l:List Hs) (m:List Pn) (key:ByteArray) (s:Sp) (w:World) (h:pW w base g b1 b2 l m) (hk:key.size<=maxLen):
 Calls Tryz.prog 232 #[.pointer (some ⟨g,0,none⟩),.string key,s.val,.bool true] w fun e w'=>e=.returned (.agg (jq key (pY (pV l key))))/\Below w.heap.size w w':=by
 obtain⟨D,ho,hD⟩:=h.ks;obtain⟨gl,c0,c1,c2,c3,c4⟩:=h.blk.zV;have YH:g<w.heap.size+1:=byOmega;have gl2:g<w.heap.size+1+1:=byOmega;have hkey:keyOf Tryz.prog 9 (.string key)=some (xI key):=WideMaps.keyOf_string_mk Tryz.underlying9 hk;obtain⟨v0,hv0,A,n,c,rfl,hnc,hcm,hsl⟩:=hD key;generalize pV l key=vs at*;go_enter Tryz.func232,Tryz.ntmps232;go_wp2_with (first
  |(at_lookup
    refine YF _ rfl _ _ 228 rfl 9 156 P8 Tryz.underlying228 (.slice none 0 0) aI b1 l.length D rfl (((ho.alloc _).alloc _).alloc _) _ (xI key) rfl hkey ?_;intro v hv;rw[hv0]at hv;injection hv with hv
    subst hv))
 have hX:Below w.heap.size w (((w.alloc (.cells s.arr 26)).alloc (.cells (jq ⟨#[]⟩ mW) 104)).alloc (.cells (jq key mW) 104)):=aJ;have i8:aj (((w.alloc (.cells s.arr 26)).alloc (.cells (jq ⟨#[]⟩ mW) 104)).alloc (.cells (jq key mW) 104)) (w.heap.size+1) 104 (jq ⟨#[]⟩ mW):=(aj.new' _ _ aA).alloc _;have i9:aj (((w.alloc (.cells s.arr 26)).alloc (.cells (jq ⟨#[]⟩ mW) 104)).alloc (.cells (jq key mW) 104)) (w.heap.size+1+1) 104 (jq key mW):=aj.new' _ _ aA;have hll:=hsl.1;have hge:n<=vs.length:=byOmega;have hle:vs.length<=n:=byOmega;unfold maxLen at hcm;clear hll hD ho hv0 c0 c1 c2 c3 c4
 go_loopw [21] (fun i wr=>Qc key vs w i wr) (fun i _=>n-(intOf i).toNat)
 case atStart=>exact⟨0,byOmega,rfl,i8,i9,hX⟩
 case round=>
  obtain⟨k,hk',rfl,b8,b9,hb⟩:=hrel;have hzz:=hb.size;by_cases hlt:k<n
  · obtain⟨ad,a,rfl,ha,hbk,hok,c0,c1,c2,c3,c4,c5⟩:=(hsl.below fC.kept hb).vn hlt;have hd1:decide ((k:Int)<(n:Int))=true:=ay;have hk0:(0:Int)<=(k:Int):=byOmega;have hk1:(k:Int)<(n:Int):=byOmega;have HS:=au (Qb ha);have b11:=aj.new wr 160 #[.int .i64 a.s.w,.int .i64 a.s.l,.int .i64 a.s.n,.int .i64 a.v.k,.float .f64 a.v.n,.string a.v.t];have uJ:=b9.alloc (.cells #[.int .i64 a.s.w,.int .i64 a.s.l,.int .i64 a.s.n,.int .i64 a.v.k,.float .f64 a.v.n,.string a.v.t] 160);have KH:=b8.alloc (.cells #[.int .i64 a.s.w,.int .i64 a.s.l,.int .i64 a.s.n,.int .i64 a.v.k,.float .f64 a.v.n,.string a.v.t] 160);have hb':=hb.alloc hzz (.cells #[.int .i64 a.s.w,.int .i64 a.s.l,.int .i64 a.s.n,.int .i64 a.v.k,.float .f64 a.v.n,.string a.v.t] 160);clear ha;go_wp2;generalize Qd:wr.heap.size=g11 at*;generalize (wr.alloc (.cells #[.int .i64 a.s.w,.int .i64 a.s.l,.int .i64 a.s.n,.int .i64 a.v.k,.float .f64 a.v.n,.string a.v.t] 160))=wz at*;obtain⟨nO,x0,x1,x2,x3,x4,x5⟩:=b11.six;have f1:=uJ.frozen 1;have f2:=uJ.frozen 2;have f3:=uJ.frozen 3;have f4:=uJ.frozen 4;have f5:=uJ.frozen 5;have f6:=uJ.frozen 6;obtain⟨g9,y0,y1,y2,y3,y4,y5,y6⟩:=uJ.Dx;have AZ:g11≠w.heap.size+1+1:=(by have:=b9.lt;omega);have YI:¬w.heap.size+1+1=g11:=fun e=>AZ e.symm
    clear c0 c1 c2 c3 c4 c5;refine wp_region_held_drew (S:=fun w'=>aj w' g11 160 #[.int .i64 a.s.w,.int .i64 a.s.l,.int .i64 a.s.n,.int .i64 a.v.k,.float .f64 a.v.n,.string a.v.t]) ah b11 (fun hHeld=>?_);refine wpAnyH_take (i:=0) (v:=.pointer (some ⟨g11,3,none⟩)) rfl ah ah ah (fun _ _ _ h=>h) (Or.inl ⟨by rfl,fun w hSw=>by clear hSw;go_simp⟩) hHeld ?_;go_frame;refine wpAnyH_take (i:=1) rfl ah ah ah (fun _ _ _ h=>h) (yieldsIf_load_mid aI _ _ rfl g11 3 rfl [.int .i64 a.v.k,.float .f64 a.v.n,.string a.v.t] _ (fun w h=>h.range 3 _ (wK rfl rfl rfl)) rfl rfl ah) hHeld ?_;go_frame;refine wpAnyH_take (i:=2) (v:=.pointer (some ⟨g11,0,none⟩)) rfl ah ah ah (fun _ _ _ h=>h) (Or.inl ⟨by rfl,fun w hSw=>by clear hSw;go_simp⟩) hHeld ?_;go_frame;refine wpAnyH_take (i:=3) rfl ah ah ah (fun _ _ _ h=>h) (yieldsIf_load_mid aI _ _ rfl g11 0 rfl [.int .i64 a.s.w,.int .i64 a.s.l,.int .i64 a.s.n] _ (fun w h=>h.range 0 _ (wK rfl rfl rfl)) rfl rfl ah) hHeld ?_;go_frame;refine wpAnyH_take (i:=4) (v:=.pointer (some ⟨w.heap.size+1+1,1,none⟩)) rfl ah ah ah (fun _ _ _ h=>h) (Or.inl ⟨by rfl,fun w hSw=>by clear hSw;go_simp⟩) hHeld ?_;go_frame;have EZ:=uJ.drew.P9 (x:=.int .i64 a.v.k) (y:=.float .f64 a.v.n) (z:=.string a.v.t);have Ba:=b11.drew.zW (o:=1) (x:=.int .i64 a.v.k) (y:=.float .f64 a.v.n) (z:=.string a.v.t) AZ;have KI:=KH.drew.zW (b:=w.heap.size+1+1) (o:=1) (x:=.int .i64 a.v.k) (y:=.float .f64 a.v.n) (z:=.string a.v.t) byOmega;have hba:=Ih (b:=w.heap.size+1+1) (o:=1) (x:=.int .i64 a.v.k) (y:=.float .f64 a.v.n) (z:=.string a.v.t) hb'.drew byOmega;refine Ig (i:=5) ah rfl rfl _ _ _ rfl (w.heap.size+1+1) 1 #[.int .i64 a.v.k,.float .f64 a.v.n,.string a.v.t] rfl rfl (uJ.drew.there 1 3 aA) ah ah Ba ?_;go_frame;generalize (wz.drew.setCells (w.heap.size+1+1) 1 [.int .i64 a.v.k,.float .f64 a.v.n,.string a.v.t])=wq at*;refine wpAnyH_take (i:=6) (v:=.pointer (some ⟨w.heap.size+1+1,4,none⟩)) rfl ah ah ah (fun _ _ _ h=>h) (Or.inl ⟨by rfl,fun w hSw=>by clear hSw;go_simp⟩) Ba ?_;go_frame;have KJ:=EZ.Qa (x:=.int .i64 a.s.w) (y:=.int .i64 a.s.l) (z:=.int .i64 a.s.n);have KL:=Ba.zW (b:=w.heap.size+1+1) (o:=4) (x:=.int .i64 a.s.w) (y:=.int .i64 a.s.l) (z:=.int .i64 a.s.n) AZ;have KN:=KI.zW (b:=w.heap.size+1+1) (o:=4) (x:=.int .i64 a.s.w) (y:=.int .i64 a.s.l) (z:=.int .i64 a.s.n) byOmega;have hbc:=Ih (b:=w.heap.size+1+1) (o:=4) (x:=.int .i64 a.s.w) (y:=.int .i64 a.s.l) (z:=.int .i64 a.s.n) hba byOmega;refine Ig (i:=7) ah rfl rfl _ _ _ rfl (w.heap.size+1+1) 4 #[.int .i64 a.s.w,.int .i64 a.s.l,.int .i64 a.s.n] rfl rfl (EZ.there 4 3 aA) ah ah KL ?_;generalize (wq.setCells (w.heap.size+1+1) 4 [.int .i64 a.s.w,.int .i64 a.s.l,.int .i64 a.s.n])=wp at*;refine td ?_;go_frame;go_wp2;go_roundw
    case rel=>
        refine⟨k+1,byOmega,by go_num,KN,?_,hbc⟩;rw[HS.out];exact KJ
    case measure=>simp[intOf];omega
  · have hd1:decide ((k:Int)<(n:Int))=false:=ay;rw[List.take_of_length_le byOmega]at b9;obtain⟨g9,x0,x1,x2,x3,x4,x5,x6⟩:=b9.Dx;have l8:=b8.lt;go_wp2_with (refine wpList_store_row rfl 104 _ _ rfl _ _ rfl rfl _ _ b8 ah ah ah ?_);refine gJ rfl aI (b8.setRow _) rfl rfl ah ?_;exact⟨rfl,below_setRow hb byOmega _⟩
theorem YJ (base g b1 b2:Nat) (l:List Hs) (m:List Pn) (key:ByteArray) (w:World) (h:pW w base g b1 b2 l m) (hk:key.size<=maxLen):
 Calls Tryz.prog 205 #[.pointer (some ⟨g,0,none⟩),.string key] w fun e w'=>e=.returned (.agg (jq key (pY (pV l key))))/\Below w.heap.size w w':=by
 have hX:Below w.heap.size w (w.alloc (.cells (jq ⟨#[]⟩ mW) 104)):=aJ;have i4:=aj.new w 104 (jq ⟨#[]⟩ mW);have hN:=YG base g b1 b2 l m key ⟨0,0,0⟩ _ (h.below hX) hk;go_enter Tryz.func205,Tryz.ntmps205;go_wp2_with (go_at_call 232;fail);refine hN.mono ?_;rintro e w1 ⟨rfl,hb⟩;have j4:=i4.below hb i4.lt;go_wp2_with (refine wpList_store_row rfl 104 _ _ rfl _ _ rfl rfl _ _ j4 ah ah ah ?_);refine gJ rfl aI (j4.setRow _) rfl rfl ah ?_;exact⟨rfl,below_setRow (hX.trans (hb.mono hX.size)) byOmega _⟩
def vM (l:List Hs) (p:Pn):Bool:=p.w.any fun a=>decide (0<=(pY (pV l a.key)).s.cmp p.s)
theorem YK (base g b1 b2:Nat) (l:List Hs) (m:List Pn) (p:Pn) (A1 A2:Option Addr) (n1 n2 c1 c2:Nat) (w:World) (h:pW w base g b1 b2 l m) (hw:Sl aF 4 w w.heap.size A2 n2 p.w) (hn2:n2<=5000000):
 Calls Tryz.prog 165 #[.pointer (some ⟨g,0,none⟩),p.val (.slice A1 n1 c1) (.slice A2 n2 c2)] w fun e w'=>e=.returned (.bool (vM l p))/\Below w.heap.size w w':=by
 have hl:=hw.1;have hge:n2<=p.w.length:=byOmega;have hle:p.w.length<=n2:=byOmega;clear hl;have hX:Below w.heap.size w (w.alloc (.cells #[.int .i64 p.t.c,.int .i64 p.t.l,.int .i64 p.t.s,.int .i64 p.s.w,.int .i64 p.s.l,.int .i64 p.s.n,.slice A1 n1 c1,.slice A2 n2 c2] 162)):=aJ;have i3:=aj.new w 162 #[.int .i64 p.t.c,.int .i64 p.t.l,.int .i64 p.t.s,.int .i64 p.s.w,.int .i64 p.s.l,.int .i64 p.s.n,.slice A1 n1 c1,.slice A2 n2 c2];have hs:=h.below hX;have hw':=(hw.below aF.kept hX).more aF.kept hX.size;go_enter Tryz.func165,Tryz.ntmps165;go_wp2;generalize (w.alloc (.cells #[.int .i64 p.t.c,.int .i64 p.t.l,.int .i64 p.t.s,.int .i64 p.s.w,.int .i64 p.s.l,.int .i64 p.s.n,.slice A1 n1 c1,.slice A2 n2 c2] 162))=w0 at*
 go_loopw [10] (fun i wr=>AY (fun a:Wt=>decide (0<=(pY (pV l a.key)).s.cmp p.s)) p.w w0 i wr) (fun i _=>n2-(intOf i).toNat)
 case atStart=>exact⟨0,byOmega,rfl,rfl,aC⟩
 case round=>
  obtain⟨k,hk,rfl,ha0,hb⟩:=hrel;have hzz:=hb.size;by_cases hlt:k<n2
  · obtain⟨ad,a,rfl,ha,hbk,hok,c0,c1',c2',c3⟩:=(hw'.below aF.kept hb).wt hlt;have hd1:decide ((k:Int)<(n2:Int))=true:=ay;have hk0:(0:Int)<=(k:Int):=byOmega;have hk1:(k:Int)<(n2:Int):=byOmega;rw[yM ha]at ha0;have oq:Below wr.heap.size wr (wr.alloc (.cells #[.string a.key,.int .i64 a.v.k,.float .f64 a.v.n,.string a.v.t] 61)):=aJ;have i6:=aj.new wr 61 #[.string a.key,.int .i64 a.v.k,.float .f64 a.v.n,.string a.v.t];have hsr:=(hs.below hb).below oq;have Qe:=(i3.below hb i3.lt).alloc (.cells #[.string a.key,.int .i64 a.v.k,.float .f64 a.v.n,.string a.v.t] 61);have hbX:=hb.trans (oq.mono hzz);go_wp2;generalize rC:wr.heap.size=g6 at*;generalize (wr.alloc (.cells #[.string a.key,.int .i64 a.v.k,.float .f64 a.v.n,.string a.v.t] 61))=wz at*;have hN:=YJ base g b1 b2 l m a.key wz.drew (hsr.below (aC).drew) (zM hok.1);have hC:=fun W=>Kw (pY (pV l a.key)).s p.s W
    generalize hlv:pY (pV l a.key)=lv at*;generalize hcv:lv.s.cmp p.s=cv at*;have hF:∀W:World,(Instr.field 104 (.agg #[.string a.key,.int .i64 lv.v.k,.float .f64 lv.v.n,.string lv.v.t,.int .i64 lv.s.w,.int .i64 lv.s.l,.int .i64 lv.s.n]) 2).run Tryz.prog W=.ok (.agg #[.int .i64 lv.s.w,.int .i64 lv.s.l,.int .i64 lv.s.n]) W:=fun _=>by kernel_rfl
    have l6:=i6.lt;have l3:=Qe.lt;obtain⟨_,e0,e1,e2,e3⟩:=i6.four;obtain⟨_,x0,x1,x2,x3,x4,x5,x6,x7⟩:=Qe.eight
    go_region_held3 (fun w'=>w'.cell? ⟨g6,0,none⟩=some (.string a.key)/\w'.cell? ⟨w.heap.size,3,none⟩=some (.int .i64 p.s.w)/\w'.cell? ⟨w.heap.size,4,none⟩=some (.int .i64 p.s.l)/\w'.cell? ⟨w.heap.size,5,none⟩=some (.int .i64 p.s.n))
        (first|exact⟨e0,x3,x4,x5⟩|exact⟨(hb1.cell (p:=⟨_,_,none⟩) l6).trans e0,(hb1.cell (p:=⟨_,_,none⟩) l3).trans x3,(hb1.cell (p:=⟨_,_,none⟩) l3).trans x4,(hb1.cell (p:=⟨_,_,none⟩) l3).trans x5⟩|exact⟨(hb2.cell (p:=⟨_,_,none⟩) (Nat.lt_of_lt_of_le l6 hb1.size)).trans ((hb1.cell (p:=⟨_,_,none⟩) l6).trans e0),(hb2.cell (p:=⟨_,_,none⟩) (Nat.lt_of_lt_of_le l3 hb1.size)).trans ((hb1.cell (p:=⟨_,_,none⟩) l3).trans x3),(hb2.cell (p:=⟨_,_,none⟩) (Nat.lt_of_lt_of_le l3 hb1.size)).trans ((hb1.cell (p:=⟨_,_,none⟩) l3).trans x4),(hb2.cell (p:=⟨_,_,none⟩) (Nat.lt_of_lt_of_le l3 hb1.size)).trans ((hb1.cell (p:=⟨_,_,none⟩) l3).trans x5)⟩)
        (first|((with_reducible refine hN.mono ?_);rintro e w1 ⟨rfl,hb1⟩;dsimp only[jq])|((with_reducible refine(hC _).mono ?_);rintro e w2 ⟨rfl,hb2⟩))
    have hb3:Below w0.heap.size w0 w2:=hbX.trans (Below.mono ((aC).drew.trans (hb1.trans (hb2.mono hb1.size))) hbX.size);clear hb1 hb2 hN hC hF e0 e1 e2 e3 x0 x1 x2 x3 x4 x5 x6 x7;by_cases hcc:0<=cv
    · have HF:=au (show vM l p=true by unfold vM;rw[<-ha0];simp[hcc]);clear ha0 ha;go_wp2;go_ret;rw[HF.out];exact⟨rfl,hX.trans (hb3.mono hX.size)⟩
    · have HT:=au (show (p.w.drop (k+1)).any (fun a:Wt=>decide (0<=(pY (pV l a.key)).s.cmp p.s))=p.w.any (fun a:Wt=>decide (0<=(pY (pV l a.key)).s.cmp p.s)) by rw[<-ha0];simp[hcc]);clear ha0 ha;go_wp2;go_roundw
      case rel=>exact⟨k+1,byOmega,by go_num,HT.out,hb3⟩
      case measure=>simp[intOf];omega
  · have hd1:decide ((k:Int)<(n2:Int))=false:=ay;have HF:=au (show vM l p=false by unfold vM;rw[<-ha0,bF byOmega];rfl);clear ha0;go_wp2;go_ret;rw[HF.out];exact⟨rfl,hX.trans (hb.mono hX.size)⟩
def rD (p x:Pn):Bool:=x.w.any (fun a=>jc a.key p.w||oQ a.key p.r)||x.r.any (fun k=>jc k p.w)
def nP (m:List Pn) (x:Pn):Bool:=m.any fun p=>rD p x
abbrev Pn.arr (p:Pn) (r q:Value):Array Value:=#[.int .i64 p.t.c,.int .i64 p.t.l,.int .i64 p.t.s,.int .i64 p.s.w,.int .i64 p.s.l,.int .i64 p.s.n,r,q]
def YL (b2:Nat) (D:DataW Value) (m:List Pn) (x:Pn) (xs:Array Value) (w wr:World):Prop:=
 ∃(left:Lit->Bool) (cnt:Nat),wr.ranges Tryz.prog 23 xH b2 (w.heap.size+1) m.length D left cnt/\(∀p∈m,left (oU p.t)=false->rD p x=false)/\Below w.heap.size w wr/\aj wr w.heap.size 162 xs
set_option maxRecDepth 100000 in
set_option maxHeartbeats 4000000 in
theorem YM (base g b1 b2:Nat) (l:List Hs) (m:List Pn) (x:Pn) (A1 A2:Option Addr) (n1 n2 c1 c2:Nat) (w:World) (h:pW w base g b1 b2 l m) (hr:Sl aO 1 w w.heap.size A1 n1 x.r) (hw:Sl aF 4 w w.heap.size A2 n2 x.w) (hn1:n1<=maxLen) (hn2:n2<=maxLen):
 Calls Tryz.prog 164 #[.pointer (some ⟨g,0,none⟩),x.val (.slice A1 n1 c1) (.slice A2 n2 c2)] w fun e w'=>e=.returned (.bool (nP m x))/\Below w.heap.size w w':=by
 unfold maxLen at hn1 hn2;obtain⟨D,ho,hD⟩:=h.ps;have hone:=h.one;obtain⟨gl,k0,k1,k2,k3,k4⟩:=h.blk.zV;have YH:g<w.heap.size+1:=byOmega;have i3:=aj.new w 162 (x.arr (.slice A1 n1 c1) (.slice A2 n2 c2));have hX:Below w.heap.size w (w.alloc (.cells (x.arr (.slice A1 n1 c1) (.slice A2 n2 c2)) 162)):=aJ;go_enter Tryz.func164,Tryz.ntmps164;go_wp2_with (first
  |(at_range
    refine wpList_range_own _ rfl _ 229 rfl 23 162 Dw Tryz.underlying229 xH b2 m.length D rfl (ho.alloc _) ?_;intro w0 hrg0 hg0 hs0))
 go_frame;simp only[World.size_alloc];have hb0:Below w.heap.size w w0:=hX.grown hg0 aA aA;have i30:=i3.grown hg0 aA;rw[show (w.alloc (.cells (x.arr (.slice A1 n1 c1) (.slice A2 n2 c2)) 162)).heap.size=w.heap.size+1 from aA]at hrg0;clear hg0 hs0 i3 hX k0 k1 k2 k3 k4
 go_loopw [16] (fun _ wr=>YL b2 D m x (x.arr (.slice A1 n1 c1) (.slice A2 n2 c2)) w wr) (fun _ wr=>wr.rangeLeft b2 (w.heap.size+1))
 case atStart=>
  refine⟨_,_,hrg0,fun p hp hl=>?_,hb0,i30⟩;obtain⟨_,_,r,q,e,_⟩:=hD.2 p hp;rw[Maps.has_true_of_atKey e]at hl;cases hl
 case round=>
  obtain⟨left,cnt,hrg,hdone,hb,i3⟩:=hrel;have hzz:=hb.size;go_wp2_with (first
   |(at_next
     refine wpList_next_ranges (α:=Value) (β:=Value) _ rfl _ rfl 23 Dw xH id id (fun key kl _=>⟨key,rfl⟩) (fun v y _=>⟨v,rfl⟩) b2 (w.heap.size+1) m.length D left cnt rfl hrg ?_ ?_))
  · intro _ hl0;have HF:=au (show nP m x=false by
        unfold nP;rw[List.any_eq_false];intro p hp;rw[hdone p hp (hl0 _)];simp)
    go_wp2;go_ret;rw[HF.out];exact⟨rfl,hb⟩
  · intro xk c kl y ps w1 cnt1 hkey hlk hR hps0 hat hrg1 hlt1 hg1 hs1 hen;subst hR hps0;obtain⟨p,hp,rfl⟩:=hD.1 kl (Maps.has_true_of_atKey hat);obtain⟨hpt,hps,r,q,e,hdr,YN⟩:=hD.2 p hp;have ec:c=p.val r q:=by
        have h1:=hat .nil;rw[e .nil]at h1;injection h1 with h1
        exact h1.symm
    subst ec;obtain⟨A3,n3,c3,rfl,hn3,hc3,hs3⟩:=hdr;obtain⟨A4,n4,c4,rfl,hn4,hc4,hs4⟩:=YN;have hb1:Below w.heap.size w w1:=hb.grown hg1 hzz (by intro k hk;injection hk with hk;omega);have i31:=i3.grown hg1 (by intro e;injection e with e;omega);have YO:∀p'∈m,(left (oU p'.t)&& !(oU p'.t).sameKey (oU p.t))=false->rD p x=false->rD p' x=false:=fun p' hp' hl hc=>by
        cases hlp:left (oU p'.t)
        · exact hdone p' hp' hlp
        · rw[hlp]at hl;have h2:(oU p'.t).sameKey (oU p.t)=true:=(by simpa using hl);have h3:=KG (hD.2 p' hp').1 hpt (WideAt.sameKey_eq h2);rw[hone p' hp' p hp h3];exact hc
    have hmz:=hrg.left_eq;have ajf:=hrg1.left_eq;clear hat e hkey hrg hdone hs1;have i6:=aj.new w1 162 (p.arr (.slice A3 n3 c3) (.slice A4 n4 c4));have i32:=i31.alloc (.cells (p.arr (.slice A3 n3 c3) (.slice A4 n4 c4)) 162);have hb2:Below w.heap.size w (w1.alloc (.cells (p.arr (.slice A3 n3 c3) (.slice A4 n4 c4)) 162)):=hb1.alloc hb1.size _;have hrg2:=hrg1.alloc (.cells (p.arr (.slice A3 n3 c3) (.slice A4 n4 c4)) 162);obtain⟨_,Dy,x31,x32,Dz,x34,DC,KO,KP⟩:=i31.eight;have Qh:=i31.lt;have Qi:w.heap.size<w1.heap.size+1:=byOmega;go_wp2;generalize rC:w1.heap.size=g6 at*;generalize (w1.alloc (.cells (p.arr (.slice A3 n3 c3) (.slice A4 n4 c4)) 162))=w2 at*;have hll:=hw.1;have hlr:=hr.1;have hge:n2<=x.w.length:=byOmega;have vN:n1<=x.r.length:=byOmega;have hle:x.w.length<=n2:=byOmega;have hle1:x.r.length<=n1:=byOmega;have hl3:=hs3.1;have hl4:=hs4.1;clear Dy x31 x32 Dz x34 DC KO KP Qh Qi hll hlr hen hg1 hrg1 i31
    go_loopw [23] (fun i wz=>AY (fun a:Wt=>jc a.key p.w||oQ a.key p.r) x.w w2 i wz) (fun i _=>n2-(intOf i).toNat)
    case atStart=>exact⟨0,byOmega,rfl,rfl,aC⟩
    case round=>
        obtain⟨k,hk,rfl,ha0,hbz⟩:=hrel;have hz:=hb2.size;have DF:Below w.heap.size w wr:=hb2.trans (hbz.mono hz);have YP:=hbz.size;by_cases hlt:k<n2
        · obtain⟨ad,a,rfl,ha,hbk,hok,c0,c1',c2',c3'⟩:=((hw.below aF.kept DF).more aF.kept DF.size).wt hlt;have hd1:decide ((k:Int)<(n2:Int))=true:=ay;have hk0:(0:Int)<=(k:Int):=byOmega;have hk1:(k:Int)<(n2:Int):=byOmega;rw[yM ha]at ha0;have E8:Below wr.heap.size wr (wr.alloc (.cells #[.string a.key,.int .i64 a.v.k,.float .f64 a.v.n,.string a.v.t] 61)):=aJ;have zX:Below w.heap.size w (wr.alloc (.cells #[.string a.key,.int .i64 a.v.k,.float .f64 a.v.n,.string a.v.t] 61)):=DF.trans (E8.mono DF.size);have i8:=aj.new wr 61 #[.string a.key,.int .i64 a.v.k,.float .f64 a.v.n,.string a.v.t];have DI:=i6.below hbz i6.lt;have Ii:=DI.alloc (.cells #[.string a.key,.int .i64 a.v.k,.float .f64 a.v.n,.string a.v.t] 61);obtain⟨l6,y0,y1,y2,y3,y4,y5,y6,y7⟩:=DI.eight;have l66:g6<wr.heap.size+1:=byOmega;have hW:=P6 p (.slice A3 n3 c3) a.key A4 n4 c4 _ rfl ((hs4.below aF.kept zX).more aF.kept zX.size) (by unfold maxLen;unfold maxLen at hc4;omega);cases hwl:jc a.key p.w
          · rw[hwl]at hW;cases hil:oQ a.key p.r
            · have HT:=au (show (x.w.drop (k+1)).any (fun a:Wt=>jc a.key p.w||oQ a.key p.r)=x.w.any (fun a:Wt=>jc a.key p.w||oQ a.key p.r) by rw[<-ha0,hwl,hil];rfl);clear ha0 ha;go_wp2_with (first
               |((with_reducible refine hW.mono ?_);rintro e w5 ⟨rfl,hb5⟩
                 have Bc:Below w.heap.size w w5:=zX.trans (hb5.mono zX.size);obtain⟨YQ,v0,v1,v2,v3,v4,v5,v6,v7⟩:=(Ii.below hb5 Ii.lt).eight;obtain⟨YR,u0,u1,u2,u3,-⟩:=(i8.below hb5 i8.lt).four;have hC:=P5 A3 n3 c3 p.r a.key w5 ((hs3.below aO.kept Bc).more aO.kept Bc.size) byOmega;rw[hil]at hC)
               |((with_reducible refine hC.mono ?_);rintro e w6 ⟨rfl,hb6⟩))
              go_roundw
              case rel=>exact⟨k+1,byOmega,by go_num,HT.out,hbz.trans (Below.mono (E8.trans ((hb5.mono E8.size).trans (hb6.mono (Nat.le_trans E8.size hb5.size)))) YP)⟩
              case measure=>simp[intOf];omega
            · have HF:=au (show nP m x=true by
               unfold nP;rw[List.any_eq_true];exact⟨p,hp,by unfold rD;rw[<-ha0,hwl,hil];rfl⟩)
              clear ha0 ha;go_wp2_with (first
               |((with_reducible refine hW.mono ?_);rintro e w5 ⟨rfl,hb5⟩
                 have Bc:Below w.heap.size w w5:=zX.trans (hb5.mono zX.size);obtain⟨YQ,v0,v1,v2,v3,v4,v5,v6,v7⟩:=(Ii.below hb5 Ii.lt).eight;obtain⟨YR,u0,u1,u2,u3,-⟩:=(i8.below hb5 i8.lt).four;have hC:=P5 A3 n3 c3 p.r a.key w5 ((hs3.below aO.kept Bc).more aO.kept Bc.size) byOmega;rw[hil]at hC)
               |((with_reducible refine hC.mono ?_);rintro e w6 ⟨rfl,hb6⟩))
              go_ret;rw[HF.out];exact⟨rfl,Bc.trans (hb6.mono Bc.size)⟩
          · rw[hwl]at hW;have HF:=au (show nP m x=true by
             unfold nP;rw[List.any_eq_true];exact⟨p,hp,by unfold rD;rw[<-ha0,hwl];rfl⟩)
            clear ha0 ha;go_wp2_with ((with_reducible refine hW.mono ?_);rintro e w5 ⟨rfl,hb5⟩);go_ret;rw[HF.out];exact⟨rfl,zX.trans (hb5.mono zX.size)⟩
        · have hd1:decide ((k:Int)<(n2:Int))=false:=ay;have hno:x.w.any (fun a:Wt=>jc a.key p.w||oQ a.key p.r)=false:=(by rw[<-ha0,bF byOmega];rfl);clear ha0;have DI:=i6.below hbz i6.lt;have KQ:=i32.below hbz i32.lt;obtain⟨l6,y0,y1,y2,y3,y4,y5,y6,y7⟩:=DI.eight;obtain⟨l3,Dy,x31,x32,Dz,x34,DC,KO,KP⟩:=KQ.eight;go_wp2;have hrg3:=hrg2.kept (grownBy_below hbz none) aA aA;obtain⟨w3,rfl⟩:∃w3,w3=wr:=⟨_,rfl⟩;clear y0 y1 y2 y3 y4 y5 y6 y7 Dy x31 x32 Dz x34 DC KO KP hbz hrg2 i6 i32
          go_loopw [42] (fun i wq=>AY (fun k:ByteArray=>jc k p.w) x.r w3 i wq) (fun i _=>n1-(intOf i).toNat)
          case atStart=>exact⟨0,byOmega,rfl,rfl,aC⟩
          case round=>
           obtain⟨k2,hk2,rfl,ha0,hbz⟩:=hrel;have hz3:=DF.size;have Bd:Below w.heap.size w wr:=DF.trans (hbz.mono hz3);have YS:=hbz.size;have YT:=DI.below hbz DI.lt;obtain⟨l6y,y0,y1,y2,y3,y4,y5,y6,y7⟩:=YT.eight;by_cases hlt:k2<n1
           · obtain⟨ad,a,rfl,ha,hbk,hok,c0⟩:=((hr.below aO.kept Bd).more aO.kept Bd.size).ky hlt;have hd1:decide ((k2:Int)<(n1:Int))=true:=ay;have hk0:(0:Int)<=(k2:Int):=byOmega;have hk1:(k2:Int)<(n1:Int):=byOmega;rw[yM ha]at ha0;have hW:=P6 p (.slice A3 n3 c3) a A4 n4 c4 wr rfl ((hs4.below aF.kept Bd).more aF.kept Bd.size) (by unfold maxLen;unfold maxLen at hc4;omega);cases hwl:jc a p.w
             · rw[hwl]at hW ha0;have HT:=au ha0;clear ha0 ha;go_wp2_with ((with_reducible refine hW.mono ?_);rintro e w5 ⟨rfl,hb5⟩);go_roundw
               case rel=>exact⟨k2+1,byOmega,by go_num,HT.out,hbz.trans (hb5.mono YS)⟩
               case measure=>simp[intOf];omega
             · have HF:=au (show nP m x=true by
                unfold nP;rw[List.any_eq_true];exact⟨p,hp,by unfold rD;rw[<-ha0,hwl];simp⟩)
               rw[hwl]at hW;clear ha0 ha;go_wp2_with ((with_reducible refine hW.mono ?_);rintro e w5 ⟨rfl,hb5⟩);go_ret;rw[HF.out];exact⟨rfl,Bd.trans (hb5.mono Bd.size)⟩
           · have hd1:decide ((k2:Int)<(n1:Int))=false:=ay;have Qj:x.r.any (fun k:ByteArray=>jc k p.w)=false:=(by rw[<-ha0,bF byOmega];rfl);clear ha0;have hcl:rD p x=false:=(by unfold rD;rw[hno,Qj];rfl);have hrg4:=hrg3.kept (grownBy_below hbz none) aA aA;have YU:=KQ.below hbz KQ.lt;have YV:=hrg4.left_eq;clear hno Qj y0 y1 y2 y3 y4 y5 y6 y7;go_wp2;go_roundw
             case rel=>exact⟨_,_,hrg4,fun p' hp' hl=>YO p' hp' hl hcl,Bd,YU⟩
             case measure=>rw[YV,hmz];omega
theorem Qk {w:World} {b:Nat} {es:Array MapEntry} {c:Nat} (h:w.heap[b]?=some (.map es c)) (o:Nat) (sp:_):w.cell? ⟨b,o,sp⟩=none:=by
 simp[World.cell?,h]
theorem owns_block {w:World} {P:Program} {k:TypeId} {b n:Nat} {D:DataW Value} (h:w.ownsMap P k xH b n D):∃es c,w.heap[b]?=some (.map es c):=by
 obtain⟨es,c,h,_⟩:=h;exact⟨es,c,h⟩
theorem Ql {w w':World} {P P':Program} {k k':TypeId} {b n n':Nat} {D D':DataW Value} (h:w.ownsMap P k xH b n D) (h':w'.ownsMap P' k' xH b n' D') (hg:w.grownBy w' (some b)):∀p:Addr,p.block<w.heap.size->w'.cell? p=w.cell? p:=by
 intro p hp;by_cases e:p.block=b
 · obtain⟨es,c,h1⟩:=owns_block h;obtain⟨es',c',h2⟩:=owns_block h';obtain⟨q,o,sp⟩:=p;simp only at e;subst e;rw[Qk h1,Qk h2]
 · exact hg.cell_far p hp (fun e2=>by injection e2 with e2;exact e e2)
section
variable {w w':World} {base g b1 b2:Nat} {l:List Hs} {m:List Pn}
theorem qZ.keep {B:Nat} {D:DataW Value} (h:qZ w B D l) (hk:∀p:Addr,p.block<B->w'.cell? p=w.cell? p):qZ w' B D l:=fun key=>by
 obtain⟨v,e,hv⟩:=h key;exact⟨v,e,hv.keep fC.kept hk⟩
theorem ru.keep {B:Nat} {D:DataW Value} (h:ru w B D m) (hk:∀p:Addr,p.block<B->w'.cell? p=w.cell? p):ru w' B D m:=⟨h.1,fun p hp=>by
 obtain⟨h1,h2,r,q,e,hr,hq⟩:=h.2 p hp;exact⟨h1,h2,r,q,e,hr.keep aO.kept hk,hq.keep aF.kept hk⟩⟩
theorem pW.YW (h:pW w base g b1 b2 l m) {x:Hs} {v:Value} (hk:x.key.size<=maxLen) (hl:l.length<maxLen) (hv:dH fC 6 w w.heap.size v x.vs):
 ∃w',(Instr.mapUpdate 228 (.map (some b1)) (.string x.key) v).run Tryz.prog w=.ok () w'/\pW w' base g b1 b2 (l++[x]) m/\w.grownBy w' (some b1)/\(∀p:Addr,p.block<w.heap.size->w'.cell? p=w.cell? p):=by
 obtain⟨D1,o1,k1⟩:=h.ks;obtain⟨D2,o2,k2⟩:=h.ps;have hkey:keyOf Tryz.prog 9 (.string x.key)=some (xI x.key):=WideMaps.keyOf_string_mk Tryz.underlying9 hk;obtain⟨w1,hrun,ho,hg⟩:=o1.update P8 Tryz.underlying228 hl hkey (val:=v) (d:=.held v) (ps:=[]) rfl;have hc:=Ql o1 ho hg;have hs:=hg.size;refine⟨w1,hrun,⟨?_,h.g0,h.b10,h.b20,h.ne,h.ne1,h.Ie,⟨_,by rw[aK];exact ho,?_⟩,h.one,⟨D2,o2.kept hg (fun e=>h.ne (by injection e with e;exact e.symm)),(k2.keep hc).more hs⟩⟩,hg,hc⟩
 · exact h.blk.grown hg (fun e=>h.ne1 (by injection e))
 · exact((k1.put o1.isMap hv).keep hc).more hs
theorem pW.YX (h:pW w base g b1 b2 l m) {x:Pn} {r q:Value} (ht:x.t.ok) (hs0:x.s.ok) (hl:m.length<maxLen) (hr:dH aO 1 w w.heap.size r x.r) (hq:dH aF 4 w w.heap.size q x.w) (hn:∀y∈m,y.t≠x.t):
 ∃w',(Instr.mapUpdate 229 (.map (some b2)) x.t.val (x.val r q)).run Tryz.prog w=.ok () w'/\pW w' base g b1 b2 l (m++[x])/\w.grownBy w' (some b2)/\(∀p:Addr,p.block<w.heap.size->w'.cell? p=w.cell? p):=by
 obtain⟨D1,o1,k1⟩:=h.ks;obtain⟨D2,o2,k2⟩:=h.ps;obtain⟨w1,hrun,ho,hg⟩:=o2.update Dw Tryz.underlying229 hl (EY ht) (val:=x.val r q) (d:=.held (x.val r q)) (ps:=[]) rfl;have hc:=Ql o2 ho hg;have hs:=hg.size;refine⟨w1,hrun,⟨?_,h.g0,h.b10,h.b20,h.ne,h.ne1,h.Ie,⟨D1,o1.kept hg (fun e=>h.ne (by injection e)),(k1.keep hc).more hs⟩,?_,⟨_,by rw[aK];exact ho,?_⟩⟩,hg,hc⟩
 · exact h.blk.grown hg (fun e=>h.Ie (by injection e))
 · intro p hp p' hp' e;rcases List.mem_append.1 hp with hq1|hq1<;>rcases List.mem_append.1 hp' with hq2|hq2
   · exact h.one p hq1 p' hq2 e
   · simp only[List.mem_cons,List.not_mem_nil,or_false]at hq2;rw[hq2]at e;exact absurd e (hn p hq1)
   · simp only[List.mem_cons,List.not_mem_nil,or_false]at hq1;rw[hq1]at e;exact absurd e.symm (hn p' hq2)
   · simp only[List.mem_cons,List.not_mem_nil,or_false]at hq1 hq2;rw[hq1,hq2]
 · exact((k2.put o2.isMap ht hs0 hr hq hn).keep hc).more hs
theorem pW.YZ (h:pW w base g b1 b2 l m) {t:Tx} (ht:t.ok):
 ∃cs:Array Value,(∀w',Below w.heap.size w w'->(Instr.lookup 229 (.map (some b2)) t.val true).run Tryz.prog w'=.ok (.tuple #[.agg cs,.bool (m.any fun y=>decide (y.t=t))]) w')/\cs.size=8/\cs.all (·.oneCell')=true:=by
 obtain⟨D,o,k1,k2⟩:=h.ps;have hh:Maps.has D (oU t)=m.any fun y=>decide (y.t=t):=by
  rw[Bool.eq_iff_iff,List.any_eq_true];constructor
  · intro hd;obtain⟨p,hp,e⟩:=k1 _ hd;exact⟨p,hp,by simp[KG (k2 p hp).1 ht e.symm]⟩
  · rintro⟨p,hp,e⟩;obtain⟨_,_,r,q,e2,_⟩:=k2 p hp;have e3:p.t=t:=(by simpa using e);rw[e3]at e2;exact Maps.has_true_of_atKey e2
 have run:∀cs:Array Value,D.atKey (oU t) (.held (.agg #[.int .i64 0,.int .i64 0,.int .i64 0,.int .i64 0,.int .i64 0,.int .i64 0,.slice none 0 0,.slice none 0 0]))=.held (.agg cs)->
  ∀w',Below w.heap.size w w'->(Instr.lookup 229 (.map (some b2)) t.val true).run Tryz.prog w'=.ok (.tuple #[.agg cs,.bool (m.any fun y=>decide (y.t=t))]) w':=by
  intro cs hcs w' hb;obtain⟨v,ps,hrun,hat⟩:=(o.kept (grownBy_below hb none) aA).look_ok Dw Tryz.underlying229 (z:=.agg #[.int .i64 0,.int .i64 0,.int .i64 0,.int .i64 0,.int .i64 0,.int .i64 0,.slice none 0 0,.slice none 0 0]) aI rfl (EY ht);injection hat with hat
  injection hat with hat _
  rw[hcs]at hat;injection hat with hat
  rw[hh,hat]at hrun;exact hrun
 cases hd:Maps.has D (oU t)
 · exact⟨_,run _ (Maps.atKey_of_not_has hd _),rfl,ah⟩
 · obtain⟨p,hp,e⟩:=k1 _ hd;obtain⟨_,_,r,q,e2,⟨A1,n1,c1,rfl,_⟩,⟨A2,n2,c2,rfl,_⟩⟩:=k2 p hp;exact⟨_,run _ (by rw[e,e2]),rfl,ah⟩
end
section
variable {P:Program} {md:Region.Mode} {ops:Array Oper} {Q:Exit->Act->World->Prop} {S:World->Prop} {fuel:Nat} {listed:Array Bool} {a:Act} {w:World} {i:Nat} {op:Oper}
theorem Y0 (hr:Region.ready md ops listed=[i]) (ho:ops[i]?=some op) (hg:op.guard=none) (ty:TypeId) (x y:Operand) (hop:op.op=.store ty x y)
 (g:Nat) (cells:Array Value) (hx:a.eval x=.pointer (some ⟨g,0,none⟩)) (hy:a.eval y=.agg cells) (t:TypeId) (old:Array Value) (hb:aj w g t old) (hi:(P.info? ty).map (·.size)=some cells.size) (hold:old.size=cells.size) (h1:cells.all (·.oneCell')=true)
 (hS:S (w.setRow g cells)) (h:∀w',S w'->wpAnyH P md ops Q S fuel (listed.setIfInBounds i true) (a.put op.dst undef) w'):wpAnyH P md ops Q S (fuel+1) listed a w:=by
 refine wpAnyH_all hr aA (fun j hj=>?_);obtain rfl:j=i:=by simpa using hj
 refine wpOp_step ho (fun K' hK=>?_);have hw:Region.wanted op (yielded ops a.tmps)=true:=by simp[Region.wanted,hg]
 rw[if_pos hw];exact wp_store_row ty x y hop g cells hx hy t old hb hi hold h1 (hK _ _ ⟨hS,h _ hS⟩)
theorem KR (hr:Region.ready md ops listed=[i]) (ho:ops[i]?=some op) (hg:op.guard=none) (ty:TypeId) (_hop:op.op=.alloc ty) (o:Obj)
 (hrun:(execOp a.eval op).run P w=.ok (.value (.pointer (some ⟨w.heap.size,0,none⟩))) (w.alloc o))
 (hS:S (w.alloc o)) (h:wpAnyH P md ops Q S fuel (listed.setIfInBounds i true) (a.put op.dst (.pointer (some ⟨w.heap.size,0,none⟩))) (w.alloc o)):wpAnyH P md ops Q S (fuel+1) listed a w:=by
 refine wpAnyH_all hr aA (fun j hj=>?_);obtain rfl:j=i:=by simpa using hj
 refine wpOp_step ho (fun K' hK=>?_);have hw:Region.wanted op (yielded ops a.tmps)=true:=by simp[Region.wanted,hg]
 rw[if_pos hw];unfold Oper.wp;rw[hrun];exact hK _ _ ⟨hS,h⟩
end
abbrev jU:Array Value:=#[.int .i64 0,.int .i64 0,.int .i64 0,.int .i64 0,.int .i64 0,.int .i64 0,.slice none 0 0,.slice none 0 0]
theorem KT (ev:Operand->Value) (op:Oper) (hop:op.op=.alloc 162) (w:World):(execOp ev op).run Tryz.prog w=.ok (.value (.pointer (some ⟨w.heap.size,0,none⟩))) (w.alloc (.cells jU 162)):=by
 unfold execOp;simp only[hop];go_simp
def mX:ByteArray->List Hs->Bool
 |_,[]=>true
 |p,h::l=>nM p h&&mX h.key l
theorem Y1 {l:List Hs} {k:Nat} {a:Hs} (p:ByteArray) (h:l[k]?=some a):mX p (l.drop k)=(nM p a&&mX a.key (l.drop (k+1))):=by
 have h1:=List.getElem?_eq_some_iff.1 h;rw[List.drop_eq_getElem_cons h1.1,h1.2];rfl
def vO (H:List Hs):List Pn->List Pn->Int
 |_,[]=>0
 |m,x::l=>if dw x≠0 then dw x else if (m.any fun y=>decide (y.t=x.t)) then 9 else if nP m x then 18 else if vM H x then 20 else vO H (m++[x]) l
def ou (H:List Hs) (Q:List Pn):Int:=if mX ⟨#[]⟩ H then vO H [] Q else 4
theorem Y2 {H:List Hs} {l:List Pn} {k:Nat} {x:Pn} (h:l[k]?=some x):vO H (l.take k) (l.drop k)=
 if dw x≠0 then dw x else if ((l.take k).any fun y=>decide (y.t=x.t)) then 9 else if nP (l.take k) x then 18 else if vM H x then 20 else vO H (l.take (k+1)) (l.drop (k+1)):=by
 have h1:=List.getElem?_eq_some_iff.1 h;rw[List.drop_eq_getElem_cons h1.1,h1.2,List.take_add_one,h];rfl
def tY (H:List Hs):Prop:=H.length<=5000000/\∀h∈H,h.vs.length<=5000000
def uK (Q:List Pn):Prop:=Q.length<=5000000/\∀p∈Q,p.r.length<=5000000/\p.w.length<=5000000
def Y3 (H:List Hs) (base g b1 b2:Nat) (w:World) (v i:Value) (wr:World):Prop:=
 ∃(k:Nat) (p:ByteArray),k<=H.length/\i=.int .i64 (k:Int)/\v=.string p/\mX p (H.drop k)=mX ⟨#[]⟩ H/\pW wr base g b1 b2 (H.take k) []/\Below w.heap.size w wr
def Y4 (H:List Hs) (Q:List Pn) (base g b1 b2:Nat) (w:World) (i:Value) (wr:World):Prop:=
 ∃k:Nat,k<=Q.length/\i=.int .i64 (k:Int)/\vO H (Q.take k) (Q.drop k)=vO H [] Q/\pW wr base g b1 b2 H (Q.take k)/\Below w.heap.size w wr
theorem Y5 (A1 A2:Option Addr) (n1 n2 c1 c2:Nat) (H:List Hs) (Q:List Pn) (w:World) (h1:Sl aQ 2 w w.heap.size A1 n1 H) (h2:Sl aP 8 w w.heap.size A2 n2 Q) (hH:tY H) (hQ:uK Q):
 Calls Tryz.prog 110 #[.slice A1 n1 c1,.slice A2 n2 c2] w fun e w'=>∃v,e=.returned (.tuple #[v,.int .i64 (ou H Q)])/\Below w.heap.size w w':=by
 have hl1:=h1.1;have hl2:=h2.1;have vN:n1<=H.length:=byOmega;have hle1:H.length<=n1:=byOmega;have yN:n2<=Q.length:=byOmega;have hle2:Q.length<=n2:=byOmega;have hn1:n1<=5000000:=Nat.le_trans vN hH.1;have hn2:n2<=5000000:=Nat.le_trans yN hQ.1;clear hl1 hl2;go_enter Tryz.func110,Tryz.ntmps110;go_wp2_with fail;refine(YE w).mono ?_;rintro e w1 ⟨g,b1,b2,rfl,hst,hb1⟩;go_wp2_with fail
 go_loopw [7,18] (fun v i wr=>Y3 H w.heap.size g b1 b2 w v i wr) (fun _ i _=>n1-(intOf i).toNat)
 case atStart=>exact⟨0,⟨#[]⟩,byOmega,rfl,rfl,rfl,hst,hb1⟩
 case round=>
  obtain⟨k,p,hk,rfl,rfl,hs,hst,hb⟩:=hrel;have hzz:=hb.size;by_cases hlt:k<n1
  · obtain⟨ad,a,A',n',c',rfl,ha,hbk,hkz,d0,d1,hn',hc',hsv⟩:=((h1.below aQ.kept hb).more aQ.kept hb.size).hs hlt;have hd1:decide ((k:Int)<(n1:Int))=true:=ay;have hk0:(0:Int)<=(k:Int):=byOmega;have hk1:(k:Int)<(n1:Int):=byOmega;have hsm:n'<=5000000:=by
        have:=hH.2 a (List.mem_of_getElem? ha);have:=hsv.1;omega
    rw[Y1 p ha]at hs;have hX:Below wr.heap.size wr (wr.alloc (.cells #[.string a.key,.slice A' n' c'] 158)):=aJ;have i9:=aj.new wr 158 #[.string a.key,.slice A' n' c'];have E9:=hst.below hX;have KU:=(hsv.below fC.kept hX).more fC.kept hX.size;have hbX:Below w.heap.size w (wr.alloc (.cells #[.string a.key,.slice A' n' c'] 158)):=hb.trans (hX.mono hzz);have hHi:=Ym A' n' c' a p _ KU dX;cases hhb:nM p a
    · have HF:=au (show ou H Q=4 by unfold ou;rw[<-hs,hhb];rfl);rw[hhb]at hHi;clear hs ha;go_wp2_with ((with_reducible refine hHi.mono ?_);rintro e w2 ⟨rfl,hb2⟩)
      go_ret2
      rw[HF.out];exact⟨_,rfl,hbX.trans (hb2.mono hbX.size)⟩
    · rw[hhb]at hHi hs;have HT:=au (show mX a.key (H.drop (k+1))=mX ⟨#[]⟩ H from hs);have HK:=au (show H.take (k+1)=H.take k++[a] by rw[List.take_add_one,ha];rfl);clear hs ha;go_wp2_with ((with_reducible refine hHi.mono ?_);rintro e w2 ⟨rfl,hb2⟩);have j9:=i9.below hb2 i9.lt;have hst2:=E9.below hb2;have hs2:=(KU.below fC.kept hb2).more fC.kept hb2.size;have hw2:Below w.heap.size w w2:=hbX.trans (hb2.mono hbX.size);have Y6:=hw2.size;clear i9 E9 KU hX hbX hb2 hHi hst hsv d0 d1;generalize rX:wr.heap.size=g9 at*;have hlen:(H.take k).length<=5000000:=ay;have Y7:∀v∈a.vs,Vn.ok v:=Sl.oO hs2;have hC:=Yq A' n' c' a.vs w2.drew hs2 hsm;obtain⟨l9,x0,-⟩:g9<w2.heap.size/\w2.cell? ⟨g9,0,none⟩=some (.string a.key)/\True:=⟨j9.lt,j9.cell 0,trivial⟩;have x1:=cl (j9.cell 1);obtain⟨lg,y0,-⟩:=hst2.blk.zV
      go_region_held3 (fun w'=>w'.cell? ⟨g,0,none⟩=some (.map (some b1))/\w'.cell? ⟨g9,0,none⟩=some (.string a.key)/\w'.cell? ⟨g9,1,none⟩=some (.slice A' n' c'))
       (first|exact⟨y0,x0,x1⟩|exact⟨z0,z1,z2⟩|exact⟨(hc6 _ KW).trans z0,(hc6 _ uM).trans z1,(hc6 _ uM).trans z2⟩)
       (first|((with_reducible refine hC.mono ?_);rintro e w5 ⟨v5,rfl,Y8,hb5⟩;have z0:=(hb5.cell (p:=⟨g,0,none⟩) lg).trans y0;have z1:=(hb5.cell (p:=⟨g9,0,none⟩) l9).trans x0;have z2:=(hb5.cell (p:=⟨g9,1,none⟩) l9).trans x1;have KW:g<w5.heap.size:=Nat.lt_of_lt_of_le lg hb5.size;have uM:g9<w5.heap.size:=Nat.lt_of_lt_of_le l9 hb5.size;obtain⟨w6,hrun,DJ,rC,hc6⟩:=(hst2.below (Below.trans (aC).drew hb5)).YW (zM hkz) dX (Y8.sl byOmega J4 Y7)))
      have hw5:Below w.heap.size w w5:=hw2.drew.trans (hb5.mono Y6);have hw6:Below w.heap.size w w6:=hw5.grown rC hw5.size (by intro q hq;injection hq with hq;rw[<-hq];exact DJ.b10);have u0:=(hc6 ⟨g9,0,none⟩ uM).trans z1;have l96:g9<w6.heap.size:=Nat.lt_of_lt_of_le uM rC.size;clear x0 x1 y0 z0 z1 z2 hrun hC hc6;go_wp2;go_roundw
      case rel=>
       refine⟨k+1,a.key,byOmega,by go_num,rfl,HT.out,?_,hw6⟩;rw[HK.out];exact DJ
      case measure=>simp[intOf];omega
  · have hd1:decide ((k:Int)<(n1:Int))=false:=ay;have hL:ou H Q=vO H [] Q:=by
        unfold ou;rw[<-hs,bF byOmega];rfl
    rw[List.take_of_length_le byOmega]at hst;clear hs;go_wp2;obtain⟨w3,rfl⟩:∃w3,w3=wr:=⟨_,rfl⟩
    go_loopw [40] (fun i wr=>Y4 H Q w.heap.size g b1 b2 w i wr) (fun i _=>n2-(intOf i).toNat)
    case atStart=>exact⟨0,byOmega,rfl,rfl,hst,hb⟩
    case round=>
        clear hst hb hzz;obtain⟨k2,hk2,rfl,hs,hst,hb⟩:=hrel;have hzz:=hb.size;by_cases hlt:k2<n2
        · obtain⟨ad,x,A3,n3,c3,A4,n4,c4,rfl,ha,hbk,hxt,hxs,d0,d1,d2,d3,d4,d5,d6,d7,hn3,hc3,hs3,hn4,hc4,hs4⟩:=((h2.below aP.kept hb).more aP.kept hb.size).pn hlt;have hd1:decide ((k2:Int)<(n2:Int))=true:=ay;have hk0:(0:Int)<=(k2:Int):=byOmega;have hk1:(k2:Int)<(n2:Int):=byOmega;have hsm:=hQ.2 x (List.mem_of_getElem? ha);have hl3:=hs3.1;have hl4:=hs4.1;rw[Y2 ha]at hs;have HK:=au (show Q.take (k2+1)=Q.take k2++[x] by rw[List.take_add_one,ha];rfl);have hlen:(Q.take k2).length<=5000000:=ay;have hX:Below wr.heap.size wr (wr.alloc (.cells (x.arr (.slice A3 n3 c3) (.slice A4 n4 c4)) 162)):=aJ;have i11:=aj.new wr 162 (x.arr (.slice A3 n3 c3) (.slice A4 n4 c4));have E9:=hst.below hX;have hr:=(hs3.below aO.kept hX).more aO.kept hX.size;have hw:=(hs4.below aF.kept hX).more aF.kept hX.size;have hbX:Below w.heap.size w (wr.alloc (.cells (x.arr (.slice A3 n3 c3) (.slice A4 n4 c4)) 162)):=hb.trans (hX.mono hzz);have Fa:=KE x A3 A4 n3 n4 c3 c4 _ hr hw dX byOmega;generalize hpe:dw x=pe at*;clear ha;go_wp2_with ((with_reducible refine Fa.mono ?_);rintro e w4 ⟨rfl,hb4⟩);have j11:=i11.below hb4 i11.lt;have Bf:=E9.below hb4;have hr4:=(hr.below aO.kept hb4).more aO.kept hb4.size;have hw4:=(hw.below aF.kept hb4).more aF.kept hb4.size;have Fb:Below w.heap.size w w4:=hbX.trans (hb4.mono hbX.size);clear i11 E9 hr hw hX hbX hb4 Fa d0 d1 d2 d3 d4 d5 d6 d7 hst hb hs3 hs4;generalize Qd:wr.heap.size=g11 at*;obtain⟨cs,hlk,hcs,hcs1⟩:=Bf.YZ hxt;generalize htw:((Q.take k2).any fun y=>decide (y.t=x.t))=tw at*;have lg:=Bf.blk.lt;have nO:=j11.lt;have y1:=cl (Bf.blk.cell 1);refine wp_region_held_drew (S:=fun w'=>Below w4.heap.size w4 w') ah (aC).drew (fun hHeld=>?_);refine wpAnyH_take (i:=0) (v:=.pointer (some ⟨g,0,none⟩)) rfl ah ah ah (fun _ _ _ h=>h) (Or.inl ⟨by rfl,fun W hSw=>by clear hSw;go_simp⟩) hHeld ?_;go_frame;refine wpAnyH_take (i:=1) (v:=.pointer (some ⟨g,0,none⟩)) rfl ah ah ah (fun _ _ _ h=>h) (Or.inl ⟨by rfl,fun W hSw=>by clear hSw;go_simp⟩) hHeld ?_;go_frame;refine wpAnyH_take (i:=2) (v:=.pointer (some ⟨g,1,none⟩)) rfl ah ah ah (fun _ _ _ h=>h) (Or.inl ⟨by rfl,fun W hSw=>by clear hSw;go_simp⟩) hHeld ?_;go_frame;refine wpAnyH_take (i:=3) (v:=.map (some b2)) rfl ah ah ah (fun _ _ _ h=>h) (Or.inl ⟨by rfl,fun W hSw=>by have z:=(hSw.cell (p:=⟨g,1,none⟩) lg).trans y1;clear hSw;go_simp⟩) hHeld ?_;go_frame;refine wpAnyH_take (i:=4) (v:=.pointer (some ⟨g11,0,none⟩)) rfl ah ah ah (fun _ _ _ h=>h) (Or.inl ⟨by rfl,fun W hSw=>by clear hSw;go_simp⟩) hHeld ?_;go_frame;refine wpAnyH_take (i:=5) rfl ah ah ah (fun _ _ _ h=>h) (yieldsIf_load_mid aI _ _ rfl g11 0 rfl [.int .i64 x.t.c,.int .i64 x.t.l,.int .i64 x.t.s] _ (fun W hSw=>(j11.below hSw nO).range 0 _ (wK rfl rfl rfl)) rfl rfl ah) hHeld ?_;go_frame;refine wpAnyH_take (i:=6) (v:=.tuple #[.agg cs,.bool tw]) rfl ah ah ah (fun _ _ _ h=>h) (Or.inl ⟨by rfl,fun W hSw=>by have z:=hlk W hSw;clear hSw;go_simp⟩) hHeld ?_;go_frame;refine wpAnyH_take (i:=7) (v:=.tuple #[.agg cs,.bool tw]) rfl ah ah ah (fun _ _ _ h=>h) (Or.inl ⟨by rfl,fun W hSw=>by clear hSw;go_simp⟩) hHeld ?_;go_frame;refine wpAnyH_take (i:=8) (v:=.agg cs) rfl ah ah ah (fun _ _ _ h=>h) (Or.inl ⟨by rfl,fun W hSw=>by clear hSw;go_simp⟩) hHeld ?_;go_frame;refine wpAnyH_take (i:=9) (v:=.bool tw) rfl ah ah ah (fun _ _ _ h=>h) (Or.inl ⟨by rfl,fun W hSw=>by clear hSw;go_simp⟩) hHeld ?_;go_frame;have rY:Below w4.heap.size w4 (w4.drew.alloc (.cells jU 162)):=(aC).drew.alloc (Nat.le_refl _) _;refine KR (i:=10) ah rfl rfl _ rfl (.cells jU 162) (KT _ _ rfl _) rY ?_;go_frame;have xJ:=aj.new w4.drew 162 jU;have hbB:Below w4.heap.size w4 ((w4.drew.alloc (.cells jU 162)).setRow w4.drew.heap.size cs):=below_setRow rY (Nat.le_refl _) cs;have hi1:(Tryz.prog.info? 162).map (·.size)=some cs.size:=(by rw[hcs];kernel_rfl);have hi2:jU.size=cs.size:=(by rw[hcs];rfl);refine Y0 (i:=11) ah rfl rfl _ _ _ rfl w4.drew.heap.size cs ah ah _ jU xJ hi1 hi2 hcs1 hbB ?_;clear hbB rY xJ;intro w5 hbB;go_frame;refine wpAnyH_take (i:=12) (v:=.bool tw) rfl ah ah ah (fun _ _ _ h=>h) (Or.inl ⟨by rfl,fun W hSw=>by clear hSw;go_simp⟩) hbB ?_;go_frame;refine td ?_;have k11:=j11.below hbB nO;have hst5:=Bf.below hbB;have wL:=(hr4.below aO.kept hbB).more aO.kept hbB.size;have hw5:=(hw4.below aF.kept hbB).more aF.kept hbB.size;have Bg:Below w.heap.size w w5:=Fb.trans (hbB.mono Fb.size);clear j11 Bf hr4 hw4 Fb hbB hHeld hlk hcs hcs1 y1 lg nO;have lg:=hst5.blk.lt;have nO:=k11.lt;have x0:=k11.cell 0;have x1:=k11.cell 1;have x2:=k11.cell 2;have x3:=k11.cell 3;have x4:=k11.cell 4;have x5:=k11.cell 5;have x6:=k11.cell 6;have x7:=k11.cell 7;simp only[List.getElem?_toArray,List.getElem?_cons_succ,getZero]at x0 x1 x2 x3 x4 x5 x6 x7;have hLk:=YM w.heap.size g b1 b2 H (Q.take k2) x A3 A4 n3 n4 c3 c4 w5 hst5 wL hw5 dX dX;by_cases hp0:pe=0
          · have hpn:(pe !=0)=false:=(by simp[hp0]);rw[if_neg (fun e=>e hp0)]at hs;by_cases htb:tw=true
            · have HF:=au (show ou H Q=9 by rw[hL,<-hs,if_pos htb]);clear hs hp0;go_wp2
              go_ret2
              rw[HF.out];exact⟨_,rfl,Bg⟩
            rw[if_neg htb]at hs;have htf:tw=false:=(by simpa using htb);by_cases hlb:nP (Q.take k2) x=true
            · have HF:=au (show ou H Q=18 by rw[hL,<-hs,if_pos hlb]);rw[hlb]at hLk;clear hs hp0 hlb htb;go_wp2_with ((with_reducible refine hLk.mono ?_);rintro e w6 ⟨rfl,hb6⟩)
              go_ret2
              rw[HF.out];exact⟨_,rfl,Bg.trans (hb6.mono Bg.size)⟩
            rw[if_neg hlb]at hs;have hlf:nP (Q.take k2) x=false:=(by simpa using hlb);rw[hlf]at hLk;clear hp0 hlb hlf htb;go_wp2_with (go_at_call 164;fail);refine hLk.mono ?_;rintro e w6 ⟨rfl,hb6⟩;have wO:=k11.below hb6 nO;have DJ:=hst5.below hb6;have zY:=(wL.below aO.kept hb6).more aO.kept hb6.size;have hw6:=(hw5.below aF.kept hb6).more aF.kept hb6.size;have Fe:Below w.heap.size w w6:=Bg.trans (hb6.mono Bg.size);clear k11 hst5 wL hw5 Bg hb6 x0 x1 x2 x3 x4 x5 x6 x7 nO hLk lg;have nO:=wO.lt;have x0:=wO.cell 0;have x1:=wO.cell 1;have x2:=wO.cell 2;have x3:=wO.cell 3;have x4:=wO.cell 4;have x5:=wO.cell 5;have x6:=wO.cell 6;have x7:=wO.cell 7;simp only[List.getElem?_toArray,List.getElem?_cons_succ,getZero]at x0 x1 x2 x3 x4 x5 x6 x7;have Fg:=YK w.heap.size g b1 b2 H (Q.take k2) x A3 A4 n3 n4 c3 c4 w6 DJ hw6 byOmega;by_cases hob:vM H x=true
            · have HF:=au (show ou H Q=20 by rw[hL,<-hs,if_pos hob]);rw[hob]at Fg;clear hs hob;go_wp2_with ((with_reducible refine Fg.mono ?_);rintro e w7 ⟨rfl,hb7⟩)
              go_ret2
              rw[HF.out];exact⟨_,rfl,Fe.trans (hb7.mono Fe.size)⟩
            rw[if_neg hob]at hs;have hof:vM H x=false:=(by simpa using hob);rw[hof]at Fg;have HT:=au hs;clear hob hof hs;go_wp2_with (go_at_call 165;fail);refine Fg.mono ?_;rintro e w7 ⟨rfl,hb7⟩;have yO:=wO.below hb7 nO;have KX:=DJ.below hb7;have Qm:=(zY.below aO.kept hb7).more aO.kept hb7.size;have hw7:=(hw6.below aF.kept hb7).more aF.kept hb7.size;have Qn:Below w.heap.size w w7:=Fe.trans (hb7.mono Fe.size);have hn:∀y∈Q.take k2,y.t≠x.t:=fun y hy e=>by
             rw[htf]at htw;have:=List.any_eq_false.1 htw y hy;simp[e]at this
            clear wO DJ zY hw6 Fe hb7 x0 x1 x2 x3 x4 x5 x6 x7 nO Fg htw hpe hL;have nO:=yO.lt;have lg:=KX.blk.lt;have y1:=cl (KX.blk.cell 1);have x0:=yO.cell 0;have x1:=yO.cell 1;have x2:=yO.cell 2;have x3:=yO.cell 3;have x4:=yO.cell 4;have x5:=yO.cell 5;have x6:=yO.cell 6;have x7:=yO.cell 7;simp only[List.getElem?_toArray,List.getElem?_cons_succ,getZero]at x0 x1 x2 x3 x4 x5 x6 x7;have Bh:=Yy x A3 A4 n3 n4 c3 c4 w7.drew Qm hw7 byOmega byOmega;have DK:∀a∈x.r,a.size<=140737488351232:=Sl.oO Qm;have DL:∀a∈x.w,Wt.ok a:=Sl.oO hw7;have HX:=au DK;have HY:=au DL;clear DK DL;go_wp2
            go_region_held3 (fun w'=>w'.cell? ⟨g,1,none⟩=some (.map (some b2))/\w'.cell? ⟨g11,0,none⟩=some (.int .i64 x.t.c)/\w'.cell? ⟨g11,1,none⟩=some (.int .i64 x.t.l)/\w'.cell? ⟨g11,2,none⟩=some (.int .i64 x.t.s)/\w'.cell? ⟨g11,3,none⟩=some (.int .i64 x.s.w)/\w'.cell? ⟨g11,4,none⟩=some (.int .i64 x.s.l)/\w'.cell? ⟨g11,5,none⟩=some (.int .i64 x.s.n)/\w'.cell? ⟨g11,6,none⟩=some (.slice A3 n3 c3)/\w'.cell? ⟨g11,7,none⟩=some (.slice A4 n4 c4))
             (first|exact⟨y1,x0,x1,x2,x3,x4,x5,x6,x7⟩|exact z0|exact⟨(hc6 _ KW).trans z0.1,(hc6 _ uM).trans z0.2.1,(hc6 _ uM).trans z0.2.2.1,(hc6 _ uM).trans z0.2.2.2.1,(hc6 _ uM).trans z0.2.2.2.2.1,(hc6 _ uM).trans z0.2.2.2.2.2.1,(hc6 _ uM).trans z0.2.2.2.2.2.2.1,(hc6 _ uM).trans z0.2.2.2.2.2.2.2.1,(hc6 _ uM).trans z0.2.2.2.2.2.2.2.2⟩)
             (first|((with_reducible refine Bh.mono ?_);rintro e w8 ⟨r8,q8,rfl,hor,hoq,hb8⟩;have z0:w8.cell? ⟨g,1,none⟩=some (.map (some b2))/\w8.cell? ⟨g11,0,none⟩=some (.int .i64 x.t.c)/\w8.cell? ⟨g11,1,none⟩=some (.int .i64 x.t.l)/\w8.cell? ⟨g11,2,none⟩=some (.int .i64 x.t.s)/\w8.cell? ⟨g11,3,none⟩=some (.int .i64 x.s.w)/\w8.cell? ⟨g11,4,none⟩=some (.int .i64 x.s.l)/\w8.cell? ⟨g11,5,none⟩=some (.int .i64 x.s.n)/\w8.cell? ⟨g11,6,none⟩=some (.slice A3 n3 c3)/\w8.cell? ⟨g11,7,none⟩=some (.slice A4 n4 c4):=⟨(hb8.cell (p:=⟨_,_,none⟩) lg).trans y1,(hb8.cell (p:=⟨_,_,none⟩) nO).trans x0,(hb8.cell (p:=⟨_,_,none⟩) nO).trans x1,(hb8.cell (p:=⟨_,_,none⟩) nO).trans x2,(hb8.cell (p:=⟨_,_,none⟩) nO).trans x3,(hb8.cell (p:=⟨_,_,none⟩) nO).trans x4,(hb8.cell (p:=⟨_,_,none⟩) nO).trans x5,(hb8.cell (p:=⟨_,_,none⟩) nO).trans x6,(hb8.cell (p:=⟨_,_,none⟩) nO).trans x7⟩;have KW:g<w8.heap.size:=Nat.lt_of_lt_of_le lg hb8.size;have uM:g11<w8.heap.size:=Nat.lt_of_lt_of_le nO hb8.size;obtain⟨w9,hrun,Qo,Y9,hc6⟩:=(KX.below (Below.trans (aC).drew hb8)).YX hxt hxs dX (hor.sl byOmega AU HX.out) (hoq.sl byOmega Hr HY.out) hn))
            have hw8:Below w.heap.size w w8:=Qn.drew.trans (hb8.mono Qn.size);have Za:Below w.heap.size w w9:=hw8.grown Y9 hw8.size (by intro q hq;injection hq with hq;rw[<-hq];exact Qo.b20);clear x0 x1 x2 x3 x4 x5 x6 x7 y1 z0 hrun Bh hc6;go_wp2;go_roundw
            case rel=>
             refine⟨k2+1,byOmega,by go_num,HT.out,?_,Za⟩;rw[HK.out];exact Qo
            case measure=>simp[intOf];omega
          · have hpn:(pe !=0)=true:=(by simp[hp0]);have HF:=au (show ou H Q=pe by rw[hL,<-hs,if_pos hp0]);clear hs;go_wp2
            go_ret2
            rw[HF.out];exact⟨_,rfl,Bg⟩
        · have hd1:decide ((k2:Int)<(n2:Int))=false:=ay;have HF:=au (show ou H Q=0 by rw[hL,<-hs,bF byOmega];rfl);clear hs hL;go_wp2
          go_ret2
          rw[HF.out];exact⟨_,rfl,hb⟩
def jd (r:Rg) (k:ByteArray):Bool:=ES r (ER k)
theorem KY (r:Rg) (k:ByteArray) (B:Nat) (w:World) (hk:k.size<=maxLen) (hB:B<w.heap.size) (c0:w.cell? ⟨B,0,none⟩=some (.int .i64 r.id)) (c1:w.cell? ⟨B,1,none⟩=some (.int .i64 r.ep)) (c2:w.cell? ⟨B,2,none⟩=some (.float .f64 r.lo)) (c3:w.cell? ⟨B,3,none⟩=some (.float .f64 r.hi)):
 Calls Tryz.prog 111 #[.string k,.pointer (some ⟨B,0,none⟩)] w fun e w'=>e=.returned (.bool (jd r k))/\Below w.heap.size w w':=by
 have ho:=fun w=>X8 k w hk
 have hi:=fun w=>Ya r (ER k) w
 go_enter Tryz.func111,Tryz.ntmps111;go_wp2
 go_region_held3 (fun w'=>w'.cell? ⟨B,0,none⟩=some (.int .i64 r.id)/\w'.cell? ⟨B,1,none⟩=some (.int .i64 r.ep)/\w'.cell? ⟨B,2,none⟩=some (.float .f64 r.lo)/\w'.cell? ⟨B,3,none⟩=some (.float .f64 r.hi))
  (first|exact⟨c0,c1,c2,c3⟩|exact⟨(hb1.cell (p:=⟨_,_,none⟩) hB).trans c0,(hb1.cell (p:=⟨_,_,none⟩) hB).trans c1,(hb1.cell (p:=⟨_,_,none⟩) hB).trans c2,(hb1.cell (p:=⟨_,_,none⟩) hB).trans c3⟩)
  (first|((with_reducible refine(ho _).mono ?_);rintro e w1 ⟨rfl,rfl⟩)|((with_reducible refine(hi _).mono ?_);rintro e w1 ⟨rfl,hw1⟩;have hb1:Below w.heap.size w w1:=by rw[<-hw1];exact(aC).drew.alloc (Nat.le_refl _) _))
 go_wp2;go_ret;exact⟨rfl,hb1⟩
theorem rZ {α:Type} {f:α->Bool} {l:List α} {k:Nat} {a:α} (h:l[k]?=some a):(l.drop k).all f=(f a&&(l.drop (k+1)).all f):=by
 have h1:=List.getElem?_eq_some_iff.1 h;rw[List.drop_eq_getElem_cons h1.1,h1.2];rfl
def zZ {α:Type} (f:α->Bool) (l:List α) (w:World) (i:Value) (wr:World):Prop:=∃k:Nat,k<=l.length/\i=.int .i64 (k:Int)/\(l.drop k).all f=l.all f/\Below w.heap.size w wr
def su (r:Rg) (h:Hs):Bool:=jd r h.key
def nR (r:Rg) (p:Pn):Bool:=p.r.all (jd r)&&p.w.all fun a=>jd r a.key
def dV (s:dP):Bool:=lT s.r&&s.f.may&&s.c.may&&decide (ou s.h s.p=0)&&s.h.all (su s.r)&&s.p.all (nR s.r)
abbrev dP.arr (s:dP) (h p:Value):Array Value:=#[.int .i64 s.r.id,.int .i64 s.r.ep,.float .f64 s.r.lo,.float .f64 s.r.hi,.int .i64 s.f.w,.int .i64 s.f.l,.int .i64 s.f.n,.int .i64 s.c.w,.int .i64 s.c.l,.int .i64 s.c.n,h,p]
theorem Zb (s:dP) (A1 A2:Option Addr) (n1 n2 c1 c2:Nat) (w:World) (hok:s.r.ok) (hbad:(lT s.r&&s.f.may&&s.c.may)=false):
 Calls Tryz.prog 62 #[.agg (s.arr (.slice A1 n1 c1) (.slice A2 n2 c2))] w fun e w'=>e=.returned (.bool false)/\Below w.heap.size w w':=by
 have hm:=fun w=>Ku s.r w hok
 have hf:=fun w=>zS s.f w
 have hc:=fun w=>zS s.c w
 have hB0:=aj.new w 39 (s.arr (.slice A1 n1 c1) (.slice A2 n2 c2));cases e1:lT s.r
 · rw[e1]at hm;clear hbad e1;go_enter Tryz.func62,Tryz.ntmps62;go_wp2_with ((with_reducible refine(hm _).mono ?_);rintro e w1 ⟨rfl,rfl⟩);go_ret;exact⟨rfl,by go_grown⟩
 cases e2:s.f.may
 · rw[e1]at hm;rw[e2]at hf;clear hbad e1 e2;go_enter Tryz.func62,Tryz.ntmps62;go_wp2_with (first
    |((with_reducible refine(hm _).mono ?_);rintro e w1 ⟨rfl,rfl⟩)
    |((with_reducible refine(hf _).mono ?_);rintro e w1 ⟨rfl,rfl⟩))
   go_ret;exact⟨rfl,by go_grown⟩
 have e3:s.c.may=false:=by rw[e1,e2]at hbad;simpa using hbad
 rw[e1]at hm;rw[e2]at hf;rw[e3]at hc;clear hbad e1 e2 e3;go_enter Tryz.func62,Tryz.ntmps62;go_wp2_with (first
  |((with_reducible refine(hm _).mono ?_);rintro e w1 ⟨rfl,rfl⟩)
  |((with_reducible refine(hf _).mono ?_);rintro e w1 ⟨rfl,rfl⟩)
  |((with_reducible refine(hc _).mono ?_);rintro e w1 ⟨rfl,rfl⟩))
 go_ret;exact⟨rfl,by go_grown⟩
theorem Zc (s:dP) (A1 A2:Option Addr) (n1 n2 c1 c2:Nat) (w:World) (hok:s.r.ok) (h1:Sl aQ 2 w w.heap.size A1 n1 s.h) (h2:Sl aP 8 w w.heap.size A2 n2 s.p) (hH:tY s.h) (hQ:uK s.p)
 (hgood:(lT s.r&&s.f.may&&s.c.may)=true):
 Calls Tryz.prog 62 #[.agg (s.arr (.slice A1 n1 c1) (.slice A2 n2 c2))] w fun e w'=>e=.returned (.bool (dV s))/\Below w.heap.size w w':=by
 have hS:dV s=(decide (ou s.h s.p=0)&&s.h.all (su s.r)&&s.p.all (nR s.r)):=by unfold dV;rw[hgood];simp
 have hl1:=h1.1;have hl2:=h2.1;have vN:n1<=s.h.length:=byOmega;have hle1:s.h.length<=n1:=byOmega;have yN:n2<=s.p.length:=byOmega;have hle2:s.p.length<=n2:=byOmega;have hn1:n1<=5000000:=Nat.le_trans vN hH.1;have hn2:n2<=5000000:=Nat.le_trans yN hQ.1;clear hl1 hl2;have hm:=fun w=>Ku s.r w hok
 have hf:=fun w=>zS s.f w
 have hc:=fun w=>zS s.c w
 rw[Bool.and_eq_true,Bool.and_eq_true]at hgood;obtain⟨⟨e1,e2⟩,e3⟩:=hgood;rw[e1]at hm;rw[e2]at hf;rw[e3]at hc;clear e1 e2 e3;have hB0:=aj.new w 39 (s.arr (.slice A1 n1 c1) (.slice A2 n2 c2));go_enter Tryz.func62,Tryz.ntmps62;go_wp2_with (first
  |((with_reducible refine(hm _).mono ?_);rintro e w1 ⟨rfl,rfl⟩)
  |((with_reducible refine(hf _).mono ?_);rintro e w1 ⟨rfl,rfl⟩)
  |((with_reducible refine(hc _).mono ?_);rintro e w1 ⟨rfl,rfl⟩)
  |(go_at_call 110;fail))
 have hX:Below w.heap.size w ((((w.alloc (.cells (s.arr (.slice A1 n1 c1) (.slice A2 n2 c2)) 39)).alloc (.cells #[.int .i64 s.r.id,.int .i64 s.r.ep,.float .f64 s.r.lo,.float .f64 s.r.hi] 35)).alloc (.cells s.f.arr 26)).alloc (.cells s.c.arr 26)):=aJ;refine(Y5 A1 A2 n1 n2 c1 c2 s.h s.p _ ((h1.below aQ.kept hX).more aQ.kept hX.size) ((h2.below aP.kept hX).more aP.kept hX.size) hH hQ).mono ?_;rintro e w0 ⟨vL,rfl,hb0⟩;have b0:=(((hB0.alloc (.cells #[.int .i64 s.r.id,.int .i64 s.r.ep,.float .f64 s.r.lo,.float .f64 s.r.hi] 35)).alloc (.cells s.f.arr 26)).alloc (.cells s.c.arr 26));have b:=b0.below hb0 b0.lt;have hw0:Below w.heap.size w w0:=hX.trans (hb0.mono hX.size);clear hm hf hc hB0 hX hb0 b0;have y0:=b.cell 0;have y1:=b.cell 1;have y2:=b.cell 2;have y3:=b.cell 3;have rE:=b.cell 10;have rF:=b.cell 11;simp only[List.getElem?_toArray,List.getElem?_cons_succ,getZero]at y0 y1 y2 y3 rE rF;have lb:=b.lt;by_cases hE:ou s.h s.p=0
 · have hq:(ou s.h s.p !=0)=false:=(by simp[hE]);have hS2:dV s=(s.h.all (su s.r)&&s.p.all (nR s.r)):=(by rw[hS,hE];simp);clear hS hE;generalize ou s.h s.p=ee at*;go_wp2
   go_loopw [44] (fun i wr=>zZ (su s.r) s.h w0 i wr) (fun i _=>n1-(intOf i).toNat)
   case atStart=>exact⟨0,byOmega,rfl,rfl,aC⟩
   case round=>
    obtain⟨k,hk,rfl,ha0,hb⟩:=hrel;have hzz:=hb.size;have kD:Below w.heap.size w wr:=hw0.trans (hb.mono hw0.size);have jh:w.heap.size<wr.heap.size:=byOmega;have Zd:w.heap.size<wr.heap.size+1:=byOmega;by_cases hlt:k<n1
    · obtain⟨ad,a,A',n',c',rfl,ha,hbk,hkz,d0,d1,hn',hc',hsv⟩:=((h1.below aQ.kept kD).more aQ.kept kD.size).hs hlt;have hd1:decide ((k:Int)<(n1:Int))=true:=ay;have hk0:(0:Int)<=(k:Int):=byOmega;have hk1:(k:Int)<(n1:Int):=byOmega;rw[rZ ha]at ha0;have hX:Below w0.heap.size w0 (wr.alloc (.cells #[.string a.key,.slice A' n' c'] 158)):=hb.alloc hzz _;have hI:=KY s.r a.key w.heap.size (wr.alloc (.cells #[.string a.key,.slice A' n' c'] 158)) (zM hkz) ay ((hX.cell (p:=⟨_,_,none⟩) lb).trans y0) ((hX.cell (p:=⟨_,_,none⟩) lb).trans y1) ((hX.cell (p:=⟨_,_,none⟩) lb).trans y2) ((hX.cell (p:=⟨_,_,none⟩) lb).trans y3);by_cases hin:su s.r a=true
      · have HT:=au (show (s.h.drop (k+1)).all (su s.r)=s.h.all (su s.r) by rw[<-ha0,hin];rfl);rw[show jd s.r a.key=true from hin]at hI;clear ha0 ha hin;go_wp2_with ((with_reducible refine hI.mono ?_);rintro e w2 ⟨rfl,hb2⟩);go_roundw
        case rel=>exact⟨k+1,byOmega,by go_num,HT.out,hX.trans (hb2.mono hX.size)⟩
        case measure=>simp[intOf];omega
      · have hif:su s.r a=false:=(by simpa using hin);have HF:=au (show dV s=false by rw[hS2,<-ha0,hif];rfl);rw[show jd s.r a.key=false from hif]at hI;clear ha0 ha hin hif;go_wp2_with ((with_reducible refine hI.mono ?_);rintro e w2 ⟨rfl,hb2⟩);go_ret;rw[HF.out];exact⟨rfl,(hw0.trans (hX.mono hw0.size)).trans (hb2.mono (Nat.le_trans hw0.size hX.size))⟩
    · have hd1:decide ((k:Int)<(n1:Int))=false:=ay;have hS3:dV s=s.p.all (nR s.r):=(by rw[hS2,<-ha0,bF byOmega];rfl);have z11:=(hb.cell (p:=⟨w.heap.size,11,none⟩) lb).trans rF;clear ha0 hS2;go_wp2;obtain⟨w1,rfl⟩:∃w1,w1=wr:=⟨_,rfl⟩;clear jh Zd z11
      go_loopw [57] (fun i wr=>zZ (nR s.r) s.p w0 i wr) (fun i _=>n2-(intOf i).toNat)
      case atStart=>exact⟨0,byOmega,rfl,rfl,hb⟩
      case round=>
       clear hb hzz kD;obtain⟨k2,hk2,rfl,ha0,hb⟩:=hrel;have hzz:=hb.size;have kD:Below w.heap.size w wr:=hw0.trans (hb.mono hw0.size);by_cases hlt2:k2<n2
       · obtain⟨ad,x,A3,n3,c3,A4,n4,c4,rfl,ha,hbk,hxt,hxs,d0,d1,d2,d3,d4,d5,d6,d7,hn3,hc3,hs3,hn4,hc4,hs4⟩:=((h2.below aP.kept kD).more aP.kept kD.size).pn hlt2;have hd1:decide ((k2:Int)<(n2:Int))=true:=ay;have hk0:(0:Int)<=(k2:Int):=byOmega;have hk1:(k2:Int)<(n2:Int):=byOmega;have hsm:=hQ.2 x (List.mem_of_getElem? ha);have hl3:=hs3.1;have hl4:=hs4.1;rw[rZ ha]at ha0;have hX:Below w0.heap.size w0 (wr.alloc (.cells (x.arr (.slice A3 n3 c3) (.slice A4 n4 c4)) 162)):=hb.alloc hzz _;have oq:Below wr.heap.size wr (wr.alloc (.cells (x.arr (.slice A3 n3 c3) (.slice A4 n4 c4)) 162)):=aJ;have i9:=aj.new wr 162 (x.arr (.slice A3 n3 c3) (.slice A4 n4 c4));have hr:=(hs3.below aO.kept oq).more aO.kept oq.size;have hw:=(hs4.below aF.kept oq).more aF.kept oq.size;clear ha;go_wp2;generalize rX:wr.heap.size=g9 at*;obtain⟨w3,Fh⟩:∃w3,w3=wr.alloc (.cells (x.arr (.slice A3 n3 c3) (.slice A4 n4 c4)) 162):=⟨_,rfl⟩;rw[<-Fh]at hX i9 hr hw ⊢;clear Fh oq d0 d1 d2 d3 d4 d5 d6 d7 hs3 hs4 rX;have KZ:=i9.lt;have hwx:Below w.heap.size w w3:=hw0.trans (hX.mono hw0.size)
         go_loopw [64] (fun i wr=>zZ (jd s.r) x.r w3 i wr) (fun i _=>n3-(intOf i).toNat)
         case atStart=>exact⟨0,byOmega,rfl,rfl,aC⟩
         case round=>
           obtain⟨k3,hk3,rfl,hi0,hb3⟩:=hrel;have hz3:=hb3.size;have fU:Below w0.heap.size w0 wr:=hX.trans (hb3.mono hX.size);by_cases hlt3:k3<n3
           · obtain⟨Fj,a,rfl,ha,lI,DK,e0⟩:=((hr.below aO.kept hb3).more aO.kept hb3.size).ky hlt3;have hd3:decide ((k3:Int)<(n3:Int))=true:=ay;have Ze:(0:Int)<=(k3:Int):=byOmega;have Zf:(k3:Int)<(n3:Int):=byOmega;rw[rZ ha]at hi0;have hI:=KY s.r a w.heap.size wr (zM DK) (by have:=fU.size;omega) ((fU.cell (p:=⟨_,_,none⟩) lb).trans y0) ((fU.cell (p:=⟨_,_,none⟩) lb).trans y1) ((fU.cell (p:=⟨_,_,none⟩) lb).trans y2) ((fU.cell (p:=⟨_,_,none⟩) lb).trans y3);by_cases hin:jd s.r a=true
             · have HT:=au (show (x.r.drop (k3+1)).all (jd s.r)=x.r.all (jd s.r) by rw[<-hi0,hin];rfl);rw[hin]at hI;clear hi0 ha hin;go_wp2_with ((with_reducible refine hI.mono ?_);rintro e w5 ⟨rfl,hb5⟩);go_roundw
               case rel=>exact⟨k3+1,byOmega,by go_num,HT.out,hb3.trans (hb5.mono hz3)⟩
               case measure=>simp[intOf];omega
             · have hif:jd s.r a=false:=(by simpa using hin);have HF:=au (show dV s=false by
                rw[hS3,<-ha0];unfold nR;rw[<-hi0,hif];rfl)
               rw[hif]at hI;clear hi0 ha hin hif;go_wp2_with ((with_reducible refine hI.mono ?_);rintro e w5 ⟨rfl,hb5⟩);go_ret;rw[HF.out];exact⟨rfl,(hw0.trans (fU.mono hw0.size)).trans (hb5.mono (Nat.le_trans hw0.size fU.size))⟩
           · have hd3:decide ((k3:Int)<(n3:Int))=false:=ay;have hrr:x.r.all (jd s.r)=true:=(by rw[<-hi0,bF byOmega];rfl);have Bj:nR s.r x=x.w.all fun a=>jd s.r a.key:=by unfold nR;rw[hrr];rfl
             have j9:=i9.below hb3 KZ;have u7:=j9.cell 7;simp only[List.getElem?_toArray,List.getElem?_cons_succ,getZero]at u7;have hwb:=(hw.below aF.kept hb3).more aF.kept hb3.size;clear hi0 hrr;go_wp2;obtain⟨w4,rfl⟩:∃w4,w4=wr:=⟨_,rfl⟩;clear u7
             go_loopw [76] (fun i wr=>zZ (fun a:Wt=>jd s.r a.key) x.w w4 i wr) (fun i _=>n4-(intOf i).toNat)
             case atStart=>exact⟨0,byOmega,rfl,rfl,aC⟩
             case round=>
              obtain⟨k4,hk4,rfl,hi0,hb4⟩:=hrel;have La:=hb4.size;have jV:Below w0.heap.size w0 wr:=fU.trans (hb4.mono fU.size);by_cases hlt4:k4<n4
              · obtain⟨Fp,a,rfl,ha,Lc,DL,e0,e1,e2,e3⟩:=((hwb.below aF.kept hb4).more aF.kept hb4.size).wt hlt4;have hd4:decide ((k4:Int)<(n4:Int))=true:=ay;have Zg:(0:Int)<=(k4:Int):=byOmega;have Zh:(k4:Int)<(n4:Int):=byOmega;rw[rZ ha]at hi0;have oz:Below w0.heap.size w0 (wr.alloc (.cells #[.string a.key,.int .i64 a.v.k,.float .f64 a.v.n,.string a.v.t] 61)):=jV.alloc jV.size _;have hI:=KY s.r a.key w.heap.size (wr.alloc (.cells #[.string a.key,.int .i64 a.v.k,.float .f64 a.v.n,.string a.v.t] 61)) (zM DL.1) (by have:=oz.size;omega) ((oz.cell (p:=⟨_,_,none⟩) lb).trans y0) ((oz.cell (p:=⟨_,_,none⟩) lb).trans y1) ((oz.cell (p:=⟨_,_,none⟩) lb).trans y2) ((oz.cell (p:=⟨_,_,none⟩) lb).trans y3);by_cases hin:jd s.r a.key=true
                · have HT:=au (show (x.w.drop (k4+1)).all (fun a:Wt=>jd s.r a.key)=x.w.all (fun a:Wt=>jd s.r a.key) by rw[<-hi0,hin];rfl);rw[hin]at hI;clear hi0 ha hin;go_wp2_with ((with_reducible refine hI.mono ?_);rintro e w5 ⟨rfl,hb5⟩);go_roundw
                  case rel=>exact⟨k4+1,byOmega,by go_num,HT.out,(hb4.alloc La _).trans (hb5.mono ay)⟩
                  case measure=>simp[intOf];omega
                · have hif:jd s.r a.key=false:=(by simpa using hin);have HF:=au (show dV s=false by
                   rw[hS3,<-ha0,Bj,<-hi0,hif];rfl)
                  rw[hif]at hI;clear hi0 ha hin hif;go_wp2_with ((with_reducible refine hI.mono ?_);rintro e w5 ⟨rfl,hb5⟩);go_ret;rw[HF.out];exact⟨rfl,(hw0.trans (oz.mono hw0.size)).trans (hb5.mono (Nat.le_trans hw0.size oz.size))⟩
              · have hd4:decide ((k4:Int)<(n4:Int))=false:=ay;have hpt:nR s.r x=true:=(by rw[Bj,<-hi0,bF byOmega];rfl);have HT:=au (show (s.p.drop (k2+1)).all (nR s.r)=s.p.all (nR s.r) by rw[<-ha0,hpt];rfl);clear hi0 ha0 Bj hpt;go_wp2;go_roundw
                case rel=>exact⟨k2+1,byOmega,by go_num,HT.out,jV⟩
                case measure=>simp[intOf];omega
       · have hd1:decide ((k2:Int)<(n2:Int))=false:=ay;have HF:=au (show dV s=true by rw[hS3,<-ha0,bF byOmega];rfl);clear ha0;go_wp2;go_ret;rw[HF.out];exact⟨rfl,kD⟩
 · have hq:(ou s.h s.p !=0)=true:=(by simp[hE]);have HF:=au (show dV s=false by rw[hS];simp[hE]);clear hS;go_wp2;go_ret;rw[HF.out];exact⟨rfl,hw0⟩
theorem Qp (s:dP) (A1 A2:Option Addr) (n1 n2 c1 c2:Nat) (w:World) (hok:s.r.ok) (h1:Sl aQ 2 w w.heap.size A1 n1 s.h) (h2:Sl aP 8 w w.heap.size A2 n2 s.p) (hH:tY s.h) (hQ:uK s.p):
 Calls Tryz.prog 62 #[.agg (s.arr (.slice A1 n1 c1) (.slice A2 n2 c2))] w fun e w'=>e=.returned (.bool (dV s))/\Below w.heap.size w w':=by
 by_cases h:(lT s.r&&s.f.may&&s.c.may)=true
 · exact Zc s A1 A2 n1 n2 c1 c2 w hok h1 h2 hH hQ h
 · have hb:(lT s.r&&s.f.may&&s.c.may)=false:=(by simpa using h);have e:dV s=false:=(by unfold dV;rw[hb];rfl);rw[e];exact Zb s A1 A2 n1 n2 c1 c2 w hok hb
end Go.Proofs.YtcalkfgibflbnaaGreat
namespace Go.Proofs.YtcalkfgibflbnaaGreat
set_option maxRecDepth 100000
set_option linter.unusedVariables false
open Go.ChangeShapes Go.WideShapes Go.RowKit
section
variable {H:Type} {enc:TypeId×Value->H} {w:World}
theorem yP {cs:List Value} (h:Opn enc Tryz.prog w 26 cs):∃v:Sp,cs=[.int .i64 v.w,.int .i64 v.l,.int .i64 v.n]/\v.ok:=by
 have hl:=h.len Tryz.underlying26;rw[show Tryz.prog.cellsOf 26=3 from ah]at hl
 match cs,hl with
 |[c0,c1,c2],_=>
  obtain⟨x0,rfl,h0⟩:=(h.cZ 0 1 (ty:=3) (off:=0) ah ah).int Tryz.underlying3;obtain⟨x1,rfl,h1⟩:=(h.cZ 1 1 (ty:=3) (off:=1) ah ah).int Tryz.underlying3;obtain⟨x2,rfl,h2⟩:=(h.cZ 2 1 (ty:=3) (off:=2) ah ah).int Tryz.underlying3;exact⟨⟨x0,x1,x2⟩,rfl,h0,h1,h2⟩
theorem Ld {cs:List Value} (h:Opn enc Tryz.prog w 23 cs):∃v:Tx,cs=[.int .i64 v.c,.int .i64 v.l,.int .i64 v.s]/\v.ok:=by
 have hl:=h.len Tryz.underlying23;rw[show Tryz.prog.cellsOf 23=3 from ah]at hl
 match cs,hl with
 |[c0,c1,c2],_=>
  obtain⟨x0,rfl,h0⟩:=(h.cZ 0 1 (ty:=3) (off:=0) ah ah).int Tryz.underlying3;obtain⟨x1,rfl,h1⟩:=(h.cZ 1 1 (ty:=3) (off:=1) ah ah).int Tryz.underlying3;obtain⟨x2,rfl,h2⟩:=(h.cZ 2 1 (ty:=3) (off:=2) ah ah).int Tryz.underlying3;exact⟨⟨x0,x1,x2⟩,rfl,h0,h1,h2⟩
theorem Qq {cs:List Value} (h:Opn enc Tryz.prog w 35 cs):∃v:Rg,cs=v.cells/\v.ok:=by
 have hl:=h.len Tryz.underlying35;rw[show Tryz.prog.cellsOf 35=4 from ah]at hl
 match cs,hl with
 |[c0,c1,c2,c3],_=>
  obtain⟨x0,rfl,h0⟩:=(h.cZ 0 1 (ty:=3) (off:=0) ah ah).int Tryz.underlying3;obtain⟨x1,rfl,h1⟩:=(h.cZ 1 1 (ty:=3) (off:=1) ah ah).int Tryz.underlying3;obtain⟨x2,rfl,h2⟩:=(h.cZ 2 1 (ty:=33) (off:=2) ah ah).float Tryz.underlying33;obtain⟨x3,rfl,h3⟩:=(h.cZ 3 1 (ty:=33) (off:=3) ah ah).float Tryz.underlying33;exact⟨⟨x0,x1,x2,x3⟩,rfl,h0,h1,h2,h3⟩
theorem Zi {cs:List Value} (h:Opn enc Tryz.prog w 160 cs):∃v:Vn,cs=v.cells/\v.ok:=by
 have hl:=h.len Tryz.underlying160;rw[show Tryz.prog.cellsOf 160=6 from ah]at hl
 match cs,hl with
 |[c0,c1,c2,c3,c4,c5],_=>
  obtain⟨x0,e0,h0⟩:=yP (h.cZ 0 3 (ty:=26) (off:=0) ah ah);obtain⟨x1,e1,h1⟩:=Ht (h.cZ 1 3 (ty:=59) (off:=3) ah ah);refine⟨⟨x0,x1⟩,?_,h0,h1⟩;change [c0,c1,c2]=_ at e0;change [c3,c4,c5]=_ at e1;show [c0,c1,c2]++[c3,c4,c5]=_;rw[e0,e1];rfl
theorem Le {v:Value} (h:Opn enc Tryz.prog w 27 [v]):∃l,dH aO 1 w w.heap.size v l:=
 h.slice aO 1 byOmega Tryz.underlying27 ah fun cs hl ho=>by
  match cs,hl with
  |[c0],_=>
   obtain⟨s,rfl,hs⟩:=ho.str Tryz.underlying9;exact⟨s,rfl,hs⟩
theorem Zj {v:Value} (h:Opn enc Tryz.prog w 156 [v]):∃l,dH fC 6 w w.heap.size v l:=
 h.slice fC 6 byOmega Tryz.underlying156 ah fun _ _ ho=>Zi ho
theorem Zk {cs:List Value} (h:Opn enc Tryz.prog w 158 cs):∃x:Hs,aQ w w.heap.size cs x:=by
 have hl:=h.len Tryz.underlying158;rw[show Tryz.prog.cellsOf 158=2 from ah]at hl
 match cs,hl with
 |[c0,c1],_=>
  obtain⟨x0,rfl,h0⟩:=(h.cZ 0 1 (ty:=9) (off:=0) ah ah).str Tryz.underlying9;obtain⟨l,hd⟩:=Zj (h.cZ 1 1 (ty:=156) (off:=1) ah ah);exact⟨⟨x0,l⟩,_,rfl,h0,hd⟩
theorem Zl {v:Value} (h:Opn enc Tryz.prog w 36 [v]):∃l,dH aQ 2 w w.heap.size v l:=
 h.slice aQ 2 byOmega Tryz.underlying36 ah fun _ _ ho=>Zk ho
theorem Zm {cs:List Value} (h:Opn enc Tryz.prog w 162 cs):∃x:Pn,aP w w.heap.size cs x:=by
 have hl:=h.len Tryz.underlying162;rw[show Tryz.prog.cellsOf 162=8 from ah]at hl
 match cs,hl with
 |[c0,c1,c2,c3,c4,c5,c6,c7],_=>
  obtain⟨x0,e0,h0⟩:=Ld (h.cZ 0 3 (ty:=23) (off:=0) ah ah);obtain⟨x1,e1,h1⟩:=yP (h.cZ 1 3 (ty:=26) (off:=3) ah ah);obtain⟨l,hr⟩:=Le (h.cZ 2 1 (ty:=27) (off:=6) ah ah);obtain⟨m,hq⟩:=J6 (h.cZ 3 1 (ty:=29) (off:=7) ah ah);refine⟨⟨x0,x1,l,m⟩,c6,c7,?_,h0,h1,hr,hq⟩;change [c0,c1,c2]=_ at e0;change [c3,c4,c5]=_ at e1;show [c0,c1,c2]++([c3,c4,c5]++[c6,c7])=_;rw[e0,e1];rfl
theorem Zn {v:Value} (h:Opn enc Tryz.prog w 37 [v]):∃l,dH aP 8 w w.heap.size v l:=
 h.slice aP 8 byOmega Tryz.underlying37 ah fun _ _ ho=>Zm ho
theorem Qr {cs:List Value} (h:Opn enc Tryz.prog w 39 cs):∃(s:dP) (a b:Value),cs=(s.arr a b).toList/\s.r.ok/\s.f.ok/\s.c.ok/\dH aQ 2 w w.heap.size a s.h/\dH aP 8 w w.heap.size b s.p:=by
 have hl:=h.len Tryz.underlying39;rw[show Tryz.prog.cellsOf 39=12 from ah]at hl
 match cs,hl with
 |[c0,c1,c2,c3,c4,c5,c6,c7,c8,c9,c10,c11],_=>
  obtain⟨x0,e0,h0⟩:=Qq (h.cZ 0 4 (ty:=35) (off:=0) ah ah);obtain⟨x1,e1,h1⟩:=yP (h.cZ 1 3 (ty:=26) (off:=4) ah ah);obtain⟨x2,e2,h2⟩:=yP (h.cZ 2 3 (ty:=26) (off:=7) ah ah);obtain⟨l,hr⟩:=Zl (h.cZ 3 1 (ty:=36) (off:=10) ah ah);obtain⟨m,hq⟩:=Zn (h.cZ 4 1 (ty:=37) (off:=11) ah ah);refine⟨⟨x0,x1,x2,l,m⟩,c10,c11,?_,h0,h1,h2,hr,hq⟩;change [c0,c1,c2,c3]=_ at e0;change [c4,c5,c6]=_ at e1;change [c7,c8,c9]=_ at e2;show [c0,c1,c2,c3]++([c4,c5,c6]++([c7,c8,c9]++[c10,c11]))=_;rw[e0,e1,e2];rfl
end
end Go.Proofs.YtcalkfgibflbnaaGreat
namespace Go.Proofs.YtcalkfgibflbnaaGreat
set_option maxHeartbeats 4000000
set_option maxRecDepth 100000
set_option linter.unusedVariables false
open Go.RowKit Fl
attribute [local go_sem] dJ
def AllOf {α:Type} (l:List α) (w:World) (i:Value) (wr:World):Prop:=∃k:Nat,k<=l.length/\i=.int .i64 (k:Int)/\Below w.heap.size w wr
theorem Zo (A A':Option Addr) (n n' c c':Nat) (l:List Hs) (w:World) (h:Sl aQ 2 w w.heap.size A n l) (h':Sl aQ 2 w w.heap.size A' n' l) (hn:n<=maxLen):
 Calls Tryz.prog 79 #[.slice A n c,.slice A' n' c'] w fun e w'=>e=.returned (.bool true)/\Below w.heap.size w w':=by
 unfold maxLen at hn;obtain rfl:n=n':=h.1.symm.trans h'.1;have hl:=h.1;have hge:n<=l.length:=byOmega;have hle:l.length<=n:=byOmega;clear hl;have hb0:((n:Int) !=(n:Int))=false:=aA;go_enter Tryz.func79,Tryz.ntmps79;go_wp2
 go_loopw [5] (fun i wr=>AllOf l w i wr) (fun i _=>n-(intOf i).toNat)
 case atStart=>exact⟨0,byOmega,rfl,aC⟩
 case round=>
  obtain⟨k,hk,rfl,hb⟩:=hrel;have hzz:=hb.size;by_cases hlt:k<n
  · obtain⟨ad,a,A1,n1,c1,rfl,ha,hbk,hok,d0,d1,hn1,hc1,hs1⟩:=((h.below aQ.kept hb).more aQ.kept hb.size).hs hlt;obtain⟨ad',a',A2,n2,c2,rfl,ha',gq,hok',e0,e1,hn2,hc2,hs2⟩:=((h'.below aQ.kept hb).more aQ.kept hb.size).hs hlt;obtain rfl:a=a':=Option.some.inj (ha.symm.trans ha');obtain rfl:n1=n2:=hs1.1.symm.trans hs2.1;have hd1:decide ((k:Int)<(n:Int))=true:=ay;have hk0:(0:Int)<=(k:Int):=byOmega;have hk1:(k:Int)<(n:Int):=byOmega;have hb1:((n1:Int) !=(n1:Int))=false:=aA;have hb2:(a.key.toList !=a.key.toList)=false:=aA;have hl1:=hs1.1;have vN:n1<=a.vs.length:=byOmega;have hle1:a.vs.length<=n1:=byOmega;unfold maxLen at hc1;have HA:=au ha;have HA':=au ha';clear hl1 ha ha';go_wp2
    go_quiet (fail)
    go_wp2;have hbq:Below w.heap.size w (wr.drewN nq):=hb.trans ((bD nq).mono hzz);clear d0 d1 e0 e1 hs1 hs2 hb hzz
    go_loopw [6] (fun i wr=>AllOf a.vs w i wr) (fun i _=>n1-(intOf i).toNat)
    case atStart=>exact⟨0,byOmega,rfl,hbq⟩
    case round=>
        obtain⟨k2,hk2,rfl,hb⟩:=hrel;have hzz:=hb.size;obtain⟨Qs,a1,B1,m1,c3,ex,ha1,hbk1,hok1,d0,d1,hm1,hc3,hs1⟩:=((h.below aQ.kept hb).more aQ.kept hb.size).hs hlt;obtain⟨Fq,a2,B2,m2,c4,ey,ha2,hbk2,hok2,e0,e1,hm2,hc4,hs2⟩:=((h'.below aQ.kept hb).more aQ.kept hb.size).hs hlt;injection ex with ex
        injection ey with ey
        subst ex ey;obtain rfl:a=a1:=Option.some.inj (HA.out.symm.trans ha1);obtain rfl:a=a2:=Option.some.inj (HA'.out.symm.trans ha2);obtain rfl:n1=m1:=(by have:=hs1.1;omega);obtain rfl:n1=m2:=(by have:=hs2.1;omega);clear ha1 ha2;by_cases hlt2:k2<n1
        · obtain⟨bd,v,rfl,hv,hvk,Zp,x0,x1,x2,x3,x4,x5⟩:=hs1.vn hlt2;obtain⟨Zq,v',rfl,hv',Zr,Zt,y0,y1,y2,y3,y4,y5⟩:=hs2.vn hlt2;obtain rfl:v=v':=Option.some.inj (hv.symm.trans hv');have hd3:decide ((k2:Int)<(n1:Int))=true:=ay;have Qu:(0:Int)<=(k2:Int):=byOmega;have Qv:(k2:Int)<(n1:Int):=byOmega;have hvs:=fun w=>ET v.v v.v w
          rw[Vl.kL]at hvs;clear hv hv';go_wp2;go_region;go_wp2_with ((with_reducible refine(hvs _).mono ?_);rintro e w3 ⟨rfl,hb3⟩);all_goals
           have hb4:Below wr.heap.size wr w3:=Below.trans (by go_grown;done) (hb3.mono ay);clear hb3;go_roundw
           case rel=>exact⟨k2+1,byOmega,by go_num,hb.trans (hb4.mono hzz)⟩
           case measure=>simp[intOf];omega
        · have hd3:decide ((k2:Int)<(n1:Int))=false:=ay;go_wp2;go_roundw
          case rel=>exact⟨k+1,byOmega,by go_num,hb⟩
          case measure=>simp[intOf];omega
  · have hd1:decide ((k:Int)<(n:Int))=false:=ay;go_wp2;go_ret;exact⟨rfl,hb⟩
theorem Zu (p:Pn) (A1 A2 B1 B2:Option Addr) (n1 n2 m1 m2 c1 c2 d1 d2:Nat) (w:World) (h1:Sl aO 1 w w.heap.size A1 n1 p.r) (h2:Sl aF 4 w w.heap.size A2 n2 p.w) (k1:Sl aO 1 w w.heap.size B1 m1 p.r) (k2:Sl aF 4 w w.heap.size B2 m2 p.w)
 (hn1:n1<=maxLen) (hn2:n2<=maxLen):
 Calls Tryz.prog 126 #[p.val (.slice A1 n1 c1) (.slice A2 n2 c2),p.val (.slice B1 m1 d1) (.slice B2 m2 d2)] w fun e w'=>e=.returned (.bool true)/\Below w.heap.size w w':=by
 obtain rfl:n1=m1:=h1.1.symm.trans k1.1;obtain rfl:n2=m2:=h2.1.symm.trans k2.1;have hX:Below w.heap.size w ((w.alloc (.cells (p.arr (.slice A1 n1 c1) (.slice A2 n2 c2)) 162)).alloc (.cells (p.arr (.slice B1 n1 d1) (.slice B2 n2 d2)) 162)):=aJ;have i2:aj ((w.alloc (.cells (p.arr (.slice A1 n1 c1) (.slice A2 n2 c2)) 162)).alloc (.cells (p.arr (.slice B1 n1 d1) (.slice B2 n2 d2)) 162)) w.heap.size 162 (p.arr (.slice A1 n1 c1) (.slice A2 n2 c2)):=(aj.new _ _ _).alloc _;have i3:aj ((w.alloc (.cells (p.arr (.slice A1 n1 c1) (.slice A2 n2 c2)) 162)).alloc (.cells (p.arr (.slice B1 n1 d1) (.slice B2 n2 d2)) 162)) (w.heap.size+1) 162 (p.arr (.slice B1 n1 d1) (.slice B2 n2 d2)):=aj.new' _ _ aA;have hT:=fun w' (hb:Below w.heap.size w w')=>H7 A1 B1 n1 n1 c1 d1 p.r p.r w' ((h1.below aO.kept hb).more aO.kept hb.size) ((k1.below aO.kept hb).more aO.kept hb.size) hn1 hn1
 have hW:=fun w' (hb:Below w.heap.size w w')=>H8 A2 B2 n2 n2 c2 d2 p.w p.w w' ((h2.below aF.kept hb).more aF.kept hb.size) ((k2.below aF.kept hb).more aF.kept hb.size) hn2 hn2
 rw[tX (fun a=>aA)]at hT;rw[tX Wt.kL]at hW;go_enter Tryz.func126,Tryz.ntmps126;go_wp2_with (first
  |((with_reducible refine(hT _ hX).mono ?_);rintro e w3 ⟨rfl,hb3⟩
    have j2:=i2.below hb3 i2.lt;have j3:=i3.below hb3 i3.lt;have hY:=hX.trans (hb3.mono hX.size);obtain⟨l2,x0,x1,x2,x3,x4,x5,x6,x7⟩:=j2.eight;obtain⟨l3,y0,y1,y2,y3,y4,y5,y6,y7⟩:=j3.eight)
  |((with_reducible refine(hW _ hY).mono ?_);rintro e w4 ⟨rfl,hb4⟩))
 go_ret;exact⟨rfl,hY.trans (hb4.mono hY.size)⟩
theorem Zv (A A':Option Addr) (n n' c c':Nat) (l:List Pn) (w:World) (h:Sl aP 8 w w.heap.size A n l) (h':Sl aP 8 w w.heap.size A' n' l) (hn:n<=maxLen):
 Calls Tryz.prog 80 #[.slice A n c,.slice A' n' c'] w fun e w'=>e=.returned (.bool true)/\Below w.heap.size w w':=by
 unfold maxLen at hn;obtain rfl:n=n':=h.1.symm.trans h'.1;have hl:=h.1;have hge:n<=l.length:=byOmega;have hle:l.length<=n:=byOmega;clear hl;have hb0:((n:Int) !=(n:Int))=false:=aA;go_enter Tryz.func80,Tryz.ntmps80;go_wp2
 go_loopw [5] (fun i wr=>AllOf l w i wr) (fun i _=>n-(intOf i).toNat)
 case atStart=>exact⟨0,byOmega,rfl,aC⟩
 case round=>
  obtain⟨k,hk,rfl,hb⟩:=hrel;have hzz:=hb.size;by_cases hlt:k<n
  · obtain⟨ad,a,A1,n1,c1,A2,n2,c2,rfl,ha,hbk,hxt,hxs,d0,d1,d2,d3,d4,d5,d6,d7,hn1,hc1,hs1,hn2,hc2,hs2⟩:=((h.below aP.kept hb).more aP.kept hb.size).pn hlt;obtain⟨ad',a',A3,n3,c3,A4,n4,c4,rfl,ha',gq,Zw,hxs',e0,e1,e2,e3,e4,e5,e6,e7,hn3,hc3,hs3,hn4,hc4,hs4⟩:=((h'.below aP.kept hb).more aP.kept hb.size).pn hlt;obtain rfl:a=a':=Option.some.inj (ha.symm.trans ha');have hd1:decide ((k:Int)<(n:Int))=true:=ay;have hk0:(0:Int)<=(k:Int):=byOmega;have hk1:(k:Int)<(n:Int):=byOmega;have hP:=fun w' (hb:Below wr.heap.size wr w')=>Zu a A1 A2 A3 A4 n1 n2 n3 n4 c1 c2 c3 c4 w' ((hs1.below aO.kept hb).more aO.kept hb.size) ((hs2.below aF.kept hb).more aF.kept hb.size) ((hs3.below aO.kept hb).more aO.kept hb.size) ((hs4.below aF.kept hb).more aF.kept hb.size) byOmega byOmega
    clear ha ha';go_wp2
    go_region_held3 (fun w'=>w'.cell? (ad.add (k*8))=some (.int .i64 a.t.c)/\w'.cell? ⟨(ad.add (k*8)).block,(ad.add (k*8)).off+1,none⟩=some (.int .i64 a.t.l)/\w'.cell? ⟨(ad.add (k*8)).block,(ad.add (k*8)).off+2,none⟩=some (.int .i64 a.t.s)/\w'.cell? ⟨(ad.add (k*8)).block,(ad.add (k*8)).off+3,none⟩=some (.int .i64 a.s.w)/\w'.cell? ⟨(ad.add (k*8)).block,(ad.add (k*8)).off+4,none⟩=some (.int .i64 a.s.l)/\w'.cell? ⟨(ad.add (k*8)).block,(ad.add (k*8)).off+5,none⟩=some (.int .i64 a.s.n)/\w'.cell? ⟨(ad.add (k*8)).block,(ad.add (k*8)).off+6,none⟩=some (.slice A1 n1 c1)/\w'.cell? ⟨(ad.add (k*8)).block,(ad.add (k*8)).off+7,none⟩=some (.slice A2 n2 c2)/\w'.cell? (ad'.add (k*8))=some (.int .i64 a.t.c)/\w'.cell? ⟨(ad'.add (k*8)).block,(ad'.add (k*8)).off+1,none⟩=some (.int .i64 a.t.l)/\w'.cell? ⟨(ad'.add (k*8)).block,(ad'.add (k*8)).off+2,none⟩=some (.int .i64 a.t.s)/\w'.cell? ⟨(ad'.add (k*8)).block,(ad'.add (k*8)).off+3,none⟩=some (.int .i64 a.s.w)/\w'.cell? ⟨(ad'.add (k*8)).block,(ad'.add (k*8)).off+4,none⟩=some (.int .i64 a.s.l)/\w'.cell? ⟨(ad'.add (k*8)).block,(ad'.add (k*8)).off+5,none⟩=some (.int .i64 a.s.n)/\w'.cell? ⟨(ad'.add (k*8)).block,(ad'.add (k*8)).off+6,none⟩=some (.slice A3 n3 c3)/\w'.cell? ⟨(ad'.add (k*8)).block,(ad'.add (k*8)).off+7,none⟩=some (.slice A4 n4 c4))
        (first|exact⟨d0,d1,d2,d3,d4,d5,d6,d7,e0,e1,e2,e3,e4,e5,e6,e7⟩|exact⟨(aB.cell (by exact hbk)).trans d0,(aB.cell (by exact hbk)).trans d1,(aB.cell (by exact hbk)).trans d2,(aB.cell (by exact hbk)).trans d3,(aB.cell (by exact hbk)).trans d4,(aB.cell (by exact hbk)).trans d5,(aB.cell (by exact hbk)).trans d6,(aB.cell (by exact hbk)).trans d7,(aB.cell (by exact gq)).trans e0,(aB.cell (by exact gq)).trans e1,(aB.cell (by exact gq)).trans e2,(aB.cell (by exact gq)).trans e3,(aB.cell (by exact gq)).trans e4,(aB.cell (by exact gq)).trans e5,(aB.cell (by exact gq)).trans e6,(aB.cell (by exact gq)).trans e7⟩)
        (first|((with_reducible refine(hP _ (aC).drew).mono ?_);rintro e w5 ⟨rfl,hb5⟩;have aB:Below wr.heap.size wr w5:=(Below.refl wr.heap.size wr).drew.trans hb5))
    go_wp2;go_roundw
    case rel=>exact⟨k+1,byOmega,by go_num,hb.trans (aB.mono hzz)⟩
    case measure=>simp[intOf];omega
  · have hd1:decide ((k:Int)<(n:Int))=false:=ay;go_wp2;go_ret;exact⟨rfl,hb⟩
theorem xK {w:World} {g:Nat} {t:TypeId} {a b c d e f h i j k l m:Value} (hh:aj w g t #[a,b,c,d,e,f,h,i,j,k,l,m]):
 g<w.heap.size/\w.cell? ⟨g,0,none⟩=some a/\w.cell? ⟨g,1,none⟩=some b/\w.cell? ⟨g,2,none⟩=some c/\w.cell? ⟨g,3,none⟩=some d/\w.cell? ⟨g,4,none⟩=some e/\w.cell? ⟨g,5,none⟩=some f/\
 w.cell? ⟨g,6,none⟩=some h/\w.cell? ⟨g,7,none⟩=some i/\w.cell? ⟨g,8,none⟩=some j/\w.cell? ⟨g,9,none⟩=some k/\w.cell? ⟨g,10,none⟩=some l/\w.cell? ⟨g,11,none⟩=some m:=
 ⟨hh.lt,hh.cell 0,hh.cell 1,hh.cell 2,hh.cell 3,hh.cell 4,hh.cell 5,hh.cell 6,hh.cell 7,hh.cell 8,hh.cell 9,hh.cell 10,hh.cell 11⟩
theorem Lh (s:dP) (A1 A2 B1 B2:Option Addr) (n1 n2 m1 m2 c1 c2 d1 d2:Nat) (w:World) (h1:Sl aQ 2 w w.heap.size A1 n1 s.h) (h2:Sl aP 8 w w.heap.size A2 n2 s.p) (k1:Sl aQ 2 w w.heap.size B1 m1 s.h) (k2:Sl aP 8 w w.heap.size B2 m2 s.p)
 (hn1:n1<=maxLen) (hn2:n2<=maxLen):
 Calls Tryz.prog 40 #[.agg (s.arr (.slice A1 n1 c1) (.slice A2 n2 c2)),.agg (s.arr (.slice B1 m1 d1) (.slice B2 m2 d2))] w fun e w'=>e=.returned (.bool true)/\Below w.heap.size w w':=by
 have hX:Below w.heap.size w ((w.alloc (.cells (s.arr (.slice A1 n1 c1) (.slice A2 n2 c2)) 39)).alloc (.cells (s.arr (.slice B1 m1 d1) (.slice B2 m2 d2)) 39)):=aJ;have i2:aj ((w.alloc (.cells (s.arr (.slice A1 n1 c1) (.slice A2 n2 c2)) 39)).alloc (.cells (s.arr (.slice B1 m1 d1) (.slice B2 m2 d2)) 39)) w.heap.size 39 (s.arr (.slice A1 n1 c1) (.slice A2 n2 c2)):=(aj.new _ _ _).alloc _;have i3:aj ((w.alloc (.cells (s.arr (.slice A1 n1 c1) (.slice A2 n2 c2)) 39)).alloc (.cells (s.arr (.slice B1 m1 d1) (.slice B2 m2 d2)) 39)) (w.heap.size+1) 39 (s.arr (.slice B1 m1 d1) (.slice B2 m2 d2)):=aj.new' _ _ aA;have hR:=fun w'=>range_any s.r s.r w'
 have hT:=fun w' (hb:Below w.heap.size w w')=>Zo A1 B1 n1 m1 c1 d1 s.h w' ((h1.below aQ.kept hb).more aQ.kept hb.size) ((k1.below aQ.kept hb).more aQ.kept hb.size) hn1
 have hW:=fun w' (hb:Below w.heap.size w w')=>Zv A2 B2 n2 m2 c2 d2 s.p w' ((h2.below aP.kept hb).more aP.kept hb.size) ((k2.below aP.kept hb).more aP.kept hb.size) hn2
 rw[Rg.kL]at hR;go_enter Tryz.func40,Tryz.ntmps40;go_wp2_with (first
  |((with_reducible refine(hR _).mono ?_);rintro e w3 ⟨rfl,hb3⟩
    have j2:=i2.below hb3 i2.lt;have j3:=i3.below hb3 i3.lt;have hY:=hX.trans (hb3.mono hX.size);obtain⟨l2,x0,x1,x2,x3,x4,x5,x6,x7,x8,x9,x10,x11⟩:=xK j2;obtain⟨l3,y0,y1,y2,y3,y4,y5,y6,y7,y8,y9,rE,rF⟩:=xK j3)
  |((with_reducible refine(hT _ hY).mono ?_);rintro e w4 ⟨rfl,hb4⟩
    have k2':=j2.below hb4 j2.lt;have xM:=j3.below hb4 j3.lt;have hZ:=hY.trans (hb4.mono hY.size);obtain⟨Zx,-,-,-,-,-,-,-,-,-,-,-,z11⟩:=xK k2';obtain⟨Lj,-,-,-,-,-,-,-,-,-,-,-,u11⟩:=xK xM)
  |((with_reducible refine(hW _ hZ).mono ?_);rintro e w5 ⟨rfl,hb5⟩))
 go_ret;exact⟨rfl,hZ.trans (hb5.mono hZ.size)⟩
