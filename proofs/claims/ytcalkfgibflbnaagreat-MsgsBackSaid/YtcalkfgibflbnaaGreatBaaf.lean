/- The walk of hand.halves. -/
import Derived.Deep.RegionLaw
import Derived.Test.YtcalkfgibflbnaaGreatBaae
namespace Go.Proofs.YtcalkfgibflbnaaGreat
open Go.RowKit Fl
attribute [local go_sem] dJ
theorem Md {P:Program} {md:Region.Mode} {ops:Array Oper} {Q:Exit->Act->World->Prop} {S:World->Prop} {fuel:Nat} {listed:Array Bool} {a:Act} {w:World} {i:Nat} {op:Oper}
 (hr:Region.ready md ops listed=[i]) (ho:ops[i]?=some op) (hg:op.guard=none) (ty:TypeId) (x y:Operand) (hop:op.op=.store ty x y)
 (g:Nat) (cells:Array Value) (hx:a.eval x=.pointer (some ⟨g,0,none⟩)) (hy:a.eval y=.agg cells) (t:TypeId) (old:Array Value) (hb:aj w g t old) (hi:(P.info? ty).map (·.size)=some cells.size) (hold:old.size=cells.size) (h1:cells.all (·.oneCell')=true)
 (hS:S (w.setRow g cells)) (h:∀w',w'=w.setRow g cells->wpAnyH P md ops Q S fuel (listed.setIfInBounds i true) (a.put op.dst undef) w'):wpAnyH P md ops Q S (fuel+1) listed a w:=by
 refine wpAnyH_all hr aA (fun j hj=>?_);obtain rfl:j=i:=by simpa using hj
 refine wpOp_step ho (fun K' hK=>?_);have hw:Region.wanted op (yielded ops a.tmps)=true:=by simp[Region.wanted,hg]
 rw[if_pos hw];exact wp_store_row ty x y hop g cells hx hy t old hb hi hold h1 (hK _ _ ⟨hS,h _ rfl⟩)
theorem yZ {P:Program} {ops:Array Oper} {S:World->Prop} {op:Oper} {a:Act} (hw:Region.wanted op (yielded ops a.tmps)=true) (ty:TypeId) (x:Operand) (ho:op.op=.load ty x)
 (g:Nat) (hx:a.eval x=.pointer (some ⟨g,0,none⟩)) (t:TypeId) (cs:Array Value) (d:TypeDesc) (hS:∀w,S w->aj w g t cs)
 (hu:P.underlying ty=some d) (hd:(match d with| .struct _| .array _ _=>true|_=>false)=true) (hi:(P.info? ty).map (·.size)=some cs.size):YieldsIf P ops S op (.agg cs) a:=
 .inl ⟨hw,fun w hw'=>by
  unfold execOp;simp only[ho,hx,Instr.loadAt,Instr.sureAddr,Sem.run_bind,Sem.run_pure,Result.andThen_ok,run_loadVar_row w g t ty cs (0,0) d (hS w hw') hu hd hi]⟩
theorem bV.ne {α:Type} {f:α->List Value} {E size base:Nat} {w:World} {v:Value} {l:List α} (h:bV f E size base w v l) {g:Nat} (hg:g<base):some g≠v.ownBlock:=by
 rcases h.far hg with e|e
 · rw[e];simp
 · exact fun e2=>e e2.symm
set_option maxHeartbeats 4000000
set_option maxRecDepth 100000
set_option linter.unusedVariables false
def Ru {α:Type} (f:α->List Value) (E size:Nat) (l:List α) (w:World) (v i:Value) (wr:World):Prop:=∃k:Nat,k<=l.length/\i=.int .i64 (k:Int)/\bV f E size w.heap.size wr v (l.take k)/\Below w.heap.size w wr
theorem aaz (A:Option Addr) (n c:Nat) (l:List ByteArray) (w:World) (h:Sl aO 1 w w.heap.size A n l) (hn:n<=5000000):
 Calls Tryz.prog 22 #[.slice A n c] w fun e w'=>∃v,e=.returned v/\bV gQ 9 1 w.heap.size w' v l/\Below w.heap.size w w':=by
 obtain⟨i0,hi0,hz0,hz1,hz2⟩:=info_parts Dv;have hl:=h.1;have hle:l.length<=n:=byOmega;have hge:n<=l.length:=byOmega;clear hl;go_enter Tryz.func22,Tryz.ntmps22;go_wp2
 go_loopw [3,4] (fun v i wr=>Ru gQ 9 1 l w v i wr) (fun _ i _=>n-(intOf i).toNat)
 case atStart=>exact⟨0,byOmega,rfl,bV.nil _,aC⟩
 case round=>
  obtain⟨k,hk,rfl,ho,hb⟩:=hrel;have hzz:=hb.size;by_cases hlt:k<n
  · obtain⟨ad,a,rfl,ha,hbk,hok,c0⟩:=(h.below aO.kept hb).ky hlt;have hd1:decide ((k:Int)<(n:Int))=true:=ay;have hk0:(0:Int)<=(k:Int):=byOmega;have hk1:(k:Int)<(n:Int):=byOmega;have HS:=au (show l.take (k+1)=l.take k++[a] by rw[List.take_add_one,ha];rfl);have hln:(l.take k).length<=5000000:=ay;clear ha;obtain⟨A1,q1,rfl,hq1,yL⟩:=ho.form;generalize l.take k=ks at*;have hX:Below wr.heap.size wr (wr.alloc (.cells (gQ a).toArray 9)):=(aC).alloc (Nat.le_refl _) _;have hown0:=ho.below hX;have dF:=nK wr 9 (gQ a) 1 rfl;go_wp2_with (first
        |(at_builtin
          refine iI _ rfl (.tmp 11) (.tmp 16) _ rfl w.heap.size 9 i0 _ 1 16 Tryz.underlying27 hi0 hz0 hz1 hz2 rfl byOmega (.slice A1 ks.length q1) _ (ks.flatMap gQ) aI hown0 _ (some ⟨wr.heap.size,0,none⟩) 1 1 (gQ a) aI
           dF (EP a) dX byOmega ay ?_
          intro v3 w3 hown3 hg3 wJ;obtain⟨A3,q3,rfl,hq3,xG⟩:=fP hown3))
    have hp:=bV.push a hown3;have hbw:=(hb.trans (hX.mono hzz)).grown hg3 ay (fun q hq=>(hown0.lt q hq).1);go_roundw
    case rel=>
        refine⟨k+1,byOmega,by go_num,?_,hbw⟩;rw[HS.out];exact hp
    case measure=>simp[intOf];omega
  · have hd1:decide ((k:Int)<(n:Int))=false:=ay;rw[List.take_of_length_le byOmega]at ho;obtain⟨A1,q1,rfl,hq1,yL⟩:=ho.form;go_wp2;go_ret;exact⟨_,rfl,ho,hb⟩
theorem aaA (A:Option Addr) (n c:Nat) (l:List Wt) (w:World) (h:Sl aF 4 w w.heap.size A n l) (hn:n<=5000000):
 Calls Tryz.prog 24 #[.slice A n c] w fun e w'=>∃v,e=.returned v/\bV Wt.cells 61 4 w.heap.size w' v l/\Below w.heap.size w w':=by
 obtain⟨i0,hi0,hz0,hz1,hz2⟩:=info_parts Kz;have hl:=h.1;have hle:l.length<=n:=byOmega;have hge:n<=l.length:=byOmega;clear hl;go_enter Tryz.func24,Tryz.ntmps24;go_wp2
 go_loopw [3,4] (fun v i wr=>Ru Wt.cells 61 4 l w v i wr) (fun _ i _=>n-(intOf i).toNat)
 case atStart=>exact⟨0,byOmega,rfl,bV.nil _,aC⟩
 case round=>
  obtain⟨k,hk,rfl,ho,hb⟩:=hrel;have hzz:=hb.size;by_cases hlt:k<n
  · obtain⟨ad,a,rfl,ha,hbk,hok,c0,c1,c2,c3⟩:=(h.below aF.kept hb).wt hlt;have hd1:decide ((k:Int)<(n:Int))=true:=ay;have hk0:(0:Int)<=(k:Int):=byOmega;have hk1:(k:Int)<(n:Int):=byOmega;have HS:=au (show l.take (k+1)=l.take k++[a] by rw[List.take_add_one,ha];rfl);have hln:(l.take k).length<=5000000:=ay;clear ha;obtain⟨A1,q1,rfl,hq1,yL⟩:=ho.form;generalize l.take k=ks at*;have hX:Below wr.heap.size wr (wr.alloc (.cells a.cells.toArray 61)):=(aC).alloc (Nat.le_refl _) _;have hown0:=ho.below hX;have dF:=nK wr 61 a.cells 4 rfl;go_wp2_with (first
        |(at_builtin
          refine iI _ rfl (.tmp 11) (.tmp 16) _ rfl w.heap.size 61 i0 _ 4 48 Tryz.underlying29 hi0 hz0 hz1 hz2 rfl byOmega (.slice A1 ks.length q1) _ (ks.flatMap Wt.cells) aI hown0 _ (some ⟨wr.heap.size,0,none⟩) 1 1 a.cells aI
           dF (Pj a) dX byOmega ay ?_
          intro v3 w3 hown3 hg3 wJ;obtain⟨A3,q3,rfl,hq3,xG⟩:=fP hown3))
    have hp:=bV.push a hown3;have hbw:=(hb.trans (hX.mono hzz)).grown hg3 ay (fun q hq=>(hown0.lt q hq).1);go_roundw
    case rel=>
        refine⟨k+1,byOmega,by go_num,?_,hbw⟩;rw[HS.out];exact hp
    case measure=>simp[intOf];omega
  · have hd1:decide ((k:Int)<(n:Int))=false:=ay;rw[List.take_of_length_le byOmega]at ho;obtain⟨A1,q1,rfl,hq1,yL⟩:=ho.form;go_wp2;go_ret;exact⟨_,rfl,ho,hb⟩
theorem Rw (p:Pn) (A1 A2:Option Addr) (n1 n2 c1 c2:Nat) (w:World) (hr:Sl aO 1 w w.heap.size A1 n1 p.r) (hw:Sl aF 4 w w.heap.size A2 n2 p.w) (hn1:n1<=5000000) (hn2:n2<=5000000):
 Calls Tryz.prog 100 #[p.val (.slice A1 n1 c1) (.slice A2 n2 c2)] w (P7 p w):=by
 have hX:Below w.heap.size w ((w.alloc (.cells (p.arr (.slice A1 n1 c1) (.slice A2 n2 c2)) 162)).alloc (.cells jU 162)):=aJ;have i1:aj ((w.alloc (.cells (p.arr (.slice A1 n1 c1) (.slice A2 n2 c2)) 162)).alloc (.cells jU 162)) w.heap.size 162 (p.arr (.slice A1 n1 c1) (.slice A2 n2 c2)):=(aj.new _ _ _).alloc _;have i2:aj ((w.alloc (.cells (p.arr (.slice A1 n1 c1) (.slice A2 n2 c2)) 162)).alloc (.cells jU 162)) (w.heap.size+1) 162 jU:=aj.new' _ _ aA;have hT:=fun w' (hb:Below w.heap.size w w')=>aaz A1 n1 c1 p.r w' ((hr.below aO.kept hb).more aO.kept hb.size) hn1
 have hW:=fun w' (hb:Below w.heap.size w w')=>aaA A2 n2 c2 p.w w' ((hw.below aF.kept hb).more aF.kept hb.size) hn2
 go_enter Tryz.func100,Tryz.ntmps100;go_wp2;generalize ((w.alloc (.cells (p.arr (.slice A1 n1 c1) (.slice A2 n2 c2)) 162)).alloc (.cells jU 162))=w0 at*;have l1:=i1.lt;have l2:=i2.lt;refine wp_region_held_drew (S:=fun w'=>aj w' w.heap.size 162 (p.arr (.slice A1 n1 c1) (.slice A2 n2 c2))) ah i1.drew (fun hHeld=>?_);refine wpAnyH_take (i:=0) (oi:=⟨some 3,_,_,_,_,_⟩) (v:=.pointer (some ⟨w.heap.size,0,none⟩)) rfl ah ah ah (fun _ _ _ h=>h) (Or.inl ⟨ah,fun W hSw=>by clear hSw;go_simp⟩) hHeld ?_;go_frame;refine wpAnyH_take (i:=1) (oi:=⟨some 4,_,_,_,_,_⟩) rfl ah ah ah (fun _ _ _ h=>h) (yieldsIf_load_mid ah _ _ rfl w.heap.size 0 rfl [.int .i64 p.t.c,.int .i64 p.t.l,.int .i64 p.t.s] _ (fun W hSw=>aj.range hSw 0 _ (wK rfl rfl rfl)) rfl rfl ah) hHeld ?_;go_frame;refine wpAnyH_take (i:=2) (oi:=⟨some 5,_,_,_,_,_⟩) (v:=.pointer (some ⟨w.heap.size,3,none⟩)) rfl ah ah ah (fun _ _ _ h=>h) (Or.inl ⟨ah,fun W hSw=>by clear hSw;go_simp⟩) hHeld ?_;go_frame;refine wpAnyH_take (i:=3) (oi:=⟨some 6,_,_,_,_,_⟩) rfl ah ah ah (fun _ _ _ h=>h) (yieldsIf_load_mid ah _ _ rfl w.heap.size 3 rfl [.int .i64 p.s.w,.int .i64 p.s.l,.int .i64 p.s.n] _ (fun W hSw=>aj.range hSw 3 _ (wK rfl rfl rfl)) rfl rfl ah) hHeld ?_;go_frame;refine wpAnyH_take (i:=4) (oi:=⟨some 7,_,_,_,_,_⟩) (v:=.pointer (some ⟨w.heap.size,6,none⟩)) rfl ah ah ah (fun _ _ _ h=>h) (Or.inl ⟨ah,fun W hSw=>by clear hSw;go_simp⟩) hHeld ?_;go_frame;refine wpAnyH_take (i:=5) (oi:=⟨some 8,_,_,_,_,_⟩) (v:=.slice A1 n1 c1) rfl ah ah ah (fun _ _ _ h=>h) (Or.inl ⟨ah,fun W hSw=>by have z:W.cell? ⟨w.heap.size,6,none⟩=some (.slice A1 n1 c1):=aj.cell hSw 6;clear hSw;go_simp⟩) hHeld ?_;go_frame;refine wpAnyH_take (i:=7) (oi:=⟨some 10,_,_,_,_,_⟩) (v:=.pointer (some ⟨w.heap.size,7,none⟩)) rfl ah ah ah (fun _ _ _ h=>h) (Or.inl ⟨ah,fun W hSw=>by clear hSw;go_simp⟩) hHeld ?_;go_frame;refine wpAnyH_take (i:=8) (oi:=⟨some 11,_,_,_,_,_⟩) (v:=.slice A2 n2 c2) rfl ah ah ah (fun _ _ _ h=>h) (Or.inl ⟨ah,fun W hSw=>by have z:W.cell? ⟨w.heap.size,7,none⟩=some (.slice A2 n2 c2):=aj.cell hSw 7;clear hSw;go_simp⟩) hHeld ?_;go_frame;refine tr 6 rfl fun K hK=>?_
 go_simp;refine(hT _ hX.drew).mono ?_;rintro e w3 ⟨v3,rfl,o3,hb3⟩;have j1:=i1.drew.below hb3 l1;have j2:=i2.drew.below hb3 l2;have hY:Below w.heap.size w w3:=hX.drew.trans (hb3.mono hX.size);have o3:bV _ _ _ (w.heap.size+2) _ _ _:=o3.zU (by show w.heap.size+2<=w0.heap.size;omega);obtain⟨A3,q3,rfl,hq3,xG⟩:=o3.form;clear hb3 i1 i2 l1 l2 hHeld;refine hK.out _ _ j1 (fun hHeld=>?_);clear hK K
 try go_frame
 refine tr 9 rfl fun K hK=>?_
 go_simp;refine(hW _ hY).mono ?_;rintro e w4 ⟨v4,rfl,o4,hb4⟩;have k1:=j1.below hb4 j1.lt;have k2:=j2.below hb4 j2.lt;have hZ:Below w.heap.size w w4:=hY.trans (hb4.mono hY.size);have hz3:=j2.lt;have o4:bV _ _ _ (w.heap.size+2) _ _ _:=o4.zU byOmega;have o3:=o3.below hb4;obtain⟨A4,q4,rfl,hq4,Yz⟩:=o4.form;clear hb4 j1 j2 hHeld;refine hK.out _ _ k1 (fun hHeld=>?_);clear hK K
 try go_frame
 refine wpAnyH_take (i:=10) (oi:=⟨some 13,_,_,_,_,_⟩) (v:=.agg (p.arr (.slice A3 p.r.length q3) (.slice A4 p.w.length q4))) rfl ah ah ah (fun _ _ _ h=>h) (Or.inl ⟨ah,fun W hSw=>by clear hSw;go_simp⟩) hHeld ?_;go_frame;refine Md (i:=11) ah rfl rfl _ _ _ rfl (w.heap.size+1) (p.arr (.slice A3 p.r.length q3) (.slice A4 p.w.length q4)) ah ah _ _ k2 ah rfl ah (k1.jT _ byOmega) ?_;intro w5 hw5;go_frame;refine td ?_;go_wp2;refine gJ rfl ah (by rw[hw5];exact k2.setRow _) rfl rfl ah ?_;subst hw5;exact⟨_,_,rfl,(o3.jT byOmega _).zU byOmega,(o4.jT byOmega _).zU byOmega,below_setRow hZ byOmega _⟩
theorem aaB:(Tryz.prog.info? 158).map (fun i=>(i.zero,i.size,i.bytes))=some (some (.agg #[.string ⟨#[]⟩,.slice none 0 0]),2,40):=ah
def Single {α:Type} (R:Rel α) (E size base:Nat) (w:World) (v:Value) (l:List α):Prop:=Pair R E size base w v (.slice none 0 0) l []
def aaC {α:Type} (R:Rel α) (E size:Nat) (l:List α) (w:World) (v i:Value) (wr:World):Prop:=∃k:Nat,k<=l.length/\i=.int .i64 (k:Int)/\Single R E size w.heap.size wr v (l.take k)/\Below w.heap.size w wr
def aaD {α:Type} (R:Rel α) (E size:Nat) (l:List α) (w:World):Ending->World->Prop:=fun e w'=>∃v,e=.returned v/\Single R E size w.heap.size w' v l/\Below w.heap.size w w'
def aaE (a:Hs) (W:World) (i:Value) (wr:World):Prop:=∃(k:Nat) (v:Value),k<=a.vs.length/\i=.int .i64 (k:Int)/\aj wr W.heap.size 158 #[.string a.key,v]/\bV Vn.cells 160 6 (W.heap.size+1) wr v (a.vs.take k)/\Below W.heap.size W wr
theorem aaF (A:Option Addr) (n c:Nat) (l:List Hs) (w:World) (h:Sl aQ 2 w w.heap.size A n l) (hQ:tY l):
 Calls Tryz.prog 56 #[.slice A n c] w (aaD aQ 158 2 l w):=by
 obtain⟨i1,hi1,BF,BG,BH⟩:=info_parts aaB;obtain⟨i0,hi0,hz0,hz1,hz2⟩:=info_parts KF;have hl:=h.1;have hge:n<=l.length:=byOmega;have hle:l.length<=n:=byOmega;have hn:n<=5000000:=Nat.le_trans hge hQ.1;clear hl;go_enter Tryz.func56,Tryz.ntmps56;go_wp2
 go_loopw [3,4] (fun v i wr=>aaC aQ 158 2 l w v i wr) (fun _ i _=>n-(intOf i).toNat)
 case atStart=>exact⟨0,byOmega,rfl,Pair.nil _,aC⟩
 case round=>
  obtain⟨k,hk,rfl,hp,hb⟩:=hrel;have hzz:=hb.size;have hlen:(l.take k).length<=5000000:=Nat.le_trans (List.length_take_le k l) byOmega;obtain⟨Av,qv,rfl,ni,wV⟩:=Pair.QA hp;by_cases hlt:k<n
  · obtain⟨ad,a,A1,n1,c1,rfl,ha,hbk,hkz,d0,d1,hn1,hc1,hs1⟩:=((h.below aQ.kept hb).more aQ.kept hb.size).hs hlt;have hd1:decide ((k:Int)<(n:Int))=true:=ay;have hk0:(0:Int)<=(k:Int):=byOmega;have hk1:(k:Int)<(n:Int):=byOmega;have hsm:=hQ.2 a (List.mem_of_getElem? ha);have hl1:=hs1.1;have Rx:n1<=5000000:=byOmega;have vN:n1<=a.vs.length:=byOmega;have hle1:a.vs.length<=n1:=byOmega;have HS:=au (show l.take (k+1)=l.take k++[a] by rw[List.take_add_one,ha];rfl);have K1:=au (fun k hk=>Sl.oO hs1 k hk:∀k∈a.vs,Vn.ok k);have HA:=au ha;clear ha hsm hl1;generalize l.take k=L at*;have i5:=aj.new wr 158 #[.string a.key,.slice none 0 0];have hX0:Below wr.heap.size wr (wr.alloc (.cells #[.string a.key,.slice none 0 0] 158)):=aJ;go_wp2;obtain⟨wo,rfl⟩:∃wo,wo=wr:=⟨_,rfl⟩;clear d0 d1 hs1
    go_loopw [6] (fun i wr=>aaE a wo i wr) (fun i _=>n1-(intOf i).toNat)
    case atStart=>exact⟨0,_,byOmega,rfl,i5,bV.nil _,hX0⟩
    case round=>
        clear i5 hX0;obtain⟨k2,v,hk2,rfl,i5,ho,hb2⟩:=hrel;have aaG:=hb2.size;have hw:Below w.heap.size w wr:=hb.trans (hb2.mono hzz);have hwz:=hw.size;obtain⟨Qs,a1,B1,m1,c3,ex,ha1,hbk1,hok1,d0,d1,hm1,hc3,hs1⟩:=((h.below aQ.kept hw).more aQ.kept hw.size).hs hlt;injection ex with ex
        subst ex;obtain rfl:a=a1:=Option.some.inj (HA.out.symm.trans ha1);obtain rfl:n1=m1:=(by have:=hs1.1;omega);clear ha1;have hlv:(a.vs.take k2).length<=5000000:=Nat.le_trans (List.length_take_le _ _) byOmega;have l5:=i5.lt;obtain⟨Bv,qb,rfl,hqb,ajg⟩:=ho.form;have y0:=cl (i5.cell 0);have y1:=cl (i5.cell 1);by_cases hlt2:k2<n1
        · obtain⟨bd,x,rfl,hx,hxb,hxo,x0,x1,x2,x3,x4,x5⟩:=hs1.vn hlt2;have hd3:decide ((k2:Int)<(n1:Int))=true:=ay;have Qu:(0:Int)<=(k2:Int):=byOmega;have Qv:(k2:Int)<(n1:Int):=byOmega;have HT:=au (show a.vs.take (k2+1)=a.vs.take k2++[x] by rw[List.take_add_one,hx];rfl);clear hx;generalize a.vs.take k2=V at*;have hX:Below wr.heap.size wr (wr.alloc (.cells x.cells.toArray 160)).drew:=((aC).alloc (Nat.le_refl _) _).drew;have hown0:=ho.below hX;have dF:=(nK wr 160 x.cells 6 rfl).drew;have l6:wo.heap.size<wr.heap.size+1:=byOmega;go_wp2
          go_region_law (refine wG _ rfl (.tmp 30) (.tmp 39) _ rfl (wo.heap.size+1) 160 i0 _ 6 56 Tryz.underlying156 hi0 hz0 hz1 hz2 rfl byOmega (.slice Bv V.length qb) _ (V.flatMap Vn.cells) (by simp[Act.eval]) hown0 _ (some ⟨wr.heap.size,0,none⟩) 1 1 x.cells (by simp[Act.eval]) dF (Pm x) dX byOmega ay ?_;intro v3 w3 hown3 hg3 wJ;have e5:=(i5.alloc (.cells x.cells.toArray 160)).drew.grown hg3 (ho.ne byOmega);have z1:=e5.cell 1;simp only[List.getElem?_toArray,List.getElem?_cons_succ,getZero]at z1;have f1:=e5.frozen 1;obtain⟨A3,q3,rfl,hq3,xG⟩:=fP hown3)
          all_goals
           have hp3:=(bV.push x hown3).Ic (p:=⟨wo.heap.size,1,none⟩) aA (.slice A3 (V.length+1) q3);have hbw:=((hb2.trans (hX.mono aaG)).grown hg3 (by have:=hX.size;omega) (fun q hq=>by have:=(hown0.lt q hq).1;omega)).setCell (p:=⟨wo.heap.size,1,none⟩) (Nat.le_refl _) (.slice A3 (V.length+1) q3);go_wp2;go_roundw
           case rel=>
            refine⟨k2+1,_,byOmega,by go_num,e5.fB 1 _,?_,hbw⟩;rw[HT.out];exact hp3
           case measure=>simp[intOf];omega
        · have hd3:decide ((k2:Int)<(n1:Int))=false:=ay;have ht:a.vs.take k2=a.vs:=List.take_of_length_le byOmega;rw[ht]at ho hqb y1 i5;clear ht hlv;have hX:Below wr.heap.size wr (wr.alloc (.cells #[.string a.key,.slice Bv a.vs.length qb] 158)):=aJ;have pX:=(Pair.below aQ.kept aQ.mono hp hb2).below aQ.kept aQ.mono hX;have hK:∀k,wo.heap.size+1<=k->k<(wr.alloc (.cells #[.string a.key,.slice Bv a.vs.length qb] 158)).heap.size->qc w.heap.size (wr.alloc (.cells #[.string a.key,.slice Bv a.vs.length qb] 158)).heap.size (.slice Av L.length qv) (.slice none 0 0) k=true:=Pair.fresh hp ay byOmega byOmega;have hin:jW aQ (qc w.heap.size (wr.alloc (.cells #[.string a.key,.slice Bv a.vs.length qb] 158)).heap.size (.slice Av L.length qv) (.slice none 0 0)) (wr.alloc (.cells #[.string a.key,.slice Bv a.vs.length qb] 158)) [.string a.key,.slice Bv a.vs.length qb] a:=
           ⟨_,rfl,hkz,bV.inn byOmega J4 (ho.below hX) K1.out hK⟩
          have HI:=au hin;obtain⟨xs,hown0,hpush⟩:=Pair.Zy aQ.kept aQ.mono pX;have HP:=au hpush;have dF:=nK wr 158 [.string a.key,.slice Bv a.vs.length qb] 2 rfl;have hone:∀u∈[Value.string a.key,Value.slice Bv a.vs.length qb],u.oneCell'=true:=by
           intro u hu;simp only[List.mem_cons,List.not_mem_nil,or_false]at hu;rcases hu with rfl|rfl<;>rfl
          have HO:=au hone;clear hpush hin hK hone hs1;go_wp2_with (first
           |(at_builtin
             refine iI _ rfl (.tmp 42) (.tmp 44) _ rfl w.heap.size 158 i1 _ 2 40 Tryz.underlying36 hi1 BF BG BH rfl byOmega (.slice Av L.length qv) _ xs aI hown0 _ (some ⟨wr.heap.size,0,none⟩) 1 1 [.string a.key,.slice Bv a.vs.length qb] aI
              dF HO.out dX byOmega ay ?_
             intro v3 w3 hown3 hg3 wJ;obtain⟨A3,q3,rfl,hq3,xG⟩:=fP hown3))
          have hpn:=HP.out _ a w3 _ rfl HI.out hown3 hg3 wJ;have hbw:=(hw.trans (hX.mono hwz)).grown hg3 (by have:=hX.size;omega) (fun q hq=>(hown0.lt q hq).1);go_roundw
          case rel=>
           refine⟨k+1,byOmega,by go_num,?_,hbw⟩;rw[HS.out];exact hpn
          case measure=>simp[intOf];omega
  · have hd1:decide ((k:Int)<(n:Int))=false:=ay;rw[List.take_of_length_le byOmega]at hp ni;rw[List.take_of_length_le byOmega];go_wp2;go_ret;exact⟨_,rfl,hp,hb⟩
end Go.Proofs.YtcalkfgibflbnaaGreat
namespace Go.Proofs.YtcalkfgibflbnaaGreat
set_option linter.unusedVariables false
open Go.RowKit Fl
def put (cs:Array Value) (i:Nat):List Value->Array Value
 |[]=>cs
 |u::us=>put (cs.setIfInBounds i u) (i+1) us
theorem fV:∀(us:List Value) (cs:Array Value) (i:Nat),(put cs i us).size=cs.size
 |[],cs,i=>rfl
 |u::us,cs,i=>by unfold put;rw[fV us];exact Array.size_setIfInBounds
theorem nV:∀(a b:List Value) (cs:Array Value) (i:Nat),put cs i (a++b)=put (put cs i a) (i+a.length) b
 |[],b,cs,i=>rfl
 |u::us,b,cs,i=>by
  show put _ _ (us++b)=put (put _ _ us) _ b;rw[nV us b]
  congr 1
  rw[List.length_cons];omega
theorem Iy:∀(us:List Value) (cs:Array Value) (i j:Nat),(j<i∨i+us.length<=j)->(put cs i us)[j]?=cs[j]?
 |[],cs,i,j,h=>rfl
 |u::us,cs,i,j,h=>by
  rw[List.length_cons]at h;show (put _ _ us)[j]?=_;rw[Iy us _ _ _ byOmega,Array.getElem?_setIfInBounds_ne byOmega]
theorem ug:∀(us:List Value) (cs:Array Value) (i j:Nat) (u:Value),us[j]?=some u->i+us.length<=cs.size->(put cs i us)[i+j]?=some u
 |[],cs,i,j,u,h,_=>by cases h
 |a::us,cs,i,j,u,h,hs=>by
  rw[List.length_cons]at hs;show (put _ _ us)[i+j]?=_;cases j with
  |zero=>
   rw[Iy us _ _ _ byOmega];simp only[getZero,Option.some.injEq]at h;rw[Nat.add_zero,Array.getElem?_setIfInBounds_self_of_lt byOmega,h]
  |succ j=>
   have e:i+(j+1)=i+1+j:=byOmega;rw[e];exact ug us _ _ _ _ (by simpa using h) (by rw[Array.size_setIfInBounds];omega)
theorem aaH (us:List Value) (cs:Array Value) (i:Nat) (h:i+us.length<=cs.size):(put cs i us).toList.take (i+us.length)=cs.toList.take i++us:=by
 apply List.ext_getElem?;intro j;by_cases h1:j<i
 · rw[List.getElem?_take_of_lt byOmega,List.getElem?_append_left ay,List.getElem?_take_of_lt h1,Array.getElem?_toList,Array.getElem?_toList,Iy us cs i j (.inl h1)]
 · by_cases h2:j<i+us.length
   · have hl:(cs.toList.take i).length=i:=ay;have hu:us[j-i]?=some us[j-i]:=List.getElem?_eq_getElem byOmega;rw[List.getElem?_take_of_lt h2,List.getElem?_append_right byOmega,hl,hu,Array.getElem?_toList];have:=ug us cs i (j-i) _ hu h;rwa [show i+(j-i)=j by omega]at this
   · rw[List.getElem?_eq_none (by rw[List.length_take];omega),List.getElem?_eq_none ay]
theorem aj.puts {t:TypeId} {b:Nat}:∀(us:List Value) (w:World) (cs:Array Value) (i:Nat),aj w b t cs->aj (w.setCells b i us) b t (put cs i us)
 |[],w,cs,i,h=>h
 |u::us,w,cs,i,h=>aj.puts us _ _ _ (h.fB i u)
theorem FD (b:Nat):∀(us:List Value) (w:World) (i:Nat),w.grownBy (w.setCells b i us) (some b)
 |[],w,i=>World.grownBy.refl _ _
 |u::us,w,i=>(jJ _ _ _ _).trans (FD b us _ _)
theorem below_grown {w w':World} (h:Below w.heap.size w w') (r:Option Nat):w.grownBy w' r:=⟨h.os,h.tape,h.output,h.size,fun k hk _=>h.block k hk⟩
structure lJ (w:World) (A:Option Addr) (n g gc b:Nat) (t:TypeId) (cs:Array Value) (i:Nat) (z:List Value):Prop where
 blk:aj w b t cs
 has:∀j u,z[j]?=some u->cs[i+j]?=some u
 ng:b≠g
 nc:b≠gc
 ap:∀a,A=some a->0<n->a.block≠b
section
variable {w w1 w2:World} {A:Option Addr} {n c g gc b i:Nat} {t:TypeId} {cs:Array Value} {x y z vs:List Value} {l:List UInt8} {s s':RS}
theorem lJ.fst (h:lJ w A n g gc b t cs i (x++y)):lJ w A n g gc b t cs i x:=
 ⟨h.blk,fun j u hj=>h.has j u (by rw[List.getElem?_append_left (List.getElem?_eq_some_iff.1 hj).1];exact hj),h.ng,h.nc,h.ap⟩
theorem lJ.snd (h:lJ w A n g gc b t cs i (x++y)) (hk:aj w1 b t (put cs i vs)) (hl:vs.length=x.length):lJ w1 A n g gc b t (put cs i vs) (i+x.length) y:=
 ⟨hk,fun j u hj=>by
  rw[Iy _ _ _ _ (.inr byOmega),Nat.add_assoc];exact h.has _ u (by rw[List.getElem?_append_right byOmega,Nat.add_sub_cancel_left];exact hj),h.ng,h.nc,h.ap⟩
theorem lJ.oG {m:Nat} (h:lJ w A n g gc b t cs i (x++y)) (hk:aj w1 b t (put cs i vs)) (hl:vs.length=m) (hx:x.length=m) (j:Nat) (hj:j=i+m):lJ w1 A n g gc b t (put cs i vs) j y:=by
 subst hj hx;exact h.snd hk hl
theorem lJ.at0 (h:lJ w A n g gc b t cs i z) {u:Value} (hz:z[0]?=some u):w.cell? ⟨b,i,none⟩=some u:=(h.blk.cell i).trans (h.has 0 u hz)
theorem aW.refl (w:World) (g b:Nat):aW w w g b:=⟨rfl,rfl,rfl,Nat.le_refl _,fun _ _ _ _=>rfl⟩
theorem aW.left (h:w.grownBy w1 (some g)) (b:Nat):aW w w1 g b:=⟨h.os,h.tape,h.output,h.size,fun k hk h4 _=>h.block k hk (by intro e;exact h4 (by injection e))⟩
theorem aW.right (h:w.grownBy w1 (some b)) (g:Nat):aW w w1 g b:=⟨h.os,h.tape,h.output,h.size,fun k hk _ h5=>h.block k hk (by intro e;exact h5 (by injection e))⟩
theorem CR.read (h:CR w g A n c l s gc) (hr:Rd 153 w1 g A n c l s') (hg:w.grownBy w1 (some g)):CR w1 g A n c l s' gc:=
 ⟨hr,h.blk.grown hg (by intro e;exact h.ne (by injection e)),h.ne,h.ad⟩
theorem CR.laid (h:CR w g A n c l s gc) (hg:w.grownBy w1 (some b)) (h1:b≠g) (h2:b≠gc) (h3:∀a,A=some a->0<n->a.block≠b):CR w1 g A n c l s gc:=
 ⟨h.rd.far hg (fun e=>h1 e.symm) h3,h.blk.grown hg (by intro e;exact h2 (by injection e with e;exact e.symm)),h.ne,h.ad⟩
end
abbrev zh:Ending:=.panicked [{v:=.iface 93 (.agg #[]),recovered:=false}]
def dW {α:Type} (R:Rel α) (size:Nat) (w:World) (g:Nat) (A:Option Addr) (n c:Nat) (l:List UInt8) (gc b:Nat) (t:TypeId) (cs:Array Value) (i:Nat) (x:α×RS):Ending->World->Prop:=fun e w'=>
 CR w' g A n c l x.2 gc/\aW w w' g b/\((x.2.e=0/\e=.returned (.tuple #[])/\∃vs,vs.length=size/\aj w' b t (put cs i vs)/\jW R (rng w.heap.size w'.heap.size) w' vs x.1)∨
    (x.2.e≠0/\e=zh/\∃cs',cs'.size=cs.size/\aj w' b t cs'))
def rJ {α:Type} (F:Nat) (R:Rel α) (size:Nat) (z:List Value) (f:eG α):Prop:=
 ∀(w:World) (g:Nat) (A:Option Addr) (n c:Nat) (l:List UInt8) (s:RS) (gc b:Nat) (t:TypeId) (cs:Array Value) (i:Nat),CR w g A n c l s gc->s.e=0->lJ w A n g gc b t cs i z->
  Calls Tryz.prog F #[.pointer (some ⟨gc,0,none⟩),.pointer (some ⟨b,i,none⟩)] w (dW R size w g A n c l gc b t cs i (f l s))
theorem dW.bad {α:Type} {R:Rel α} {size:Nat} {w w1:World} {g:Nat} {A:Option Addr} {n c:Nat} {l:List UInt8} {gc b:Nat} {t:TypeId} {cs cs':Array Value} {i:Nat} {x:α×RS} {s':RS} (hs:x.2=s') (he:s'.e≠0) (h:CR w1 g A n c l s' gc) (ht:aW w w1 g b) (hl:cs'.size=cs.size) (hb:aj w1 b t cs'):
 dW R size w g A n c l gc b t cs i x zh w1:=⟨by rw[hs];exact h,ht,.inr ⟨by rw[hs];exact he,rfl,cs',hl,hb⟩⟩
def jl {α:Type} (R:Rel α) (size:Nat):Rel (List α):=fun w B cs l=>∃v,cs=[v]/\dH R size w B v l
theorem jl.kept {α:Type} {R:Rel α} {size:Nat} (hR:R.Kept):(jl R size).Kept:=
 ⟨fun _ _ _ _ _ ⟨v,e,h⟩ hw=>⟨v,e,h.keep hR hw⟩,fun _ _ _ _ _ ⟨v,e,h⟩ hB=>⟨v,e,h.more hR hB⟩⟩
theorem jl.mono {α:Type} {R:Rel α} {size:Nat} (hR:R.ji):(jl R size).ji:=fun _ _ _ _ _ ⟨v,e,h⟩ hw=>⟨v,e,h.mono hR hw⟩
def yg {α:Type} (F cl:Nat) (R:Rel α) (size:Nat) (f:eG α):Prop:=
 ∀(w:World) (g:Nat) (A:Option Addr) (n c:Nat) (l:List UInt8) (s:RS) (gc b:Nat) (t:TypeId) (cs:Array Value) (i:Nat),CR w g A n c l s gc->s.e=0->lJ w A n g gc b t cs i [.slice none 0 0]->
  Calls Tryz.prog F #[.pointer (some ⟨gc,0,none⟩),.pointer (some ⟨b,i,none⟩),.func (.func cl) #[.pointer (some ⟨gc,0,none⟩)] #[]] w (dW (jl R size) 1 w g A n c l gc b t cs i (dn f l s))
theorem jW.on {α:Type} {R:Rel α} {w w1 w2:World} {g b:Nat} {vs:List Value} {a:α} (hR:R.Kept) (hm:R.ji) (h:jW R (rng w.heap.size w1.heap.size) w1 vs a) (ht:aW w1 w2 g b) (hg:g<w.heap.size) (hb:b<w.heap.size) {lo hi:Nat} (h1:lo<=w.heap.size) (h2:w1.heap.size<=hi):
 jW R (rng lo hi) w2 vs a:=
 (h.keep hR (fun k hk=>by rw[uf]at hk;exact ht.block k hk.2 byOmega byOmega) ht.size).wider hm fun k hk=>by rw[uf]at*;omega
theorem aaI {w:World} {base E size k:Nat} {v:Value} {xs zs:List Value} (h:w.ownsRow base E size v (k+1) (xs++zs)) (hz:zs.length=size):∃(rb cap:Nat) (cur:Array Value),v=.slice (some ⟨rb,0,none⟩) (k+1) cap/\base<=rb/\aj w rb E cur/\
 (∀j u,zs[j]?=some u->cur[k*size+j]?=some u)/\∀(w':World) (vs:List Value),vs.length=size->aj w' rb E (put cur (k*size) vs)->w'.ownsRow base E size v (k+1) (xs++vs):=by
 obtain⟨hl,h|⟨rb,cap,cur,rfl,hb,hg,h1,h2,h3,h4⟩⟩:=h
 · omega
 · have hx:xs.length=k*size:=(by rw[aK,Nat.succ_mul]at hl;omega);have hc:(k+1)*size<=cur.size:=(by rw[h3];exact Nat.mul_le_mul_right _ h1);rw[Nat.succ_mul]at hc;refine⟨rb,cap,cur,rfl,hb,hg,fun j u hj=>?_,fun w' vs hv hk=>?_⟩
   · have hj':=(List.getElem?_eq_some_iff.1 hj).1;have e:(cur.toList.take ((k+1)*size))[k*size+j]?=some u:=(by rw[h4,List.getElem?_append_right byOmega,hx,Nat.add_sub_cancel_left];exact hj);rw[List.getElem?_take_of_lt (by rw[Nat.succ_mul];omega),Array.getElem?_toList]at e;exact e
   · subst hv;refine⟨by rw[aK,Nat.succ_mul];omega,.inr ⟨rb,cap,_,rfl,hb,hk,h1,h2,by rw[fV];exact h3,?_⟩⟩;rw[Nat.succ_mul,aaH vs cur _ byOmega]
     congr 1
     have:=congrArg (List.take (k*vs.length)) h4;rw[List.take_take,Nat.min_eq_left (by rw[Nat.succ_mul];omega),List.take_left' hx]at this;exact this
theorem Single.push {α:Type} {R:Rel α} {E size base:Nat} {w:World} {v:Value} {l:List α} (hR:R.Kept) (hm:R.ji) (h:Single R E size base w v l):∃xs,w.ownsRow base E size v l.length xs/\
 ∀(cs:List Value) (a:α) (w1 w2:World) (v':Value) (b:Nat),cs.length=size->w2.ownsRow base E size v' (l.length+1) (xs++cs)->w.grownBy w1 v.ownBlock->(v'.ownBlock=v.ownBlock∨v'.ownBlock=some w.heap.size)->v'.ownBlock=some b->b<w1.heap.size->
  (∀k,base<=k->k<w1.heap.size->k≠b->w2.heap[k]?=w1.heap[k]?)->w1.heap.size<=w2.heap.size->∀{lo:Nat},w1.heap.size<=lo->jW R (rng lo w2.heap.size) w2 cs a->base<=w1.heap.size->Single R E size base w2 v' (l++[a]):=by
 obtain⟨⟨css,ho,hlen,hl,hc⟩,-,hd⟩:=h;refine⟨css.flatten,ho,fun cs a w1 w2 v' b hcs hown hg hat hvb hbl ht hsz2 lo hlo hin hbase=>?_⟩;have hsz:=hg.size;have hnil:∀k:Nat,(Value.slice none 0 0).ownBlock≠some k:=fun k e=>by simp[Value.ownBlock]at e
 have hK:∀k,qc base w.heap.size v (.slice none 0 0) k=true->qc base w2.heap.size v' (.slice none 0 0) k=true/\w2.heap[k]?=w.heap[k]?:=fun k hk=>by
  rw[yQ]at*;have hkb:k≠b:=by
   rintro rfl;rcases hat with e2|e2
   · rw[hvb]at e2;exact hk.2.2.1 e2.symm
   · rw[hvb]at e2;injection e2 with e2;omega
  refine⟨⟨hk.1,byOmega,?_,hnil k⟩,(ht k hk.1 byOmega hkb).trans (hg.block k hk.2.1 (fun e=>hk.2.2.1 e.symm))⟩;rw[hvb];intro e;injection e with e;exact hkb e.symm
 refine⟨⟨css++[cs],?_,by simp[hlen],?_,?_⟩,jH.nil _,fun k _=>hnil k⟩
 · rw[aK,List.flatten_append];simpa using hown
 · intro c hc';rcases List.mem_append.1 hc' with h1|h1
   · exact hl c h1
   · simp only[List.mem_cons,List.not_mem_nil,or_false]at h1;rw[h1];exact hcs
 · intro i c d h1 h2;by_cases hi:i<l.length
   · rw[List.getElem?_append_left byOmega]at h1 h2;exact((hc i c d h1 h2).keep hR (fun k hk=>(hK k hk).2) byOmega).wider hm fun k hk=>(hK k hk).1
   · have hi2:i=l.length:=by
        have:=(List.getElem?_eq_some_iff.1 h2).1;rw[aK,List.length_cons,List.length_nil]at this;omega
     subst hi2;rw[List.getElem?_append_right (Nat.le_refl _)]at h2;rw[<-hlen,List.getElem?_append_right (Nat.le_refl _)]at h1;simp only[Nat.sub_self,getZero,Option.some.injEq]at h1 h2;subst h1 h2;refine hin.wider hm fun k hk=>?_
     rw[uf]at hk;rw[yQ,hvb];exact⟨byOmega,hk.2,fun e=>by injection e;omega,hnil k⟩
theorem Single.nil {α:Type} {R:Rel α} {E size base:Nat} (w:World):Single R E size base w (.slice none 0 0) []:=Pair.nil _
theorem Single.form {α:Type} {R:Rel α} {E size base:Nat} {w:World} {v:Value} {l:List α} (h:Single R E size base w v l):∃A c,v=.slice A l.length c/\l.length<=c/\c<=maxLen:=Pair.QA h
theorem Single.inn {α:Type} {R:Rel α} {E size base:Nat} {w:World} {v:Value} {l:List α} (hm:R.ji) (hsz:0<size) (h:Single R E size base w v l):jW (jl R size) (rng base w.heap.size) w [v] l:=⟨v,rfl,(Pair.held hm hsz h).1⟩
theorem aaJ:(Tryz.prog.info? 3).map (fun i=>(i.zero,i.size,i.bytes))=some (some (.int .i64 0),1,8):=ah
theorem aaK:(Tryz.prog.info? 105).map (fun i=>(i.zero,i.size,i.bytes))=some (some (.agg #[.string ⟨#[]⟩,.int .i64 0,.float .f64 0,.string ⟨#[]⟩]),4,48):=ah
theorem aaL {l:List UInt8} (h:l.length<=8):jr l<18446744073709551616:=Nat.lt_of_lt_of_le (Mc l) (Nat.le_trans (Nat.pow_le_pow_right byOmega h) (by decide))
theorem aaM (l:List UInt8) (s:RS):bG (aS l s).1:=by
 have h0:bG 0:=by unfold bG;omega
 unfold aS;split
 · exact h0
 · split
   · exact h0
   · exact h0
   · rename_i n next hd;exact⟨(wQ hd).2.2.2.2.1,(wQ hd).2.2.2.2.2⟩
theorem Ry (l:List UInt8) (s:RS):(fK l s).1<18446744073709551616:=by
 unfold fK;split
 · omega
 · split
   · omega
   · simp only;split
     · omega
     · exact aaL (by rw[List.length_take];omega)
theorem wW (l:List UInt8) (s:RS) (m e:Int):bG (aX l s m e).1/\0<=(aX l s m e).1/\(0<=m->(aX l s m e).1<=m):=by
 have h0:bG 0/\(0:Int)<=0/\(0<=m->0<=m):=⟨by unfold bG;omega,byOmega,id⟩;unfold aX;split
 · exact h0
 · split
   · exact h0
   · exact h0
   · rename_i n next hd;split
     · exact h0
     · split
       · exact h0
       · exact⟨⟨(wQ hd).2.2.2.2.1,(wQ hd).2.2.2.2.2⟩,by simp only;omega,fun _=>by simp only;omega⟩
theorem Me (l:List UInt8) (s:RS) (m:Int):(dZ l s m).1.length<=l.length:=by
 have h0:([]:List UInt8).length<=l.length:=Nat.zero_le _;unfold dZ;split
 · exact h0
 · split
   · exact h0
   · exact h0
   · split
     · exact h0
     · split
       · exact h0
       · split
         · exact h0
         · simp only[List.length_take,List.length_drop];omega
theorem Rz (l:List UInt8) (s:RS) (m:Int) (h:l.length<=1000000000000):(sG m l s).1.size<=140737488351232:=by
 have:=Me l s m;show (dZ l s m).1.toArray.size<=_;rw[List.size_toArray];omega
theorem aaN (l:List UInt8) (s:RS) (h:l.length<=1000000000000):(je l s).1.ok:=by
 have h0:(⟨0,0,⟨#[]⟩⟩:Vl).ok:=⟨(by unfold bG;omega:bG 0),by show 0<_;omega,Nat.zero_le _⟩;have i1:bG 1:=by unfold bG;omega
 have i2:bG 2:=by unfold bG;omega
 unfold je;split
 · exact h0
 · unfold oZ;split
   · exact⟨i1,Ry _ _,Nat.zero_le _⟩
   · split
     · exact⟨i2,by show 0<_;omega,Rz _ _ _ h⟩
     · exact⟨(wW _ _ _ _).1,by show 0<_;omega,Nat.zero_le _⟩
abbrev Stp (S:Type):=S->eG S
def iH {S α:Type} (r:eG α) (u:α->S->S):Stp S:=fun x l s=>(u (r l s).1 x,(r l s).2)
def dL {S D:Type} (rd:D->Stp S):List D->Stp S
 |[],x,_,s=>(x,s)
 |d::ds,x,l,s=>dL rd ds (rd d x l s).1 l (rd d x l s).2
def BI {S D:Type} (rd:D->Stp S):Prop:=∀d x,mZ (rd d x)
theorem jw {S α:Type} {r:eG α} {u:α->S->S} (h:mZ r) (x:S):mZ (iH r u x):=fun l s he=>h l s he
theorem Iz {S D:Type} {rd:D->Stp S} (h:BI rd):∀ds,∀x,mZ (dL rd ds x)
 |[],x,l,s,he=>rfl
 |d::ds,x,l,s,he=>by
  show (dL rd ds _ l (rd d x l s).2).2=s;rw[h d x l s he];exact Iz h ds _ l s he
structure Bx (S H:Type) where
 T:TypeId
 N:Nat
 vals:S->H->Array Value
 lo:World->Nat->S->H->Prop
structure Bx.Good {S H:Type} (K:Bx S H):Prop where
 n:∀x h,(K.vals x h).size=K.N
 kept:∀w w' B B' x h,K.lo w B x h->(∀p:Addr,p.block<B->w'.cell? p=w.cell? p)->B<=B'->K.lo w' B' x h
 mono:∀w w' B x h,K.lo w B x h->(∀p u,p.block<B->w.cell? p=some u->w'.cell? p=some u)->K.lo w' B x h
theorem Bx.Good.on {S H:Type} {K:Bx S H} (G:K.Good) {w w':World} {B lo:Nat} {x:S} {h:H} (i:K.lo (only (rng B w.heap.size) w) w.heap.size x h) (hb:∀k,B<=k->k<w.heap.size->w'.heap[k]?=w.heap[k]?) (hs:w.heap.size<=w'.heap.size) (hl:lo<=B):
 K.lo (only (rng lo w'.heap.size) w') w'.heap.size x h:=
 G.mono _ _ _ _ _ (G.kept _ (only (rng B w.heap.size) w') _ w'.heap.size _ _ i (fun p _=>Qx (fun k hk=>by rw[uf]at hk;exact hb k hk.1 hk.2) p) hs) fun p u _ hc=>by
  obtain⟨hk,hw⟩:=tZ hc;rw[uf]at hk;rw[qE (uf.2 ⟨byOmega,byOmega⟩)];exact hw
def jf {S H α:Type} (K:Bx S H) (R:Rel α) (size off:Nat) (u:α->S->S) (hu:List Value->H->H):Prop:=
 ∀w B x h vs a,K.lo w B x h->R w B vs a->vs.length=size->put (K.vals x h) off vs=K.vals (u a x) (hu vs h)/\K.lo w B (u a x) (hu vs h)
structure RM {S H:Type} (K:Bx S H) (w0 w:World) (g:Nat) (A:Option Addr) (n c:Nat) (l:List UInt8) (gc b:Nat) (x:S) (h:H) (s:RS):Prop where
 cr:CR w g A n c l s gc
 e:s.e=0
 two:aW w0 w g b
 blk:aj w b K.T (K.vals x h)
 lo:K.lo (only (rng w0.heap.size w.heap.size) w) w.heap.size x h
 ng:b≠g
 nc:b≠gc
 ap:∀a,A=some a->0<n->a.block≠b
 gl:g<w0.heap.size
 bl:b<w0.heap.size
def RD {S:Type} (T:TypeId) (N:Nat) (w0:World) (g b:Nat) (Y:S×RS) (w:World):Prop:=Y.2.e≠0/\aW w0 w g b/\∃cs:Array Value,cs.size=N/\aj w b T cs
def Ac {α:Type} (R:Rel α) (size:Nat) (w:World) (g:Nat) (A:Option Addr) (n c:Nat) (l:List UInt8) (gc b:Nat) (t:TypeId) (cs:Array Value) (i:Nat) (x:α×RS):Ending->World->Prop:=fun e w'=>
 (CR w' g A n c l x.2 gc/\aW w w' g b/\x.2.e=0/\e=.returned (.tuple #[])/\∃vs,vs.length=size/\aj w' b t (put cs i vs)/\jW R (rng w.heap.size w'.heap.size) w' vs x.1)∨
    (x.2.e≠0/\e=zh/\aW w w' g b/\∃cs':Array Value,cs'.size=cs.size/\aj w' b t cs')
theorem dW.m {α:Type} {R:Rel α} {size:Nat} {w:World} {g:Nat} {A:Option Addr} {n c:Nat} {l:List UInt8} {gc b:Nat} {t:TypeId} {cs:Array Value} {i:Nat} {x:α×RS} {e:Ending} {w':World} (h:dW R size w g A n c l gc b t cs i x e w'):
 Ac R size w g A n c l gc b t cs i x e w':=by
 obtain⟨h1,h2,⟨h3,h4,h5⟩|⟨h3,h4,h5⟩⟩:=h
 · exact .inl ⟨h1,h2,h3,h4,h5⟩
 · exact .inr ⟨h3,h4,h2,h5⟩
def MB {S H D:Type} (rd:D->Stp S) (K:Bx S H) (w0:World) (g:Nat) (A:Option Addr) (n c:Nat) (l:List UInt8) (gc b:Nat) (ds:List D) (Y:S×RS) {α:Type} (a0:α) (k:α->List Value->S×H):Ending->World->Prop:=fun e w=>
 (∃a vs s,a=a0/\e=.returned (.tuple #[])/\RM K w0 w g A n c l gc b (k a vs).1 (k a vs).2 s/\dL rd ds (k a vs).1 l s=Y)∨(e=zh/\RD K.T K.N w0 g b Y w)
def uh {S H:Type} (K:Bx S H) (w0:World) (g:Nat) (A:Option Addr) (n c:Nat) (l:List UInt8) (gc b:Nat) (Y:S×RS):Ending->World->Prop:=fun e w=>
 (e=.returned (.tuple #[])/\∃h,RM K w0 w g A n c l gc b Y.1 h Y.2)∨(e=zh/\RD K.T K.N w0 g b Y w)
theorem IB {cs:Array Value} {j:Nat} {y:List Value} (hy:(cs.toList.drop j).take y.length=y) (q:Nat) (u:Value) (hq:y[q]?=some u):cs[j+q]?=some u:=by
 rw[<-hy,List.getElem?_take]at hq;split at hq
 · rw[List.getElem?_drop,Array.getElem?_toList]at hq;exact hq
 · cases hq
section
variable {S H D:Type} {rd:D->Stp S} {K:Bx S H} {w0 w w':World} {g:Nat} {A:Option Addr} {n c:Nat} {l:List UInt8} {gc b:Nat} {x:S} {h:H} {s:RS} {Y:S×RS} {d:D} {ds:List D}
theorem RM.below (G:K.Good) (X:RM K w0 w g A n c l gc b x h s) (hb:Below w.heap.size w w'):RM K w0 w' g A n c l gc b x h s:=
 ⟨X.cr.below hb,X.e,X.two.trans (aW.eU g b hb),X.blk.below hb X.blk.lt,G.on X.lo (fun k _ hk=>hb.block k hk) hb.size (Nat.le_refl _),X.ng,X.nc,X.ap,X.gl,X.bl⟩
theorem RM.drew (G:K.Good) (X:RM K w0 w g A n c l gc b x h s):RM K w0 w.drew g A n c l gc b x h s:=X.below G (aC).drew
theorem RM.cell (X:RM K w0 w g A n c l gc b x h s) (i:Nat) {v:Value} (e:(K.vals x h)[i]?=some v):w.cell? ⟨b,i,none⟩=some v:=(X.blk.cell i).trans e
theorem RM.keep (X:RM K w0 w g A n c l gc b x h s) {k:Nat} {t:TypeId} {cs:Array Value} (hk:aj w0 k t cs) (h1:k≠g) (h2:k≠b):aj w k t cs:=(X.two.block k hk.lt h1 h2).trans hk
theorem RM.dst (X:RM K w0 w g A n c l gc b x h s) (off:Nat) (z:List Value) (hz:((K.vals x h).toList.drop off).take z.length=z):lJ w A n g gc b K.T (K.vals x h) off z:=
 ⟨X.blk,fun j u hj=>IB hz j u hj,X.ng,X.nc,X.ap⟩
theorem RM.el {α:Type} {F:Nat} {vs:Array Value} {R:Rel α} {size off:Nat} {r:eG α} {u:α->S->S} {hu:List Value->H->H} (G:K.Good) (hs:BI rd) (X:RM K w0 w g A n c l gc b x h s) (hY:dL rd (d::ds) x l s=Y) (hd:rd d=iH r u)
 (hF:jf K R size off u hu) (hm:R.ji) (hC:Calls Tryz.prog F vs w (Ac R size w g A n c l gc b K.T (K.vals x h) off (r l s))):
 Calls Tryz.prog F vs w (MB rd K w0 g A n c l gc b ds Y (r l s).1 fun a vs=>(u a x,hu vs h)):=by
 have hY2:dL rd ds (u (r l s).1 x) l (r l s).2=Y:=by
  rw[<-hY];show _=dL rd ds (rd d x l s).1 l (rd d x l s).2;rw[hd];rfl
 refine hC.mono ?_;rintro e w1 (⟨hc,ht,he,rfl,vs',hl,hk,hi⟩|⟨he,rfl,ht,cs',hz,hk⟩)
 · have hg:=X.gl;have hb:=X.bl;have hz:=X.two.size;have hlo:=G.on X.lo (fun k h1 h2=>ht.block k h2 byOmega byOmega) ht.size (Nat.le_refl _);have hi2:=jW.wider hm hi (K':=rng w0.heap.size w1.heap.size) fun k hk=>by rw[uf]at*;omega
   obtain⟨p1,p2⟩:=hF _ _ x h vs' _ hlo hi2 hl;exact .inl ⟨(r l s).1,vs',(r l s).2,rfl,rfl,⟨hc,he,X.two.trans ht,by rw[<-p1];exact hk,p2,X.ng,X.nc,X.ap,hg,hb⟩,hY2⟩
 · refine .inr ⟨rfl,?_,X.two.trans ht,cs',hz.trans (G.n _ _),hk⟩;rw[<-hY2,Iz hs ds _ l _ he];exact he
theorem RM.e_ {α:Type} {F:Nat} {R:Rel α} {size off:Nat} {z:List Value} {r:eG α} {u:α->S->S} {hu:List Value->H->H} (G:K.Good) (hs:BI rd) (X:RM K w0 w g A n c l gc b x h s) (hY:dL rd (d::ds) x l s=Y) (hE:rJ F R size z r)
 (hF:jf K R size off u hu) (hm:R.ji) (hd:rd d=iH r u) (hz:((K.vals x h).toList.drop off).take z.length=z):
 Calls Tryz.prog F #[.pointer (some ⟨gc,0,none⟩),.pointer (some ⟨b,off,none⟩)] w (MB rd K w0 g A n c l gc b ds Y (r l s).1 fun a vs=>(u a x,hu vs h)):=
 X.el G hs hY hd hF hm ((hE w g A n c l s gc b K.T _ off X.cr X.e (X.dst off z hz)).mono fun _ _ h=>h.m)
theorem RM.l_ {α:Type} {F cl:Nat} {R:Rel α} {size off:Nat} {f:eG α} {u:List α->S->S} {hu:List Value->H->H} (G:K.Good) (hs:BI rd) (X:RM K w0 w g A n c l gc b x h s) (hY:dL rd (d::ds) x l s=Y) (hE:yg F cl R size f)
 (hF:jf K (jl R size) 1 off u hu) (hm:R.ji) (hd:rd d=iH (dn f) u) (hz:((K.vals x h).toList.drop off).take 1=[.slice none 0 0]):
 Calls Tryz.prog F #[.pointer (some ⟨gc,0,none⟩),.pointer (some ⟨b,off,none⟩),.func (.func cl) #[.pointer (some ⟨gc,0,none⟩)] #[]] w (MB rd K w0 g A n c l gc b ds Y (dn f l s).1 fun a vs=>(u a x,hu vs h)):=
 X.el G hs hY hd hF (jl.mono hm) ((hE w g A n c l s gc b K.T _ off X.cr X.e (X.dst off _ hz)).mono fun _ _ h=>h.m)
theorem RM.done (X:RM K w0 w g A n c l gc b x h s) (hY:dL rd [] x l s=Y):uh K w0 g A n c l gc b Y (.returned (.tuple #[])) w:=.inl ⟨rfl,h,by subst hY;exact X⟩
theorem RM.start (G:K.Good) (hc:CR w g A n c l s gc) (hs:s.e=0) (hb:aj w b K.T (K.vals x h)) (lo:∀w B,K.lo w B x h) (ng:b≠g) (nc:b≠gc) (ap:∀a,A=some a->0<n->a.block≠b):RM K w w g A n c l gc b x h s:=
 ⟨hc,hs,aW.refl _ _ _,hb,lo _ _,ng,nc,ap,hc.rd.blk.lt,hb.lt⟩
end
def uS (vs:List Value) (i:Nat):Hd:=match vs[i]? with
 |some (.slice A n c)=>⟨A,n,c⟩
 |_=>Hd.nil
section
variable {S D:Type} {rd:D->Stp S} {en:D->S->List UInt8} {ap:D->D->Bool}
def MC (rd:D->Stp S) (en:D->S->List UInt8):Prop:=∀d x l s,s.at_<=l.length->(rd d x l s).2.e=0->(rd d x l s).2.at_<=l.length/\l.take (rd d x l s).2.at_=l.take s.at_++en d (rd d x l s).1
def IC (rd:D->Stp S) (en:D->S->List UInt8) (ap:D->D->Bool):Prop:=∀d d',ap d d'=true->∀x l s,en d (rd d' x l s).1=en d x
theorem RG (hA:IC rd en ap) {d:D}:∀ds x l s,(∀d'∈ds,ap d d'=true)->en d (dL rd ds x l s).1=en d x
 |[],x,l,s,h=>rfl
 |d'::ds,x,l,s,h=>(RG hA ds _ l _ fun y hy=>h y (List.mem_cons_of_mem _ hy)).trans (hA d d' (h d' List.mem_cons_self) x l s)
theorem MG (hE:MC rd en) (hs:BI rd) (hA:IC rd en ap):∀ds x l s,ds.Pairwise (fun d d'=>ap d d'=true)->s.at_<=l.length->(dL rd ds x l s).2.e=0->
 (dL rd ds x l s).2.at_<=l.length/\l.take (dL rd ds x l s).2.at_=l.take s.at_++ds.flatMap fun d=>en d (dL rd ds x l s).1
 |[],x,l,s,hp,hl,he=>⟨hl,by simp[dL]⟩
 |d::ds,x,l,s,hp,hl,he=>by
  obtain⟨h1,h2⟩:=List.pairwise_cons.1 hp;have he1:(rd d x l s).2.e=0:=Decidable.byContradiction fun hn=>hn (by
   have:=Iz hs ds (rd d x l s).1 l _ hn;rw[<-this];exact he)
  obtain⟨a1,a2⟩:=hE d x l s hl he1;obtain⟨b1,b2⟩:=MG hE hs hA ds (rd d x l s).1 l _ h2 a1 he;refine⟨b1,b2.trans ?_⟩;rw[a2,List.append_assoc,List.flatMap_cons]
  congr 2
  exact(RG hA ds _ l _ h1).symm
theorem MH {P:S->Prop} {l:List UInt8} (h:∀d x s,P x->P (rd d x l s).1):∀ds x s,P x->P (dL rd ds x l s).1
 |[],x,s,hx=>hx
 |d::ds,x,s,hx=>MH h ds _ _ (h d x s hx)
end
end Go.Proofs.YtcalkfgibflbnaaGreat
namespace Go.Proofs.YtcalkfgibflbnaaGreat
set_option maxHeartbeats 1000000
set_option maxRecDepth 100000
set_option linter.unusedVariables false
open Go.RowKit Fl
attribute [local go_sem] dJ
def RH (s:RS) (w:World):Ending->World->Prop:=fun e w'=>(∃q,w.drewN q=w')/\((s.e=0/\e=.returned (.tuple #[]))∨(s.e≠0/\e=zh))
theorem sN (w:World) (g:Nat) (A:Option Addr) (n c:Nat) (l:List UInt8) (s:RS) (gc:Nat) (h:CR w g A n c l s gc):
 Calls Tryz.prog 129 #[.pointer (some ⟨gc,0,none⟩)] w (RH s w):=by
 by_cases hs:s.e=0
 · refine(look_ok w g A n c l s gc h hs).mono ?_;rintro e w1 ⟨rfl,hq⟩;exact⟨hq,.inl ⟨hs,rfl⟩⟩
 · have c1:=cl (h.blk.cell 1);have hF:=BA g A n c l s w h.rd;have hb:(s.e==0)=false:=(by simp[hs]);go_enter Tryz.func129,Tryz.ntmps129;go_wp2_with ((with_reducible refine hF.mono ?_);rintro e w1 ⟨rfl,q,rfl⟩);exact⟨rfl,⟨q,rfl⟩,.inr ⟨hs,rfl⟩⟩
theorem laid {α:Type} {R:Rel α} {vs z:List Value} {x:α×RS} {w w1:World} {g:Nat} {A:Option Addr} {n c:Nat} {l:List UInt8} {s:RS} {gc b:Nat} {t:TypeId} {cs:Array Value} {i:Nat} (h:CR w g A n c l s gc) (D:lJ w A n g gc b t cs i z)
 (hr:Rd 153 w1 g A n c l x.2) (hg:w.grownBy w1 (some g)) (hR:∀(K:Nat->Bool) (W:World),jW R K W vs x.1):
 CR (w1.setCells b i vs) g A n c l x.2 gc/\∀e w',RH x.2 (w1.setCells b i vs) e w'->dW R vs.length w g A n c l gc b t cs i x e w':=by
 have hp:=FD b vs w1 i;have hc:=(h.read hr hg).laid hp D.ng D.nc D.ap;have k1:aj w1 b t cs:=D.blk.grown hg (by intro e;exact D.ng (by injection e));refine⟨hc,?_⟩;rintro e w' ⟨⟨q,rfl⟩,h2⟩;have hD:Below (w1.setCells b i vs).heap.size (w1.setCells b i vs) ((w1.setCells b i vs).drewN q):=bD _;have k2:=(k1.puts vs _ _ i).below hD (k1.puts vs _ _ i).lt;refine⟨hc.below hD,((aW.left hg b).trans (aW.right hp g)).trans (aW.eU g b hD),?_⟩;rcases h2 with ⟨he,rfl⟩|⟨he,rfl⟩
 · exact .inl ⟨he,rfl,vs,rfl,k2,hR _ _⟩
 · exact .inr ⟨he,rfl,_,fV _ _ _,k2⟩
theorem jK:rJ 81 bK 1 [.int .i64 0] aS:=by
 intro w g A n c l s gc b t cs i h hs D;have c0:=cl (h.blk.cell 0);have c1:=cl (h.blk.cell 1);go_enter Tryz.func81,Tryz.ntmps81;go_wp2_with fail;refine(aas g A n c l s w h.rd).mono ?_;rintro e w1 ⟨rfl,hrd,hg⟩;have k1:aj w1 b t cs:=D.blk.grown hg (by intro e;exact D.ng (by injection e));have z1:w1.cell? ⟨b,i,none⟩=some (.int .i64 0):=(k1.cell i).trans (D.has 0 _ rfl);have f1:=k1.frozen i;obtain⟨hc2,hP⟩:=laid (R:=bK) (vs:=[.int .i64 (aS l s).1]) (x:=aS l s) h D hrd hg (fun K W=>⟨rfl,aaM l s⟩);go_wp2_with fail;refine(sN _ g A n c l _ gc hc2).mono ?_;rintro e w2 ⟨⟨q,rfl⟩,⟨he,rfl⟩|⟨he,rfl⟩⟩
 · go_wp2
   go_end0
   exact hP _ _ ⟨⟨q,rfl⟩,.inl ⟨he,rfl⟩⟩
 · go_wp2;exact⟨rfl,hP _ _ ⟨⟨q,rfl⟩,.inr ⟨he,rfl⟩⟩⟩
theorem RI:rJ 138 FB 1 [.bool false] nS:=by
 intro w g A n c l s gc b t cs i h hs D;have c0:=cl (h.blk.cell 0);have c1:=cl (h.blk.cell 1);go_enter Tryz.func138,Tryz.ntmps138;go_wp2_with fail;refine(aav g A n c l s w h.rd).mono ?_;rintro e w1 ⟨rfl,hrd,hg⟩;have k1:aj w1 b t cs:=D.blk.grown hg (by intro e;exact D.ng (by injection e));have z1:w1.cell? ⟨b,i,none⟩=some (.bool false):=(k1.cell i).trans (D.has 0 _ rfl);have f1:=k1.frozen i;obtain⟨hc2,hP⟩:=laid (R:=FB) (vs:=[.bool (nS l s).1]) (x:=nS l s) h D hrd hg (fun K W=>⟨rfl,trivial⟩);go_wp2_with fail;refine(sN _ g A n c l _ gc hc2).mono ?_;rintro e w2 ⟨⟨q,rfl⟩,⟨he,rfl⟩|⟨he,rfl⟩⟩
 · go_wp2
   go_end0
   exact hP _ _ ⟨⟨q,rfl⟩,.inl ⟨he,rfl⟩⟩
 · go_wp2;exact⟨rfl,hP _ _ ⟨⟨q,rfl⟩,.inr ⟨he,rfl⟩⟩⟩
theorem MI:rJ 187 Ip 1 [.float .f64 0] fK:=by
 intro w g A n c l s gc b t cs i h hs D;have c0:=cl (h.blk.cell 0);have c1:=cl (h.blk.cell 1);go_enter Tryz.func187,Tryz.ntmps187;go_wp2_with fail;refine(Rt g A n c l s w h.rd).mono ?_;rintro e w1 ⟨rfl,hrd,hg⟩;have k1:aj w1 b t cs:=D.blk.grown hg (by intro e;exact D.ng (by injection e));have z1:w1.cell? ⟨b,i,none⟩=some (.float .f64 0):=(k1.cell i).trans (D.has 0 _ rfl);have f1:=k1.frozen i;obtain⟨hc2,hP⟩:=laid (R:=Ip) (vs:=[.float .f64 (fK l s).1]) (x:=fK l s) h D hrd hg (fun K W=>⟨rfl,Ry l s⟩);go_wp2_with fail;refine(sN _ g A n c l _ gc hc2).mono ?_;rintro e w2 ⟨⟨q,rfl⟩,⟨he,rfl⟩|⟨he,rfl⟩⟩
 · go_wp2
   go_end0
   exact hP _ _ ⟨⟨q,rfl⟩,.inl ⟨he,rfl⟩⟩
 · go_wp2;exact⟨rfl,hP _ _ ⟨⟨q,rfl⟩,.inr ⟨he,rfl⟩⟩⟩
theorem DV:rJ 132 aO 1 [.string ⟨#[]⟩] iF:=by
 intro w g A n c l s gc b t cs i h hs D;have c0:=cl (h.blk.cell 0);have c1:=cl (h.blk.cell 1);go_enter Tryz.func132,Tryz.ntmps132;go_wp2_with fail;refine(Rn g A n c l s 262144 w h.rd).mono ?_;rintro e w1 ⟨rfl,hrd,hg⟩;have k1:aj w1 b t cs:=D.blk.grown hg (by intro e;exact D.ng (by injection e));have z1:w1.cell? ⟨b,i,none⟩=some (.string ⟨#[]⟩):=(k1.cell i).trans (D.has 0 _ rfl);have f1:=k1.frozen i;obtain⟨hc2,hP⟩:=laid (R:=aO) (vs:=[.string (iF l s).1]) (x:=iF l s) h D hrd hg (fun K W=>⟨rfl,Rz l s _ (by have:=h.rd.len;have:=h.rd.small;omega)⟩);go_wp2_with fail;refine(sN _ g A n c l _ gc hc2).mono ?_;rintro e w2 ⟨⟨q,rfl⟩,⟨he,rfl⟩|⟨he,rfl⟩⟩
 · go_wp2
   go_end0
   exact hP _ _ ⟨⟨q,rfl⟩,.inl ⟨he,rfl⟩⟩
 · go_wp2;exact⟨rfl,hP _ _ ⟨⟨q,rfl⟩,.inr ⟨he,rfl⟩⟩⟩
set_option maxHeartbeats 8000000
abbrev jB (k:Int) (a:Nat) (t:ByteArray):Array Value:=#[.int .i64 k,.float .f64 a,.string t]
theorem aaO (g:Nat) (A:Option Addr) (n c:Nat) (l:List UInt8) (s:RS) (w:World) (h:Rd 153 w g A n c l s):
 Calls Tryz.prog 195 #[.pointer (some ⟨g,0,none⟩)] w (qI 153 w g A n c l (je l s).1.val (je l s).2):=by
 have hb0:Below w.heap.size w (w.alloc (.cells (jB 0 0 ⟨#[]⟩) 59)):=aJ;have h0:=h.below hb0;have gl:=h.blk.lt;have B0:=aj.new w 59 (jB 0 0 ⟨#[]⟩);go_enter Tryz.func195,Tryz.ntmps195;go_wp2_with fail;refine(aat g A n c l s 2 _ h0).mono ?_;rintro e w1 ⟨rfl,h1,hg1⟩;have B1:=B0.grown hg1 (by intro e;injection e with e;omega);have hg:=(below_grown hb0 (some g)).trans hg1;have hs1:=hg.size;have ajh:g<w1.heap.size:=byOmega;have aji:=B1.lt;have had:∀a,A=some a->0<n->a.block≠w1.heap.size:=fun a ha hn=>by
  obtain⟨ad,e,hlt,_⟩:=h.reads.2 hn;rw[ha]at e;obtain rfl:=Option.some.inj e;omega
 have hX:Below w1.heap.size w1 (w1.alloc (.cells (jB (aX l s 2 4).1 0 ⟨#[]⟩) 59)):=aJ;have hV:je l s=(if (oZ l s).2.e≠0 then (⟨0,0,⟨#[]⟩⟩,(oZ l s).2) else oZ l s):=rfl;have hV0:oZ l s=if (aX l s 2 4).1=1 then (⟨1,(fK l (aX l s 2 4).2).1,⟨#[]⟩⟩,(fK l (aX l s 2 4).2).2) else if (aX l s 2 4).1=2 then (⟨2,0,(sG 64 l (aX l s 2 4).2).1⟩,(sG 64 l (aX l s 2 4).2).2) else (⟨(aX l s 2 4).1,0,⟨#[]⟩⟩,(aX l s 2 4).2):=rfl
 clear hg1 hb0 h0 B0;generalize je l s=res at*;generalize oZ l s=res0 at*;generalize aX l s 2 4=kd at*;obtain⟨k,s1⟩:=kd;simp only at*;have h2:=h1.below hX;have B2:=B1.below hX B1.lt;have C2:=aj.new w1 59 (jB k 0 ⟨#[]⟩);have hg2:=hg.trans (below_grown hX (some g));have hgs:∀(W:World) (i:Nat) (u:Value),w.grownBy W (some g)->w.grownBy (W.setCell ⟨w1.heap.size,i,none⟩ u) (some g):=fun W i u hh=>⟨hh.os,hh.tape,hh.output,by have:=hh.size;simpa [World.setCell] using this,fun j hj hne=>(Below.heap_setCell W _ _ _ ay).trans (hh.block j hj hne)⟩
 have hgr:∀(W:World) (us:Array Value),w.grownBy W (some g)->w.grownBy (W.setRow w.heap.size us) (some g):=fun W us hh=>by
  have hb:=below_setRow (Below.refl w.heap.size W) (Nat.le_refl _) us;exact⟨hb.os.trans hh.os,hb.tape.trans hh.tape,hb.output.trans hh.output,Nat.le_trans hh.size hb.size,fun j hj hne=>(hb.block j hj).trans (hh.block j hj hne)⟩
 clear hg hX B1 h1;have HV:=au hV;clear hV;by_cases hk1:k=1
 · subst hk1;rw[if_pos rfl]at hV0;have Ad:=au hV0;clear hV0;go_wp2_with fail;refine(Rt g A n c l s1 _ h2).mono ?_;rintro e w3 ⟨rfl,h3,hg3⟩;have B3:=B2.grown hg3 (by intro e;injection e with e;omega);have C3:=C2.grown hg3 (by intro e;injection e with e;omega);have z3:=cl (C3.cell 1);have f3:=C3.frozen 1;have hg4:=hgs _ 1 (.float .f64 (fK l s1).1) (hg2.trans hg3);have h4:=h3.far (jJ w3 w1.heap.size 1 (.float .f64 (fK l s1).1)) byOmega had;have B4:=B3.far (p:=⟨w1.heap.size,1,none⟩) ay (.float .f64 (fK l s1).1);have C4:=C3.fB 1 (.float .f64 (fK l s1).1);generalize fK l s1=x at*;clear C2 B2 h2 hg2 hg3 h3 hgs;have hF:=BA g A n c l _ _ h4;go_wp2_with fail;refine hF.mono ?_;rintro e w5 ⟨rfl,q,rfl⟩;have hD:Below (w3.setCell ⟨w1.heap.size,1,none⟩ (.float .f64 x.1)).heap.size (w3.setCell ⟨w1.heap.size,1,none⟩ (.float .f64 x.1)) ((w3.setCell ⟨w1.heap.size,1,none⟩ (.float .f64 x.1)).drewN q):=bD _;have h5:=h4.below hD;have B5:=B4.below hD B4.lt;have C5:=C4.below hD C4.lt;have hg5:=hg4.trans (below_grown hD (some g));clear h4 B4 C4 hg4 hD hF C3 B3 z3 f3;generalize (w3.setCell ⟨w1.heap.size,1,none⟩ (.float .f64 x.1)).drewN q=W at*;have Ae:aj W w1.heap.size 59 (jB 1 x.1 ⟨#[]⟩):=C5;by_cases he:x.2.e=0
   · have he1:(x.2.e==0)=true:=(by simp[he]);have HR:=au (show res=(⟨1,x.1,⟨#[]⟩⟩,x.2) by have:=HV.out;rw[Ad.out]at this;rw[this,if_neg (by simp[he])]);go_wp2_with (first
        |(guard_target=~ wpList _ _ _ _ _ _;refine wpList_load_row rfl 59 _ rfl w1.heap.size ah _ _ (0,0) _ Ae rfl rfl ah ?_)
        |(guard_target=~ wpList _ _ _ _ _ _;refine wpList_store_row rfl 59 _ _ rfl w.heap.size (jB 1 x.1 ⟨#[]⟩) ah ah _ _ B5 ah ah ah ?_
          obtain⟨W6,dM⟩:∃W6:World,W6=W.setRow w.heap.size (jB 1 x.1 ⟨#[]⟩):=⟨_,rfl⟩;rw[<-dM];have B6:aj W6 w.heap.size 59 (jB 1 x.1 ⟨#[]⟩):=by rw[dM];exact B5.setRow _))
     have h6:Rd 153 W6 g A n c l x.2:=h.turn (by rw[dM];exact h5.blk.jT _ byOmega) (by rw[dM];exact hgr _ _ hg5) h5.nU;have rC:w.grownBy W6 (some g):=(by rw[dM];exact hgr _ _ hg5);rw[HR.out];exact gJ rfl rfl B6 Tryz.underlying59 rfl ah ⟨rfl,h6,rC⟩
   · have he1:(x.2.e==0)=false:=(by simp[he]);have HR:=au (show res=(⟨0,0,⟨#[]⟩⟩,x.2) by have:=HV.out;rw[Ad.out]at this;rw[this,if_pos (by simp[he])]);go_wp2_with (first
        |(guard_target=~ wpList _ _ _ _ _ _;refine wpList_load_row rfl 59 _ rfl w1.heap.size ah _ _ (0,0) _ Ae rfl rfl ah ?_)
        |(guard_target=~ wpList _ _ _ _ _ _;refine wpList_store_row rfl 59 _ _ rfl w.heap.size (jB 0 0 ⟨#[]⟩) ah ah _ _ B5 ah ah ah ?_
          obtain⟨W6,dM⟩:∃W6:World,W6=W.setRow w.heap.size (jB 0 0 ⟨#[]⟩):=⟨_,rfl⟩;rw[<-dM];have B6:aj W6 w.heap.size 59 (jB 0 0 ⟨#[]⟩):=by rw[dM];exact B5.setRow _))
     have h6:Rd 153 W6 g A n c l x.2:=h.turn (by rw[dM];exact h5.blk.jT _ byOmega) (by rw[dM];exact hgr _ _ hg5) h5.nU;have rC:w.grownBy W6 (some g):=(by rw[dM];exact hgr _ _ hg5);rw[HR.out];exact gJ rfl rfl B6 Tryz.underlying59 rfl ah ⟨rfl,h6,rC⟩
 · rw[if_neg hk1]at hV0;have k1:(k==1)=false:=(by simp[hk1]);by_cases hk2:k=2
   · subst hk2;rw[if_pos rfl]at hV0;replace hV0:res0=(⟨2,0,⟨(dZ l s1 64).1.toArray⟩⟩,(dZ l s1 64).2):=hV0;have Ad:=au hV0;clear hV0;go_wp2_with fail;refine(Rn g A n c l s1 64 _ h2).mono ?_;rintro e w3 ⟨rfl,h3,hg3⟩;have B3:=B2.grown hg3 (by intro e;injection e with e;omega);have C3:=C2.grown hg3 (by intro e;injection e with e;omega);have z3:=cl (C3.cell 2);have f3:=C3.frozen 2;have hg4:=hgs _ 2 (.string ⟨(dZ l s1 64).1.toArray⟩) (hg2.trans hg3);have h4:=h3.far (jJ w3 w1.heap.size 2 (.string ⟨(dZ l s1 64).1.toArray⟩)) byOmega had;have B4:=B3.far (p:=⟨w1.heap.size,2,none⟩) ay (.string ⟨(dZ l s1 64).1.toArray⟩);have C4:=C3.fB 2 (.string ⟨(dZ l s1 64).1.toArray⟩);generalize dZ l s1 64=x at*;clear C2 B2 h2 hg2 hg3 h3 hgs;have hF:=BA g A n c l _ _ h4;go_wp2_with fail;refine hF.mono ?_;rintro e w5 ⟨rfl,q,rfl⟩;have hD:Below (w3.setCell ⟨w1.heap.size,2,none⟩ (.string ⟨x.1.toArray⟩)).heap.size (w3.setCell ⟨w1.heap.size,2,none⟩ (.string ⟨x.1.toArray⟩)) ((w3.setCell ⟨w1.heap.size,2,none⟩ (.string ⟨x.1.toArray⟩)).drewN q):=bD _;have h5:=h4.below hD;have B5:=B4.below hD B4.lt;have C5:=C4.below hD C4.lt;have hg5:=hg4.trans (below_grown hD (some g));clear h4 B4 C4 hg4 hD hF C3 B3 z3 f3;generalize (w3.setCell ⟨w1.heap.size,2,none⟩ (.string ⟨x.1.toArray⟩)).drewN q=W at*;have Ae:aj W w1.heap.size 59 (jB 2 0 ⟨x.1.toArray⟩):=C5;by_cases he:x.2.e=0
     · have he1:(x.2.e==0)=true:=(by simp[he]);have HR:=au (show res=(⟨2,0,⟨x.1.toArray⟩⟩,x.2) by have:=HV.out;rw[Ad.out]at this;rw[this,if_neg (by simp[he])]);go_wp2_with (first
        |(guard_target=~ wpList _ _ _ _ _ _;refine wpList_load_row rfl 59 _ rfl w1.heap.size ah _ _ (0,0) _ Ae rfl rfl ah ?_)
        |(guard_target=~ wpList _ _ _ _ _ _;refine wpList_store_row rfl 59 _ _ rfl w.heap.size (jB 2 0 ⟨x.1.toArray⟩) ah ah _ _ B5 ah ah ah ?_
          obtain⟨W6,dM⟩:∃W6:World,W6=W.setRow w.heap.size (jB 2 0 ⟨x.1.toArray⟩):=⟨_,rfl⟩;rw[<-dM];have B6:aj W6 w.heap.size 59 (jB 2 0 ⟨x.1.toArray⟩):=by rw[dM];exact B5.setRow _))
       have h6:Rd 153 W6 g A n c l x.2:=h.turn (by rw[dM];exact h5.blk.jT _ byOmega) (by rw[dM];exact hgr _ _ hg5) h5.nU;have rC:w.grownBy W6 (some g):=(by rw[dM];exact hgr _ _ hg5);rw[HR.out];exact gJ rfl rfl B6 Tryz.underlying59 rfl ah ⟨rfl,h6,rC⟩
     · have he1:(x.2.e==0)=false:=(by simp[he]);have HR:=au (show res=(⟨0,0,⟨#[]⟩⟩,x.2) by have:=HV.out;rw[Ad.out]at this;rw[this,if_pos (by simp[he])]);go_wp2_with (first
        |(guard_target=~ wpList _ _ _ _ _ _;refine wpList_load_row rfl 59 _ rfl w1.heap.size ah _ _ (0,0) _ Ae rfl rfl ah ?_)
        |(guard_target=~ wpList _ _ _ _ _ _;refine wpList_store_row rfl 59 _ _ rfl w.heap.size (jB 0 0 ⟨#[]⟩) ah ah _ _ B5 ah ah ah ?_
          obtain⟨W6,dM⟩:∃W6:World,W6=W.setRow w.heap.size (jB 0 0 ⟨#[]⟩):=⟨_,rfl⟩;rw[<-dM];have B6:aj W6 w.heap.size 59 (jB 0 0 ⟨#[]⟩):=by rw[dM];exact B5.setRow _))
       have h6:Rd 153 W6 g A n c l x.2:=h.turn (by rw[dM];exact h5.blk.jT _ byOmega) (by rw[dM];exact hgr _ _ hg5) h5.nU;have rC:w.grownBy W6 (some g):=(by rw[dM];exact hgr _ _ hg5);rw[HR.out];exact gJ rfl rfl B6 Tryz.underlying59 rfl ah ⟨rfl,h6,rC⟩
   · rw[if_neg hk2]at hV0;have k2:(k==2)=false:=(by simp[hk2]);obtain⟨x,hx⟩:∃x:Nat×RS,x=(0,s1):=⟨_,rfl⟩;obtain rfl:s1=x.2:=(by rw[hx]);have Ad:=au hV0;clear hV0 hgs hx;have hF:=BA g A n c l _ _ h2;go_wp2_with fail;refine hF.mono ?_;rintro e w5 ⟨rfl,q,rfl⟩;have hD:Below (w1.alloc (.cells (jB k 0 ⟨#[]⟩) 59)).heap.size (w1.alloc (.cells (jB k 0 ⟨#[]⟩) 59)) ((w1.alloc (.cells (jB k 0 ⟨#[]⟩) 59)).drewN q):=bD _;have h5:=h2.below hD;have B5:=B2.below hD B2.lt;have C5:=C2.below hD C2.lt;have hg5:=hg2.trans (below_grown hD (some g));clear h2 B2 C2 hg2 hD hF;generalize (w1.alloc (.cells (jB k 0 ⟨#[]⟩) 59)).drewN q=W at*;have Ae:aj W w1.heap.size 59 (jB k 0 ⟨#[]⟩):=C5;by_cases he:x.2.e=0
     · have he1:(x.2.e==0)=true:=(by simp[he]);have HR:=au (show res=(⟨k,0,⟨#[]⟩⟩,x.2) by have:=HV.out;rw[Ad.out]at this;rw[this,if_neg (by simp[he])]);go_wp2_with (first
        |(guard_target=~ wpList _ _ _ _ _ _;refine wpList_load_row rfl 59 _ rfl w1.heap.size ah _ _ (0,0) _ Ae rfl rfl ah ?_)
        |(guard_target=~ wpList _ _ _ _ _ _;refine wpList_store_row rfl 59 _ _ rfl w.heap.size (jB k 0 ⟨#[]⟩) ah ah _ _ B5 ah ah ah ?_
          obtain⟨W6,dM⟩:∃W6:World,W6=W.setRow w.heap.size (jB k 0 ⟨#[]⟩):=⟨_,rfl⟩;rw[<-dM];have B6:aj W6 w.heap.size 59 (jB k 0 ⟨#[]⟩):=by rw[dM];exact B5.setRow _))
       have h6:Rd 153 W6 g A n c l x.2:=h.turn (by rw[dM];exact h5.blk.jT _ byOmega) (by rw[dM];exact hgr _ _ hg5) h5.nU;have rC:w.grownBy W6 (some g):=(by rw[dM];exact hgr _ _ hg5);rw[HR.out];exact gJ rfl rfl B6 Tryz.underlying59 rfl ah ⟨rfl,h6,rC⟩
     · have he1:(x.2.e==0)=false:=(by simp[he]);have HR:=au (show res=(⟨0,0,⟨#[]⟩⟩,x.2) by have:=HV.out;rw[Ad.out]at this;rw[this,if_pos (by simp[he])]);go_wp2_with (first
        |(guard_target=~ wpList _ _ _ _ _ _;refine wpList_load_row rfl 59 _ rfl w1.heap.size ah _ _ (0,0) _ Ae rfl rfl ah ?_)
        |(guard_target=~ wpList _ _ _ _ _ _;refine wpList_store_row rfl 59 _ _ rfl w.heap.size (jB 0 0 ⟨#[]⟩) ah ah _ _ B5 ah ah ah ?_
          obtain⟨W6,dM⟩:∃W6:World,W6=W.setRow w.heap.size (jB 0 0 ⟨#[]⟩):=⟨_,rfl⟩;rw[<-dM];have B6:aj W6 w.heap.size 59 (jB 0 0 ⟨#[]⟩):=by rw[dM];exact B5.setRow _))
       have h6:Rd 153 W6 g A n c l x.2:=h.turn (by rw[dM];exact h5.blk.jT _ byOmega) (by rw[dM];exact hgr _ _ hg5) h5.nU;have rC:w.grownBy W6 (some g):=(by rw[dM];exact hgr _ _ hg5);rw[HR.out];exact gJ rfl rfl B6 Tryz.underlying59 rfl ah ⟨rfl,h6,rC⟩
theorem IE:rJ 146 LH 3 [.int .i64 0,.float .f64 0,.string ⟨#[]⟩] je:=by
 intro w g A n c l s gc b t cs i h hs D;have c0:=cl (h.blk.cell 0);have c1:=cl (h.blk.cell 1);go_enter Tryz.func146,Tryz.ntmps146;go_wp2_with fail;refine(aaO g A n c l s w h.rd).mono ?_;rintro e w1 ⟨rfl,hrd,hg⟩;have k1:aj w1 b t cs:=D.blk.grown hg (by intro e;exact D.ng (by injection e));have hth:=k1.there i 3 (by have:=(Array.getElem?_eq_some_iff.1 (D.has 2 _ rfl)).1;omega);obtain⟨hc2,hP⟩:=laid (R:=LH) (vs:=(je l s).1.cells) (x:=je l s) h D hrd hg (fun K W=>⟨rfl,aaN l s (by have:=h.rd.len;have:=h.rd.small;omega)⟩);go_wp2_with (first
  |(guard_target=~ wpList _ _ _ _ _ _;refine wpList_store_mid rfl _ _ _ rfl b i (jB (je l s).1.k (je l s).1.n (je l s).1.t) rfl rfl hth ah ah ?_)
  |fail)
 refine(sN _ g A n c l _ gc hc2).mono ?_;rintro e w2 ⟨⟨q,rfl⟩,⟨he,rfl⟩|⟨he,rfl⟩⟩
 · go_wp2
   go_end0
   exact hP _ _ ⟨⟨q,rfl⟩,.inl ⟨he,rfl⟩⟩
 · go_wp2;exact⟨rfl,hP _ _ ⟨⟨q,rfl⟩,.inr ⟨he,rfl⟩⟩⟩
set_option maxHeartbeats 6000000
theorem nX:rJ 84 DR 3 ([.int .i64 0]++([.int .i64 0]++([.int .i64 0]))) dY:=by
 intro w g A n c l s gc b t cs i h hs D;have gl:=h.rd.blk.lt;have bl:=D.blk.lt;go_enter Tryz.func84,Tryz.ntmps84;go_wp2_with fail;refine(jK w g A n c l s gc b t cs i h hs D.fst).mono ?_;rintro e w1 ⟨h1,t1,⟨e1,rfl,v1,l1,k1,n1⟩|⟨e1,rfl,cs1,l1,k1⟩⟩
 rotate_left
 · go_wp2;exact⟨rfl,dW.bad (s':=(aS l s).2) ((kX (mk:=fun _ _=>()) kV kV) l _ e1) e1 h1 t1 l1 k1⟩
 have D1:=D.oG k1 l1 rfl (i+1) rfl;clear k1;go_wp2_with fail;refine(jK w1 g A n c l (aS l s).2 gc b t _ (i+1) h1 e1 D1.fst).mono ?_;rintro e w2 ⟨h2,t2,⟨e2,rfl,v2,l2,k2,n2⟩|⟨e2,rfl,cs2,l2,k2⟩⟩
 rotate_left
 · go_wp2;exact⟨rfl,dW.bad (s':=(aS l (aS l s).2).2) (kV l _ e2) e2 h2 (t1.trans t2) (l2.trans (fV _ _ _)) k2⟩
 have D2:=D1.oG k2 l2 rfl (i+2) byOmega;clear k2;go_wp2_with fail;refine(jK w2 g A n c l (aS l (aS l s).2).2 gc b t _ (i+2) h2 e2 D2).mono ?_;rintro e w3 ⟨h3,t3,⟨e3,rfl,v3,l3,k3,n3⟩|⟨e3,rfl,FH,l3,k3⟩⟩
 rotate_left
 · go_wp2;exact⟨rfl,dW.bad (s':=(aS l (aS l (aS l s).2).2).2) rfl e3 h3 ((t1.trans t2).trans t3) (l3.trans ((fV _ _ _).trans (fV _ _ _))) k3⟩
 go_wp2
 go_end0
 refine⟨h3,((t1.trans t2).trans t3),.inl ⟨e3,rfl,v1++(v2++(v3)),by simp only[aK,l1,l2,l3],?_,?_⟩⟩
 · rw[nV,l1,nV,l2];exact k3
 · obtain⟨rfl,o1⟩:=n1;obtain⟨rfl,o2⟩:=n2;obtain⟨rfl,o3⟩:=n3;exact⟨rfl,o1,o2,o3⟩
theorem BJ:rJ 82 Iq 3 ([.int .i64 0]++([.int .i64 0]++([.int .i64 0]))) oD:=by
 intro w g A n c l s gc b t cs i h hs D;have gl:=h.rd.blk.lt;have bl:=D.blk.lt;go_enter Tryz.func82,Tryz.ntmps82;go_wp2_with fail;refine(jK w g A n c l s gc b t cs i h hs D.fst).mono ?_;rintro e w1 ⟨h1,t1,⟨e1,rfl,v1,l1,k1,n1⟩|⟨e1,rfl,cs1,l1,k1⟩⟩
 rotate_left
 · go_wp2;exact⟨rfl,dW.bad (s':=(aS l s).2) ((kX (mk:=fun _ _=>()) kV kV) l _ e1) e1 h1 t1 l1 k1⟩
 have D1:=D.oG k1 l1 rfl (i+1) rfl;clear k1;go_wp2_with fail;refine(jK w1 g A n c l (aS l s).2 gc b t _ (i+1) h1 e1 D1.fst).mono ?_;rintro e w2 ⟨h2,t2,⟨e2,rfl,v2,l2,k2,n2⟩|⟨e2,rfl,cs2,l2,k2⟩⟩
 rotate_left
 · go_wp2;exact⟨rfl,dW.bad (s':=(aS l (aS l s).2).2) (kV l _ e2) e2 h2 (t1.trans t2) (l2.trans (fV _ _ _)) k2⟩
 have D2:=D1.oG k2 l2 rfl (i+2) byOmega;clear k2;go_wp2_with fail;refine(jK w2 g A n c l (aS l (aS l s).2).2 gc b t _ (i+2) h2 e2 D2).mono ?_;rintro e w3 ⟨h3,t3,⟨e3,rfl,v3,l3,k3,n3⟩|⟨e3,rfl,FH,l3,k3⟩⟩
 rotate_left
 · go_wp2;exact⟨rfl,dW.bad (s':=(aS l (aS l (aS l s).2).2).2) rfl e3 h3 ((t1.trans t2).trans t3) (l3.trans ((fV _ _ _).trans (fV _ _ _))) k3⟩
 go_wp2
 go_end0
 refine⟨h3,((t1.trans t2).trans t3),.inl ⟨e3,rfl,v1++(v2++(v3)),by simp only[aK,l1,l2,l3],?_,?_⟩⟩
 · rw[nV,l1,nV,l2];exact k3
 · obtain⟨rfl,o1⟩:=n1;obtain⟨rfl,o2⟩:=n2;obtain⟨rfl,o3⟩:=n3;exact⟨rfl,o1,o2,o3⟩
theorem aaP:rJ 90 aF 4 ([.string ⟨#[]⟩]++([.int .i64 0,.float .f64 0,.string ⟨#[]⟩])) nT:=by
 intro w g A n c l s gc b t cs i h hs D;have gl:=h.rd.blk.lt;have bl:=D.blk.lt;go_enter Tryz.func90,Tryz.ntmps90;go_wp2_with fail;refine(DV w g A n c l s gc b t cs i h hs D.fst).mono ?_;rintro e w1 ⟨h1,t1,⟨e1,rfl,v1,l1,k1,n1⟩|⟨e1,rfl,cs1,l1,k1⟩⟩
 rotate_left
 · go_wp2;exact⟨rfl,dW.bad (s':=(iF l s).2) (Bq l _ e1) e1 h1 t1 l1 k1⟩
 have D1:=D.oG k1 l1 rfl (i+1) rfl;clear k1;go_wp2_with fail;refine(IE w1 g A n c l (iF l s).2 gc b t _ (i+1) h1 e1 D1).mono ?_;rintro e w2 ⟨h2,t2,⟨e2,rfl,v2,l2,k2,n2⟩|⟨e2,rfl,cs2,l2,k2⟩⟩
 rotate_left
 · go_wp2;exact⟨rfl,dW.bad (s':=(je l (iF l s).2).2) rfl e2 h2 (t1.trans t2) (l2.trans (fV _ _ _)) k2⟩
 go_wp2
 go_end0
 refine⟨h2,(t1.trans t2),.inl ⟨e2,rfl,v1++(v2),by simp only[aK,l1,l2],?_,?_⟩⟩
 · rw[nV,l1];exact k2
 · obtain⟨rfl,o1⟩:=n1;obtain⟨rfl,o2⟩:=n2;exact⟨rfl,o1,o2⟩
theorem aaQ:rJ 201 aF 4 ([.string ⟨#[]⟩]++([.int .i64 0,.float .f64 0,.string ⟨#[]⟩])) nT:=by
 intro w g A n c l s gc b t cs i h hs D;have gl:=h.rd.blk.lt;have bl:=D.blk.lt;go_enter Tryz.func201,Tryz.ntmps201;go_wp2_with fail;refine(DV w g A n c l s gc b t cs i h hs D.fst).mono ?_;rintro e w1 ⟨h1,t1,⟨e1,rfl,v1,l1,k1,n1⟩|⟨e1,rfl,cs1,l1,k1⟩⟩
 rotate_left
 · go_wp2;exact⟨rfl,dW.bad (s':=(iF l s).2) (Bq l _ e1) e1 h1 t1 l1 k1⟩
 have D1:=D.oG k1 l1 rfl (i+1) rfl;clear k1;go_wp2_with fail;refine(IE w1 g A n c l (iF l s).2 gc b t _ (i+1) h1 e1 D1).mono ?_;rintro e w2 ⟨h2,t2,⟨e2,rfl,v2,l2,k2,n2⟩|⟨e2,rfl,cs2,l2,k2⟩⟩
 rotate_left
 · go_wp2;exact⟨rfl,dW.bad (s':=(je l (iF l s).2).2) rfl e2 h2 (t1.trans t2) (l2.trans (fV _ _ _)) k2⟩
 go_wp2
 go_end0
 refine⟨h2,(t1.trans t2),.inl ⟨e2,rfl,v1++(v2),by simp only[aK,l1,l2],?_,?_⟩⟩
 · rw[nV,l1];exact k2
 · obtain⟨rfl,o1⟩:=n1;obtain⟨rfl,o2⟩:=n2;exact⟨rfl,o1,o2⟩
theorem aaR:rJ 193 fC 6 ([.int .i64 0,.int .i64 0,.int .i64 0]++([.int .i64 0,.float .f64 0,.string ⟨#[]⟩])) wU:=by
 intro w g A n c l s gc b t cs i h hs D;have gl:=h.rd.blk.lt;have bl:=D.blk.lt;go_enter Tryz.func193,Tryz.ntmps193;go_wp2_with fail;refine(nX w g A n c l s gc b t cs i h hs D.fst).mono ?_;rintro e w1 ⟨h1,t1,⟨e1,rfl,v1,l1,k1,n1⟩|⟨e1,rfl,cs1,l1,k1⟩⟩
 rotate_left
 · go_wp2;exact⟨rfl,dW.bad (s':=(dY l s).2) (Bq l _ e1) e1 h1 t1 l1 k1⟩
 have D1:=D.oG k1 l1 rfl (i+3) rfl;clear k1;go_wp2_with fail;refine(IE w1 g A n c l (dY l s).2 gc b t _ (i+3) h1 e1 D1).mono ?_;rintro e w2 ⟨h2,t2,⟨e2,rfl,v2,l2,k2,n2⟩|⟨e2,rfl,cs2,l2,k2⟩⟩
 rotate_left
 · go_wp2;exact⟨rfl,dW.bad (s':=(je l (dY l s).2).2) rfl e2 h2 (t1.trans t2) (l2.trans (fV _ _ _)) k2⟩
 go_wp2
 go_end0
 refine⟨h2,(t1.trans t2),.inl ⟨e2,rfl,v1++(v2),by simp only[aK,l1,l2],?_,?_⟩⟩
 · rw[nV,l1];exact k2
 · obtain⟨rfl,o1⟩:=n1;obtain⟨rfl,o2⟩:=n2;exact⟨rfl,o1,o2⟩
theorem RJ:rJ 136 gX 4 ([.int .i64 0]++([.int .i64 0]++([.float .f64 0]++([.float .f64 0])))) kF:=by
 intro w g A n c l s gc b t cs i h hs D;have gl:=h.rd.blk.lt;have bl:=D.blk.lt;go_enter Tryz.func136,Tryz.ntmps136;go_wp2_with fail;refine(jK w g A n c l s gc b t cs i h hs D.fst).mono ?_;rintro e w1 ⟨h1,t1,⟨e1,rfl,v1,l1,k1,n1⟩|⟨e1,rfl,cs1,l1,k1⟩⟩
 rotate_left
 · go_wp2;exact⟨rfl,dW.bad (s':=(aS l s).2) ((kX (mk:=fun _ _=>()) (kX (mk:=fun _ _=>()) kV uO) uO) l _ e1) e1 h1 t1 l1 k1⟩
 have D1:=D.oG k1 l1 rfl (i+1) rfl;clear k1;go_wp2_with fail;refine(jK w1 g A n c l (aS l s).2 gc b t _ (i+1) h1 e1 D1.fst).mono ?_;rintro e w2 ⟨h2,t2,⟨e2,rfl,v2,l2,k2,n2⟩|⟨e2,rfl,cs2,l2,k2⟩⟩
 rotate_left
 · go_wp2;exact⟨rfl,dW.bad (s':=(aS l (aS l s).2).2) ((kX (mk:=fun _ _=>()) uO uO) l _ e2) e2 h2 (t1.trans t2) (l2.trans (fV _ _ _)) k2⟩
 have D2:=D1.oG k2 l2 rfl (i+2) byOmega;clear k2;go_wp2_with fail;refine(MI w2 g A n c l (aS l (aS l s).2).2 gc b t _ (i+2) h2 e2 D2.fst).mono ?_;rintro e w3 ⟨h3,t3,⟨e3,rfl,v3,l3,k3,n3⟩|⟨e3,rfl,FH,l3,k3⟩⟩
 rotate_left
 · go_wp2;exact⟨rfl,dW.bad (s':=(fK l (aS l (aS l s).2).2).2) (uO l _ e3) e3 h3 ((t1.trans t2).trans t3) (l3.trans ((fV _ _ _).trans (fV _ _ _))) k3⟩
 have D3:=D2.oG k3 l3 rfl (i+3) byOmega;clear k3;go_wp2_with fail;refine(MI w3 g A n c l (fK l (aS l (aS l s).2).2).2 gc b t _ (i+3) h3 e3 D3).mono ?_;rintro e w4 ⟨h4,t4,⟨e4,rfl,v4,l4,k4,n4⟩|⟨e4,rfl,RN,l4,k4⟩⟩
 rotate_left
 · go_wp2;exact⟨rfl,dW.bad (s':=(fK l (fK l (aS l (aS l s).2).2).2).2) rfl e4 h4 (((t1.trans t2).trans t3).trans t4) (l4.trans ((fV _ _ _).trans ((fV _ _ _).trans (fV _ _ _)))) k4⟩
 go_wp2
 go_end0
 refine⟨h4,(((t1.trans t2).trans t3).trans t4),.inl ⟨e4,rfl,v1++(v2++(v3++(v4))),by simp only[aK,l1,l2,l3,l4],?_,?_⟩⟩
 · rw[nV,l1,nV,l2,nV,l3];exact k4
 · obtain⟨rfl,o1⟩:=n1;obtain⟨rfl,o2⟩:=n2;obtain⟨rfl,o3⟩:=n3;obtain⟨rfl,o4⟩:=n4;exact⟨rfl,o1,o2,o3,o4⟩
end Go.Proofs.YtcalkfgibflbnaaGreat
namespace Go.Proofs.YtcalkfgibflbnaaGreat
set_option linter.unusedVariables false
open Go.RowKit Fl
structure RP (w:World) (g:Nat) (A:Option Addr) (n gc b:Nat):Prop where
 gl:g<w.heap.size
 cl:gc<w.heap.size
 bl:b<w.heap.size
 al:∀a,A=some a->0<n->a.block<w.heap.size
 ng:b≠g
 nc:b≠gc
 ap:∀a,A=some a->0<n->a.block≠b
theorem CR.fix {w:World} {g:Nat} {A:Option Addr} {n c:Nat} {l:List UInt8} {s:RS} {gc b:Nat} {t:TypeId} {cs:Array Value} {i:Nat} {z:List Value} (h:CR w g A n c l s gc) (D:lJ w A n g gc b t cs i z):RP w g A n gc b:=
 ⟨h.rd.blk.lt,h.blk.lt,D.blk.lt,fun a ha hn=>by
  obtain⟨ad,e,hlt,_⟩:=h.rd.reads.2 hn;rw[ha]at e;obtain rfl:=Option.some.inj e;exact hlt,D.ng,D.nc,D.ap⟩
theorem CR.low {w w':World} {g:Nat} {A:Option Addr} {n c:Nat} {l:List UInt8} {s:RS} {gc B:Nat} (h:CR w g A n c l s gc) (hb:Below B w w') (hg:g<B) (hc:gc<B) (ha:∀a,A=some a->0<n->a.block<B):CR w' g A n c l s gc:=
 ⟨⟨h.rd.blk.below hb hg,⟨h.rd.reads.1,fun hn=>by
  obtain⟨ad,e,hlt,hx⟩:=h.rd.reads.2 hn;exact⟨ad,e,Nat.lt_of_lt_of_le hlt hb.size,fun j u hu=>(hb.cell (by rw[iW];exact ha ad e hn)).trans (hx j u hu)⟩⟩,h.rd.len,h.rd.small,h.rd.apart,h.rd.nU,h.rd.nc,h.rd.cm⟩,h.blk.below hb hc,h.ne,h.ad⟩
structure qj {α:Type} (R:Rel α) (E size:Nat) (f:eG α) (w:World) (g:Nat) (A:Option Addr) (n c:Nat) (l:List UInt8) (gc b:Nat) (t:TypeId) (cs:Array Value) (i N:Nat) (s1:RS) (k:Nat) (L:List α) (sk:RS) (v:Value) (wr:World):Prop where
 hk:k<=N
 len:L.length=k
 cr:CR wr g A n c l sk gc
 e:sk.e=0
 blk:aj wr b t (put cs i [v])
 row:Single R E size w.heap.size wr v L
 two:aW w wr g b
 eq:iG f l N s1=(L++(iG f l (N-k) sk).1,(iG f l (N-k) sk).2)
section
variable {α:Type} {R:Rel α} {E size:Nat} {f:eG α} {w:World} {g:Nat} {A:Option Addr} {n c:Nat} {l:List UInt8} {gc b:Nat} {t:TypeId} {cs:Array Value} {i N:Nat} {s1 sk:RS} {k:Nat} {L:List α} {v:Value} {wr:World}
theorem qj.start (hc:CR wr g A n c l s1 gc) (he:s1.e=0) (hb:aj wr b t (put cs i [.slice none 0 0])) (ht:aW w wr g b):qj R E size f w g A n c l gc b t cs i N s1 0 [] s1 (.slice none 0 0) wr:=
 ⟨Nat.zero_le _,rfl,hc,he,hb,Single.nil _,ht,aA⟩
theorem qj.done (hm:R.ji) (hsz:0<size) (h:qj R E size f w g A n c l gc b t cs i N s1 k L sk v wr) (hk:¬k<N):dW (jl R size) 1 w g A n c l gc b t cs i (iG f l N s1) (.returned (.tuple #[])) wr:=by
 obtain rfl:N=k:=by have:=h.hk;omega
 have he:iG f l N s1=(L,sk):=by
  rw[h.eq,Nat.sub_self];show (L++[],sk)=_;rw[List.append_nil]
 rw[he];exact⟨h.cr,h.two,.inl ⟨h.e,rfl,[v],rfl,h.blk,h.row.inn hm hsz⟩⟩
structure FI (w:World) (g b:Nat) (t:TypeId) (cs:Array Value) (i:Nat) (v':Value) (x s':RS) (w7:World):Prop where
 e:s'.e≠0
 eq:x=s'
 two:aW w w7 g b
 blk:aj w7 b t (put cs i [v'])
theorem FI.post {x:List α×RS} {s':RS} {v':Value} {w7:World} (h:FI w g b t cs i v' x.2 s' w7) (hc:CR w7 g A n c l s' gc):dW (jl R size) 1 w g A n c l gc b t cs i x zh w7:=dW.bad (s':=s') h.eq h.e hc h.two (by rw[fV]) h.blk
theorem FI.m {x:List α×RS} {s':RS} {v':Value} {w7:World} (h:FI w g b t cs i v' x.2 s' w7):Ac (jl R size) 1 w g A n c l gc b t cs i x zh w7:=.inr ⟨by rw[h.eq];exact h.e,rfl,h.two,_,by rw[fV],h.blk⟩
theorem qj.round {z:List Value} {X:World} (hR:R.Kept) (hm:R.ji) (fx:RP w g A n gc b) (h:qj R E size f w g A n c l gc b t cs i N s1 k L sk v wr) (hlt:k<N) (hi:i<cs.size) (hz:z.length=size) (hX:Below wr.heap.size wr X):∃xs,X.ownsRow w.heap.size E size v L.length xs/\
 ∀(v':Value) (w5:World),w5.ownsRow w.heap.size E size v' (L.length+1) (xs++z)->X.grownBy w5 v.ownBlock->(v'.ownBlock=v.ownBlock∨v'.ownBlock=some X.heap.size)->
  w5.cell? ⟨b,i,none⟩=some v/\w5.frozen? ⟨b,i,none⟩=false/\∃rb cap cur,v'=.slice (some ⟨rb,0,none⟩) (k+1) cap/\(w5.setCell ⟨b,i,none⟩ v').cell? ⟨b,i,none⟩=some v'/\
        CR (w5.setCell ⟨b,i,none⟩ v') g A n c l sk gc/\lJ (w5.setCell ⟨b,i,none⟩ v') A n g gc rb E cur (k*size) z/\aW w (w5.setCell ⟨b,i,none⟩ v') g b/\
        ∀e w7,Ac R size (w5.setCell ⟨b,i,none⟩ v') g A n c l gc rb E cur (k*size) (f l sk) e w7->
         (e=.returned (.tuple #[])/\qj R E size f w g A n c l gc b t cs i N s1 (k+1) (L++[(f l sk).1]) (f l sk).2 v' w7)∨(e=zh/\FI w g b t cs i v' (iG f l N s1).2 (f l sk).2 w7):=by
 have hzz:=h.two.size;have E8:=hX.size;have MJ:Below w.heap.size wr X:=hX.mono hzz;have aaS:Single R E size w.heap.size X v L:=Pair.below hR hm h.row hX;obtain⟨xs,hown,hpush⟩:=Single.push hR hm aaS;refine⟨xs,hown,fun v' w5 hown5 hg5 hat=>?_⟩;have h5z:=hg5.size;have yh:Below w.heap.size wr w5:=MJ.grown hg5 byOmega (fun q hq=>(hown.lt q hq).1);have hb5:aj w5 b t (put cs i [v]):=h.blk.below yh fx.bl;have hc5:=h.cr.low yh fx.gl fx.cl fx.al;have hvb:∀q,v'.ownBlock=some q->w.heap.size<=q/\q<w5.heap.size:=hown5.lt;have hown6:(w5.setCell ⟨b,i,none⟩ v').ownsRow w.heap.size E size v' (L.length+1) (xs++z):=hown5.kept (jJ w5 b i v') (.inr fun e=>by have:=(hvb b e).1;have:=fx.bl;omega);have hb6:aj (w5.setCell ⟨b,i,none⟩ v') b t (put cs i [v']):=by
  have:=hb5.fB i v';have e:(put cs i [v]).setIfInBounds i v'=put cs i [v']:=by
   show (cs.setIfInBounds i v).setIfInBounds i v'=cs.setIfInBounds i v';exact Array.setIfInBounds_setIfInBounds _
  rwa [e]at this
 have hc6:CR (w5.setCell ⟨b,i,none⟩ v') g A n c l sk gc:=hc5.laid (jJ w5 b i v') fx.ng fx.nc fx.ap;have hp1:(put cs i [v])[i]?=some v:=ug [v] cs i 0 v rfl ay;have hp2:(put cs i [v'])[i]?=some v':=ug [v'] cs i 0 v' rfl ay;refine⟨(hb5.cell i).trans hp1,hb5.frozen i,?_⟩;rw[h.len]at hown6;obtain⟨rb,cap,cur,rfl,hrb,kb,hzc,hput⟩:=aaI hown6 hz;have DW:(w5.setCell ⟨b,i,none⟩ (.slice (some ⟨rb,0,none⟩) (k+1) cap)).heap.size=w5.heap.size:=by simp[World.setCell]
 have aaT:=(hvb rb rfl).2;have f1:=fx.gl;have f2:=fx.cl;have f3:=fx.bl;refine⟨rb,cap,cur,rfl,(hb6.cell i).trans hp2,hc6,⟨kb,hzc,byOmega,byOmega,fun a ha hn=>by have:=fx.al a ha hn;omega⟩,⟨yh.os.trans h.two.os,yh.tape.trans h.two.tape,yh.output.trans h.two.output,byOmega,fun q hq h1 h2=>(Below.heap_setCell _ _ _ _ h2).trans ((yh.block q hq).trans (h.two.block q hq h1 h2))⟩,?_⟩;rintro e w7 h8;have t7:aW (w5.setCell ⟨b,i,none⟩ (.slice (some ⟨rb,0,none⟩) (k+1) cap)) w7 g rb:=by
  rcases h8 with h|h
  · exact h.2.1
  · exact h.2.2.1
 have RQ:=t7.size;rw[DW]at RQ;have hblk:∀q,q<w5.heap.size->q≠g->q≠b->q≠rb->w7.heap[q]?=w5.heap[q]?:=fun q h1 h2 h3 h4=>(t7.block q (by rw[DW];exact h1) h2 h4).trans (Below.heap_setCell _ _ _ _ h3)
 have RU:aW w w7 g b:=⟨t7.os.trans (yh.os.trans h.two.os),t7.tape.trans (yh.tape.trans h.two.tape),t7.output.trans (yh.output.trans h.two.output),byOmega,fun q hq h1 h2=>
  (hblk q byOmega h1 h2 byOmega).trans ((yh.block q hq).trans (h.two.block q hq h1 h2))⟩
 have hb7:aj w7 b t (put cs i [.slice (some ⟨rb,0,none⟩) (k+1) cap]):=(t7.block b (by rw[DW];omega) fx.ng byOmega).trans hb6;have hnx:=LG f l (k:=N-k) (s:=sk) byOmega h.e;rcases h8 with ⟨h7,-,he,rfl,vs,hvl,RV,hin⟩|⟨he,rfl,-,cs',hcl,RV⟩
 · refine .inl ⟨rfl,byOmega,by rw[aK,h.len];rfl,h7,he,hb7,?_,RU,?_⟩
   · rw[DW]at hin;refine hpush vs _ w5 w7 _ rb hvl (by rw[h.len];exact hput w7 vs hvl RV) hg5 hat rfl aaT (fun q h1 h2 h3=>hblk q h2 byOmega byOmega h3) RQ (lo:=w5.heap.size) (Nat.le_refl _) hin byOmega
   · rw[h.eq,hnx,List.append_assoc];have e1:N-k-1=N-(k+1):=byOmega;rw[e1];rfl
 · refine .inr ⟨rfl,he,?_,RU,hb7⟩;rw[h.eq,hnx];show (iG f l (N-k-1) (f l sk).2).2=_;rw[sJ f l _ _ he]
end
def yj {α:Type} (R:Rel α) (E size:Nat) (f:eG α) (w:World) (g:Nat) (A:Option Addr) (n c:Nat) (l:List UInt8) (gc b:Nat) (t:TypeId) (cs:Array Value) (i N:Nat) (s1:RS) (iv:Value) (wr:World):Prop:=
 ∃(k:Nat) (L:List α) (sk:RS) (v:Value),iv=.int .i64 (k:Int)/\qj R E size f w g A n c l gc b t cs i N s1 k L sk v wr
