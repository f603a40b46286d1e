/- A short form of one move of a walk through a region that draws its order. -/
import Derived.Deep.RegionLaw
import Derived.Test.YtcalkfgibflbnaaGreatDaaf
namespace Go.Proofs.YtcalkfgibflbnaaGreat
theorem tk {P:Program} {md:Region.Mode} {ops:Array Oper} {Q:Exit→Act→World→Prop} {S:World→Prop} (i d:Nat) {v:Value} {fuel:Nat} {listed:Array Bool} {a:Act} {w:World} {x1 x2 x3 x4 x5} (hi:ops[i]?=some ⟨some d,x1,x2,x3,x4,x5⟩)
 (hy:YieldsIf P ops S ⟨some d,x1,x2,x3,x4,x5⟩ v a) (hS:S w) (h:wpAnyH P md ops Q S fuel (listed.setIfInBounds i true) (a.put (some d) v) w)
 (hs:Region.noSelect ops=true:=by kernel_rfl) (hf:Region.free md ops listed i=true:=by kernel_rfl) (hr:(Region.ready md ops listed).contains i=true:=by kernel_rfl)
 (hQ:∀c a w,Q (.panic c) (a.put (some d) v) w→Q (.panic c) a w:=by exact fun _ _ _ h=>h):wpAnyH P md ops Q S (fuel+1) listed a w:=
 wpAnyH_take (i:=i) (oi:=⟨some d,x1,x2,x3,x4,x5⟩) hi hs hf hr hQ hy hS h
end Go.Proofs.YtcalkfgibflbnaaGreat
namespace Go.Proofs.YtcalkfgibflbnaaGreat
set_option maxHeartbeats 4000000
set_option maxRecDepth 100000
set_option linter.unusedVariables false
open Go.RowKit Fl
attribute [local go_sem] run_store_float
def CopyRel {α:Type} (f:α→List Value) (E size:Nat) (l:List α) (w:World) (v i:Value) (wr:World):Prop:=∃k:Nat,k≤l.length∧i=.int .i64 (k:Int)∧OwnL f E size w.heap.size wr v (l.take k)∧Below w.heap.size w wr
theorem strings_any (A:Option Addr) (n c:Nat) (l:List ByteArray) (w:World) (h:Sl KyRel 1 w w.heap.size A n l) (hn:n≤1000000):
 Calls Tryz.prog 22 #[.slice A n c] w fun e w'=>∃v,e=.returned v∧OwnL keyCells 9 1 w.heap.size w' v l∧Below w.heap.size w w':=by
 obtain⟨i0,hi0,hz0,hz1,hz2⟩:=info_parts ky_info
 have hl:=h.1
 have hle:l.length≤n:=by omega
 have hge:n≤l.length:=by omega
 clear hl
 go_enter Tryz.func22,Tryz.ntmps22
 go_wp2
 go_loopw [3,4] (fun v i wr=>CopyRel keyCells 9 1 l w v i wr) (fun _ i _=>n-(intOf i).toNat)
 case atStart=>exact⟨0,by omega,rfl,OwnL.nil _,Below.refl _ _⟩
 case round=>
  obtain⟨k,hk,rfl,ho,hb⟩:=hrel
  have hzz:=hb.size
  by_cases hlt:k<n
  · obtain⟨ad,a,rfl,ha,hbk,hok,c0⟩:=(h.below KyRel.kept hb).ky hlt
    have hd1:decide ((k:Int)<(n:Int))=true:=by simp;omega
    have hk0:(0:Int)≤(k:Int):=by omega
    have hk1:(k:Int)<(n:Int):=by omega
    have HS:=Lib.hid (show l.take (k+1)=l.take k++[a] by rw[List.take_add_one,ha];rfl)
    have hln:(l.take k).length≤1000000:=by simp;omega
    clear ha
    obtain⟨A1,q1,rfl,hq1,hq1m⟩:=ho.form
    generalize l.take k=ks at*
    have hX:Below wr.heap.size wr (wr.alloc (.cells (keyCells a).toArray 9)):=(Below.refl _ _).alloc (Nat.le_refl _) _
    have hown0:=ho.below hX
    have hrd0:=reads_new' wr 9 (keyCells a) 1 rfl
    go_wp2_with (first
        |(at_builtin
          refine wpList_append_any _ rfl (.tmp 11) (.tmp 16) _ rfl w.heap.size 9 i0 _ 1 16 Tryz.underlying27 hi0 hz0 hz1 hz2 rfl (by omega) (.slice A1 ks.length q1) _ (ks.flatMap keyCells) (by rfl) hown0 _ (some ⟨wr.heap.size,0,none⟩) 1 1 (keyCells a) (by rfl)
           hrd0 (ky_one a) (by unfold maxLen;omega) (by omega) (by simp;omega) ?_
          intro v3 w3 hown3 hg3 hat3
          obtain⟨A3,q3,rfl,hq3,hq3m⟩:=own_form hown3))
    have hp:=OwnL.push a hown3
    have hbw:=(hb.trans (hX.mono hzz)).grown hg3 (by simp;omega) (fun q hq=>(hown0.lt q hq).1)
    go_roundw
    case rel=>
        refine⟨k+1,by omega,by go_num,?_,hbw⟩
        rw[HS.out]
        exact hp
    case measure=>simp[intOf];omega
  · have hd1:decide ((k:Int)<(n:Int))=false:=by simp;omega
    rw[List.take_of_length_le (by omega)]at ho
    obtain⟨A1,q1,rfl,hq1,hq1m⟩:=ho.form
    go_wp2
    go_ret
    exact⟨_,rfl,ho,hb⟩
theorem copyW_any (A:Option Addr) (n c:Nat) (l:List Wt) (w:World) (h:Sl WtRel 4 w w.heap.size A n l) (hn:n≤1000000):
 Calls Tryz.prog 24 #[.slice A n c] w fun e w'=>∃v,e=.returned v∧OwnL Wt.cells 61 4 w.heap.size w' v l∧Below w.heap.size w w':=by
 obtain⟨i0,hi0,hz0,hz1,hz2⟩:=info_parts wt_info
 have hl:=h.1
 have hle:l.length≤n:=by omega
 have hge:n≤l.length:=by omega
 clear hl
 go_enter Tryz.func24,Tryz.ntmps24
 go_wp2
 go_loopw [3,4] (fun v i wr=>CopyRel Wt.cells 61 4 l w v i wr) (fun _ i _=>n-(intOf i).toNat)
 case atStart=>exact⟨0,by omega,rfl,OwnL.nil _,Below.refl _ _⟩
 case round=>
  obtain⟨k,hk,rfl,ho,hb⟩:=hrel
  have hzz:=hb.size
  by_cases hlt:k<n
  · obtain⟨ad,a,rfl,ha,hbk,hok,c0,c1,c2,c3⟩:=(h.below WtRel.kept hb).wt hlt
    have hd1:decide ((k:Int)<(n:Int))=true:=by simp;omega
    have hk0:(0:Int)≤(k:Int):=by omega
    have hk1:(k:Int)<(n:Int):=by omega
    have HS:=Lib.hid (show l.take (k+1)=l.take k++[a] by rw[List.take_add_one,ha];rfl)
    have hln:(l.take k).length≤1000000:=by simp;omega
    clear ha
    obtain⟨A1,q1,rfl,hq1,hq1m⟩:=ho.form
    generalize l.take k=ks at*
    have hX:Below wr.heap.size wr (wr.alloc (.cells a.cells.toArray 61)):=(Below.refl _ _).alloc (Nat.le_refl _) _
    have hown0:=ho.below hX
    have hrd0:=reads_new' wr 61 a.cells 4 rfl
    go_wp2_with (first
        |(at_builtin
          refine wpList_append_any _ rfl (.tmp 11) (.tmp 16) _ rfl w.heap.size 61 i0 _ 4 48 Tryz.underlying29 hi0 hz0 hz1 hz2 rfl (by omega) (.slice A1 ks.length q1) _ (ks.flatMap Wt.cells) (by rfl) hown0 _ (some ⟨wr.heap.size,0,none⟩) 1 1 a.cells (by rfl)
           hrd0 (wt_one a) (by unfold maxLen;omega) (by omega) (by simp;omega) ?_
          intro v3 w3 hown3 hg3 hat3
          obtain⟨A3,q3,rfl,hq3,hq3m⟩:=own_form hown3))
    have hp:=OwnL.push a hown3
    have hbw:=(hb.trans (hX.mono hzz)).grown hg3 (by simp;omega) (fun q hq=>(hown0.lt q hq).1)
    go_roundw
    case rel=>
        refine⟨k+1,by omega,by go_num,?_,hbw⟩
        rw[HS.out]
        exact hp
    case measure=>simp[intOf];omega
  · have hd1:decide ((k:Int)<(n:Int))=false:=by simp;omega
    rw[List.take_of_length_le (by omega)]at ho
    obtain⟨A1,q1,rfl,hq1,hq1m⟩:=ho.form
    go_wp2
    go_ret
    exact⟨_,rfl,ho,hb⟩
theorem copyP_any (p:Pn) (A1 A2:Option Addr) (n1 n2 c1 c2:Nat) (w:World) (hr:Sl KyRel 1 w w.heap.size A1 n1 p.r) (hw:Sl WtRel 4 w w.heap.size A2 n2 p.w) (hn1:n1≤1000000) (hn2:n2≤1000000):
 Calls Tryz.prog 100 #[p.val (.slice A1 n1 c1) (.slice A2 n2 c2)] w (ClonePost p w):=by
 have hX:Below w.heap.size w ((w.alloc (.cells (p.arr (.slice A1 n1 c1) (.slice A2 n2 c2)) 162)).alloc (.cells zeroPn 162)):=by go_grown
 have i1:Blk ((w.alloc (.cells (p.arr (.slice A1 n1 c1) (.slice A2 n2 c2)) 162)).alloc (.cells zeroPn 162)) w.heap.size 162 (p.arr (.slice A1 n1 c1) (.slice A2 n2 c2)):=(Blk.new _ _ _).alloc _
 have i2:Blk ((w.alloc (.cells (p.arr (.slice A1 n1 c1) (.slice A2 n2 c2)) 162)).alloc (.cells zeroPn 162)) (w.heap.size+1) 162 zeroPn:=Blk.new' _ _ (by simp)
 have hT:=fun w' (hb:Below w.heap.size w w')=>strings_any A1 n1 c1 p.r w' ((hr.below KyRel.kept hb).more KyRel.kept hb.size) hn1
 have hW:=fun w' (hb:Below w.heap.size w w')=>copyW_any A2 n2 c2 p.w w' ((hw.below WtRel.kept hb).more WtRel.kept hb.size) hn2
 go_enter Tryz.func100,Tryz.ntmps100
 go_wp2
 generalize ((w.alloc (.cells (p.arr (.slice A1 n1 c1) (.slice A2 n2 c2)) 162)).alloc (.cells zeroPn 162))=w0 at*
 have l1:=i1.lt
 have l2:=i2.lt
 refine wp_region_held_drew (S:=fun w'=>Blk w' w.heap.size 162 (p.arr (.slice A1 n1 c1) (.slice A2 n2 c2))) (by kernel_rfl) i1.drew (fun hHeld=>?_)
 refine tc 0 3 ?_
 go_frame
 refine wpAnyH_take (i:=1) (oi:=⟨some 4,_,_,_,_,_⟩) rfl (by kernel_rfl) (by kernel_rfl) (by kernel_rfl) (fun _ _ _ h=>h) (yieldsIf_load_mid (by kernel_rfl) _ _ rfl w.heap.size 0 rfl [.int .i64 p.t.c,.int .i64 p.t.l,.int .i64 p.t.s] _ (fun W hSw=>Blk.range hSw 0 _ (three_of rfl rfl rfl)) rfl rfl (by kernel_rfl)) hHeld ?_
 go_frame
 refine tc 2 5 ?_
 go_frame
 refine wpAnyH_take (i:=3) (oi:=⟨some 6,_,_,_,_,_⟩) rfl (by kernel_rfl) (by kernel_rfl) (by kernel_rfl) (fun _ _ _ h=>h) (yieldsIf_load_mid (by kernel_rfl) _ _ rfl w.heap.size 3 rfl [.int .i64 p.s.w,.int .i64 p.s.l,.int .i64 p.s.n] _ (fun W hSw=>Blk.range hSw 3 _ (three_of rfl rfl rfl)) rfl rfl (by kernel_rfl)) hHeld ?_
 go_frame
 refine tc 4 7 ?_
 go_frame
 refine ts 5 8 rfl (v:=.slice A1 n1 c1) (fun W hSw=>by have z:W.cell? ⟨w.heap.size,6,none⟩=some (.slice A1 n1 c1):=Blk.cell hSw 6;clear hSw;go_simp) ?_
 go_frame
 refine tc 7 10 ?_
 go_frame
 refine ts 8 11 rfl (v:=.slice A2 n2 c2) (fun W hSw=>by have z:W.cell? ⟨w.heap.size,7,none⟩=some (.slice A2 n2 c2):=Blk.cell hSw 7;clear hSw;go_simp) ?_
 go_frame
 refine tr 6 rfl fun K hK=>?_
 go_simp
 refine(hT _ hX.drew).mono ?_
 rintro e w3 ⟨v3,rfl,o3,hb3⟩
 have j1:=i1.drew.below hb3 l1
 have j2:=i2.drew.below hb3 l2
 have hY:Below w.heap.size w w3:=hX.drew.trans (hb3.mono hX.size)
 have o3:OwnL _ _ _ (w.heap.size+2) _ _ _:=o3.mono_base (by show w.heap.size+2≤w0.heap.size;omega)
 obtain⟨A3,q3,rfl,hq3,hq3m⟩:=o3.form
 clear hb3 i1 i2 l1 l2 hHeld
 refine hK.out _ _ j1 (fun hHeld=>?_)
 clear hK K
 try go_frame
 refine tr 9 rfl fun K hK=>?_
 go_simp
 refine(hW _ hY).mono ?_
 rintro e w4 ⟨v4,rfl,o4,hb4⟩
 have k1:=j1.below hb4 j1.lt
 have k2:=j2.below hb4 j2.lt
 have hZ:Below w.heap.size w w4:=hY.trans (hb4.mono hY.size)
 have hz3:=j2.lt
 have o4:OwnL _ _ _ (w.heap.size+2) _ _ _:=o4.mono_base (by omega)
 have o3:=o3.below hb4
 obtain⟨A4,q4,rfl,hq4,hq4m⟩:=o4.form
 clear hb4 j1 j2 hHeld
 refine hK.out _ _ k1 (fun hHeld=>?_)
 clear hK K
 try go_frame
 refine tc 10 13 ?_
 go_frame
 refine wpAnyH_store_rowE (i:=11) (by kernel_rfl) rfl rfl _ _ _ rfl (w.heap.size+1) (p.arr (.slice A3 p.r.length q3) (.slice A4 p.w.length q4)) (by kernel_rfl) (by kernel_rfl) _ _ k2 (by kernel_rfl) rfl (by kernel_rfl) (k1.setRow_far _ (by omega)) ?_
 intro w5 hw5
 go_frame
 refine td ?_
 go_wp2
 refine post_cell rfl (by kernel_rfl) (by rw[hw5];exact k2.setRow _) rfl rfl (by kernel_rfl) ?_
 subst hw5
 exact⟨_,_,rfl,(o3.setRow_far (by omega) _).mono_base (by omega),(o4.setRow_far (by omega) _).mono_base (by omega),below_setRow hZ (by omega) _⟩
theorem hs_infoC:(Tryz.prog.info? 158).map (fun i=>(i.zero,i.size,i.bytes))=some (some (.agg #[.string ⟨#[]⟩,.slice none 0 0]),2,40):=by kernel_rfl
def Single {α:Type} (R:Rel α) (E size base:Nat) (w:World) (v:Value) (l:List α):Prop:=Pair R E size base w v (.slice none 0 0) l []
def CopiesRel {α:Type} (R:Rel α) (E size:Nat) (l:List α) (w:World) (v i:Value) (wr:World):Prop:=∃k:Nat,k≤l.length∧i=.int .i64 (k:Int)∧Single R E size w.heap.size wr v (l.take k)∧Below w.heap.size w wr
def CopiesPost {α:Type} (R:Rel α) (E size:Nat) (l:List α) (w:World):Ending→World→Prop:=fun e w'=>∃v,e=.returned v∧Single R E size w.heap.size w' v l∧Below w.heap.size w w'
def CopyV (a:Hs) (W:World) (i:Value) (wr:World):Prop:=∃(k:Nat) (v:Value),k≤a.vs.length∧i=.int .i64 (k:Int)∧Blk wr W.heap.size 158 #[.string a.key,v]∧OwnL Vn.cells 160 6 (W.heap.size+1) wr v (a.vs.take k)∧Below W.heap.size W wr
theorem copyHs_any (A:Option Addr) (n c:Nat) (l:List Hs) (w:World) (h:Sl HsRel 2 w w.heap.size A n l) (hQ:SmallH l):
 Calls Tryz.prog 56 #[.slice A n c] w (CopiesPost HsRel 158 2 l w):=by
 obtain⟨i1,hi1,iz0,iz1,iz2⟩:=info_parts hs_infoC
 obtain⟨i0,hi0,hz0,hz1,hz2⟩:=info_parts vn_info
 have hl:=h.1
 have hge:n≤l.length:=by omega
 have hle:l.length≤n:=by omega
 have hn:n≤1000000:=Nat.le_trans hge hQ.1
 clear hl
 go_enter Tryz.func56,Tryz.ntmps56
 go_wp2
 go_loopw [3,4] (fun v i wr=>CopiesRel HsRel 158 2 l w v i wr) (fun _ i _=>n-(intOf i).toNat)
 case atStart=>exact⟨0,by omega,rfl,Pair.nil _,Below.refl _ _⟩
 case round=>
  obtain⟨k,hk,rfl,hp,hb⟩:=hrel
  have hzz:=hb.size
  have hlen:(l.take k).length≤1000000:=Nat.le_trans (List.length_take_le k l) (by omega)
  obtain⟨Av,qv,rfl,hqv,hqvm⟩:=Pair.form1 hp
  by_cases hlt:k<n
  · obtain⟨ad,a,A1,n1,c1,rfl,ha,hbk,hkz,d0,d1,hn1,hc1,hs1⟩:=((h.below HsRel.kept hb).more HsRel.kept hb.size).hs hlt
    have hd1:decide ((k:Int)<(n:Int))=true:=by simp;omega
    have hk0:(0:Int)≤(k:Int):=by omega
    have hk1:(k:Int)<(n:Int):=by omega
    have hsm:=hQ.2 a (List.mem_of_getElem? ha)
    have hl1:=hs1.1
    have hsm1:n1≤1000000:=by omega
    have hge1:n1≤a.vs.length:=by omega
    have hle1:a.vs.length≤n1:=by omega
    have HS:=Lib.hid (show l.take (k+1)=l.take k++[a] by rw[List.take_add_one,ha];rfl)
    have K1:=Lib.hid (fun k hk=>Sl.all_ok hs1 k hk:∀k∈a.vs,Vn.ok k)
    have HA:=Lib.hid ha
    clear ha hsm hl1
    generalize l.take k=L at*
    have i5:=Blk.new wr 158 #[.string a.key,.slice none 0 0]
    have hX0:Below wr.heap.size wr (wr.alloc (.cells #[.string a.key,.slice none 0 0] 158)):=by go_grown
    go_wp2
    obtain⟨wo,rfl⟩:∃wo,wo=wr:=⟨_,rfl⟩
    clear d0 d1 hs1
    go_loopw [6] (fun i wr=>CopyV a wo i wr) (fun i _=>n1-(intOf i).toNat)
    case atStart=>exact⟨0,_,by omega,rfl,i5,OwnL.nil _,hX0⟩
    case round=>
        clear i5 hX0
        obtain⟨k2,v,hk2,rfl,i5,ho,hb2⟩:=hrel
        have hz2':=hb2.size
        have hw:Below w.heap.size w wr:=hb.trans (hb2.mono hzz)
        have hwz:=hw.size
        obtain⟨ad1,a1,B1,m1,c3,ex,ha1,hbk1,hok1,d0,d1,hm1,hc3,hs1⟩:=((h.below HsRel.kept hw).more HsRel.kept hw.size).hs hlt
        injection ex with ex
        subst ex
        obtain rfl:a=a1:=Option.some.inj (HA.out.symm.trans ha1)
        obtain rfl:n1=m1:=by have:=hs1.1;omega
        clear ha1
        have hlv:(a.vs.take k2).length≤1000000:=Nat.le_trans (List.length_take_le _ _) (by omega)
        have l5:=i5.lt
        obtain⟨Bv,qb,rfl,hqb,hqbm⟩:=ho.form
        have y0:=cl (i5.cell 0)
        have y1:=cl (i5.cell 1)
        by_cases hlt2:k2<n1
        · obtain⟨bd,x,rfl,hx,hxb,hxo,x0,x1,x2,x3,x4,x5⟩:=hs1.vn hlt2
          have hd3:decide ((k2:Int)<(n1:Int))=true:=by simp;omega
          have hk20:(0:Int)≤(k2:Int):=by omega
          have hk21:(k2:Int)<(n1:Int):=by omega
          have HT:=Lib.hid (show a.vs.take (k2+1)=a.vs.take k2++[x] by rw[List.take_add_one,hx];rfl)
          clear hx
          generalize a.vs.take k2=V at*
          have hX:Below wr.heap.size wr (wr.alloc (.cells x.cells.toArray 160)).drew:=((Below.refl _ _).alloc (Nat.le_refl _) _).drew
          have hown0:=ho.below hX
          have hrd0:=(reads_new' wr 160 x.cells 6 rfl).drew
          have l6:wo.heap.size<wr.heap.size+1:=by omega
          go_wp2
          go_region_law (refine step_append_any _ rfl (.tmp 30) (.tmp 39) _ rfl (wo.heap.size+1) 160 i0 _ 6 56 Tryz.underlying156 hi0 hz0 hz1 hz2 rfl (by omega) (.slice Bv V.length qb) _ (V.flatMap Vn.cells) (by simp[Act.eval]) hown0 _ (some ⟨wr.heap.size,0,none⟩) 1 1 x.cells (by simp[Act.eval]) hrd0 (vn_one x) (by unfold maxLen;omega) (by omega) (by simp;omega) ?_;intro v3 w3 hown3 hg3 hat3;have e5:=(i5.alloc (.cells x.cells.toArray 160)).drew.grown hg3 (ho.ne (by omega));have z1:=e5.cell 1;simp only[List.getElem?_toArray,List.getElem?_cons_succ,List.getElem?_cons_zero]at z1;have f1:=e5.frozen 1;obtain⟨A3,q3,rfl,hq3,hq3m⟩:=own_form hown3)
          all_goals
           have hp3:=(OwnL.push x hown3).set_far (p:=⟨wo.heap.size,1,none⟩) (by simp) (.slice A3 (V.length+1) q3)
           have hbw:=((hb2.trans (hX.mono hz2')).grown hg3 (by have:=hX.size;omega) (fun q hq=>by have:=(hown0.lt q hq).1;omega)).setCell (p:=⟨wo.heap.size,1,none⟩) (Nat.le_refl _) (.slice A3 (V.length+1) q3)
           go_wp2
           go_roundw
           case rel=>
            refine⟨k2+1,_,by omega,by go_num,e5.set_ 1 _,?_,hbw⟩
            rw[HT.out]
            exact hp3
           case measure=>simp[intOf];omega
        · have hd3:decide ((k2:Int)<(n1:Int))=false:=by simp;omega
          have ht:a.vs.take k2=a.vs:=List.take_of_length_le (by omega)
          rw[ht]at ho hqb y1 i5
          clear ht hlv
          have hX:Below wr.heap.size wr (wr.alloc (.cells #[.string a.key,.slice Bv a.vs.length qb] 158)):=by go_grown
          have pX:=(Pair.below HsRel.kept HsRel.mono hp hb2).below HsRel.kept HsRel.mono hX
          have hK:∀k,wo.heap.size+1≤k→k<(wr.alloc (.cells #[.string a.key,.slice Bv a.vs.length qb] 158)).heap.size→freeB w.heap.size (wr.alloc (.cells #[.string a.key,.slice Bv a.vs.length qb] 158)).heap.size (.slice Av L.length qv) (.slice none 0 0) k=true:=Pair.fresh hp (by simp;omega) (by omega) (by omega)
          have hin:Inn HsRel (freeB w.heap.size (wr.alloc (.cells #[.string a.key,.slice Bv a.vs.length qb] 158)).heap.size (.slice Av L.length qv) (.slice none 0 0)) (wr.alloc (.cells #[.string a.key,.slice Bv a.vs.length qb] 158)) [.string a.key,.slice Bv a.vs.length qb] a:=
           ⟨_,rfl,hkz,OwnL.inn (by omega) vn_len (ho.below hX) K1.out hK⟩
          have HI:=Lib.hid hin
          obtain⟨xs,hown0,hpush⟩:=Pair.own1 HsRel.kept HsRel.mono pX
          have HP:=Lib.hid hpush
          have hrd0:=reads_new' wr 158 [.string a.key,.slice Bv a.vs.length qb] 2 rfl
          have hone:∀u∈[Value.string a.key,Value.slice Bv a.vs.length qb],u.oneCell'=true:=by
           intro u hu
           simp only[List.mem_cons,List.not_mem_nil,or_false]at hu
           rcases hu with rfl|rfl<;>rfl
          have HO:=Lib.hid hone
          clear hpush hin hK hone hs1
          go_wp2_with (first
           |(at_builtin
             refine wpList_append_any _ rfl (.tmp 42) (.tmp 44) _ rfl w.heap.size 158 i1 _ 2 40 Tryz.underlying36 hi1 iz0 iz1 iz2 rfl (by omega) (.slice Av L.length qv) _ xs (by rfl) hown0 _ (some ⟨wr.heap.size,0,none⟩) 1 1 [.string a.key,.slice Bv a.vs.length qb] (by rfl)
              hrd0 HO.out (by unfold maxLen;omega) (by omega) (by simp;omega) ?_
             intro v3 w3 hown3 hg3 hat3
             obtain⟨A3,q3,rfl,hq3,hq3m⟩:=own_form hown3))
          have hpn:=HP.out _ a w3 _ rfl HI.out hown3 hg3 hat3
          have hbw:=(hw.trans (hX.mono hwz)).grown hg3 (by have:=hX.size;omega) (fun q hq=>(hown0.lt q hq).1)
          go_roundw
          case rel=>
           refine⟨k+1,by omega,by go_num,?_,hbw⟩
           rw[HS.out]
           exact hpn
          case measure=>simp[intOf];omega
  · have hd1:decide ((k:Int)<(n:Int))=false:=by simp;omega
    rw[List.take_of_length_le (by omega)]at hp hqv
    rw[List.take_of_length_le (by omega)]
    go_wp2
    go_ret
    exact⟨_,rfl,hp,hb⟩
end Go.Proofs.YtcalkfgibflbnaaGreat
namespace Go.Proofs.YtcalkfgibflbnaaGreat
set_option linter.unusedVariables false
open Go.RowKit Fl
def put (cs:Array Value) (i:Nat):List Value→Array Value
 |[]=>cs
 |u::us=>put (cs.setIfInBounds i u) (i+1) us
theorem put_size:∀(us:List Value) (cs:Array Value) (i:Nat),(put cs i us).size=cs.size
 |[],cs,i=>rfl
 |u::us,cs,i=>by unfold put;rw[put_size us];exact Array.size_setIfInBounds
theorem put_app:∀(a b:List Value) (cs:Array Value) (i:Nat),put cs i (a++b)=put (put cs i a) (i+a.length) b
 |[],b,cs,i=>rfl
 |u::us,b,cs,i=>by
  show put _ _ (us++b)=put (put _ _ us) _ b
  rw[put_app us b]
  congr 1
  rw[List.length_cons];omega
theorem put_out:∀(us:List Value) (cs:Array Value) (i j:Nat),(j<i∨i+us.length≤j)→(put cs i us)[j]?=cs[j]?
 |[],cs,i,j,h=>rfl
 |u::us,cs,i,j,h=>by
  rw[List.length_cons]at h
  show (put _ _ us)[j]?=_
  rw[put_out us _ _ _ (by omega),Array.getElem?_setIfInBounds_ne (by omega)]
theorem put_in:∀(us:List Value) (cs:Array Value) (i j:Nat) (u:Value),us[j]?=some u→i+us.length≤cs.size→(put cs i us)[i+j]?=some u
 |[],cs,i,j,u,h,_=>by cases h
 |a::us,cs,i,j,u,h,hs=>by
  rw[List.length_cons]at hs
  show (put _ _ us)[i+j]?=_
  cases j with
  |zero=>
   rw[put_out us _ _ _ (by omega)]
   simp only[List.getElem?_cons_zero,Option.some.injEq]at h
   rw[Nat.add_zero,Array.getElem?_setIfInBounds_self_of_lt (by omega),h]
  |succ j=>
   have e:i+(j+1)=i+1+j:=by omega
   rw[e]
   exact put_in us _ _ _ _ (by simpa using h) (by rw[Array.size_setIfInBounds];omega)
theorem put_take (us:List Value) (cs:Array Value) (i:Nat) (h:i+us.length≤cs.size):(put cs i us).toList.take (i+us.length)=cs.toList.take i++us:=by
 apply List.ext_getElem?
 intro j
 by_cases h1:j<i
 · rw[List.getElem?_take_of_lt (by omega),List.getElem?_append_left (by simp;omega),List.getElem?_take_of_lt h1,Array.getElem?_toList,Array.getElem?_toList,put_out us cs i j (.inl h1)]
 · by_cases h2:j<i+us.length
   · have hl:(cs.toList.take i).length=i:=by simp;omega
     have hu:us[j-i]?=some us[j-i]:=List.getElem?_eq_getElem (by omega)
     rw[List.getElem?_take_of_lt h2,List.getElem?_append_right (by omega),hl,hu,Array.getElem?_toList]
     have:=put_in us cs i (j-i) _ hu h
     rwa [show i+(j-i)=j by omega]at this
   · rw[List.getElem?_eq_none (by rw[List.length_take];omega),List.getElem?_eq_none (by simp;omega)]
theorem Blk.puts {t:TypeId} {b:Nat}:∀(us:List Value) (w:World) (cs:Array Value) (i:Nat),Blk w b t cs→Blk (w.setCells b i us) b t (put cs i us)
 |[],w,cs,i,h=>h
 |u::us,w,cs,i,h=>Blk.puts us _ _ _ (h.set_ i u)
theorem grown_puts (b:Nat):∀(us:List Value) (w:World) (i:Nat),w.grownBy (w.setCells b i us) (some b)
 |[],w,i=>World.grownBy.refl _ _
 |u::us,w,i=>(grown_set _ _ _ _).trans (grown_puts b us _ _)
theorem below_grown {w w':World} (h:Below w.heap.size w w') (r:Option Nat):w.grownBy w' r:=⟨h.os,h.tape,h.output,h.size,fun k hk _=>h.block k hk⟩
structure Dst (w:World) (A:Option Addr) (n g gc b:Nat) (t:TypeId) (cs:Array Value) (i:Nat) (z:List Value):Prop where
 blk:Blk w b t cs
 has:∀j u,z[j]?=some u→cs[i+j]?=some u
 ng:b≠g
 nc:b≠gc
 ap:∀a,A=some a→0<n→a.block≠b
section
variable {w w1 w2:World} {A:Option Addr} {n c g gc b i:Nat} {t:TypeId} {cs:Array Value} {x y z vs:List Value} {l:List UInt8} {s s':RS}
theorem Dst.fst (h:Dst w A n g gc b t cs i (x++y)):Dst w A n g gc b t cs i x:=
 ⟨h.blk,fun j u hj=>h.has j u (by rw[List.getElem?_append_left (List.getElem?_eq_some_iff.1 hj).1];exact hj),h.ng,h.nc,h.ap⟩
theorem Dst.snd (h:Dst w A n g gc b t cs i (x++y)) (hk:Blk w1 b t (put cs i vs)) (hl:vs.length=x.length):Dst w1 A n g gc b t (put cs i vs) (i+x.length) y:=
 ⟨hk,fun j u hj=>by
  rw[put_out _ _ _ _ (.inr (by omega)),Nat.add_assoc]
  exact h.has _ u (by rw[List.getElem?_append_right (by omega),Nat.add_sub_cancel_left];exact hj),h.ng,h.nc,h.ap⟩
theorem Dst.nxt {m:Nat} (h:Dst w A n g gc b t cs i (x++y)) (hk:Blk w1 b t (put cs i vs)) (hl:vs.length=m) (hx:x.length=m) (j:Nat) (hj:j=i+m):Dst w1 A n g gc b t (put cs i vs) j y:=by
 subst hj hx
 exact h.snd hk hl
theorem Dst.at0 (h:Dst w A n g gc b t cs i z) {u:Value} (hz:z[0]?=some u):w.cell? ⟨b,i,none⟩=some u:=(h.blk.cell i).trans (h.has 0 u hz)
theorem Two2.refl (w:World) (g b:Nat):Two2 w w g b:=⟨rfl,rfl,rfl,Nat.le_refl _,fun _ _ _ _=>rfl⟩
theorem Two2.left (h:w.grownBy w1 (some g)) (b:Nat):Two2 w w1 g b:=⟨h.os,h.tape,h.output,h.size,fun k hk h4 _=>h.block k hk (by intro e;exact h4 (by injection e))⟩
theorem Two2.right (h:w.grownBy w1 (some b)) (g:Nat):Two2 w w1 g b:=⟨h.os,h.tape,h.output,h.size,fun k hk _ h5=>h.block k hk (by intro e;exact h5 (by injection e))⟩
theorem CR.read (h:CR w g A n c l s gc) (hr:Rd 153 w1 g A n c l s') (hg:w.grownBy w1 (some g)):CR w1 g A n c l s' gc:=
 ⟨hr,h.blk.grown hg (by intro e;exact h.ne (by injection e)),h.ne,h.ad⟩
theorem CR.laid (h:CR w g A n c l s gc) (hg:w.grownBy w1 (some b)) (h1:b≠g) (h2:b≠gc) (h3:∀a,A=some a→0<n→a.block≠b):CR w1 g A n c l s gc:=
 ⟨h.rd.far hg (fun e=>h1 e.symm) h3,h.blk.grown hg (by intro e;exact h2 (by injection e with e;exact e.symm)),h.ne,h.ad⟩
end
abbrev stopP:Ending:=.panicked [{v:=.iface 93 (.agg #[]),recovered:=false}]
def RPost {α:Type} (R:Rel α) (size:Nat) (w:World) (g:Nat) (A:Option Addr) (n c:Nat) (l:List UInt8) (gc b:Nat) (t:TypeId) (cs:Array Value) (i:Nat) (x:α×RS):Ending→World→Prop:=fun e w'=>
 CR w' g A n c l x.2 gc∧Two2 w w' g b∧((x.2.e=0∧e=.returned (.tuple #[])∧∃vs,vs.length=size∧Blk w' b t (put cs i vs)∧Inn R (rng w.heap.size w'.heap.size) w' vs x.1)∨
    (x.2.e≠0∧e=stopP∧∃cs',cs'.size=cs.size∧Blk w' b t cs'))
def ElemR {α:Type} (F:Nat) (R:Rel α) (size:Nat) (z:List Value) (f:Rdf α):Prop:=
 ∀(w:World) (g:Nat) (A:Option Addr) (n c:Nat) (l:List UInt8) (s:RS) (gc b:Nat) (t:TypeId) (cs:Array Value) (i:Nat),CR w g A n c l s gc→s.e=0→Dst w A n g gc b t cs i z→
  Calls Tryz.prog F #[.pointer (some ⟨gc,0,none⟩),.pointer (some ⟨b,i,none⟩)] w (RPost R size w g A n c l gc b t cs i (f l s))
theorem RPost.bad {α:Type} {R:Rel α} {size:Nat} {w w1:World} {g:Nat} {A:Option Addr} {n c:Nat} {l:List UInt8} {gc b:Nat} {t:TypeId} {cs cs':Array Value} {i:Nat} {x:α×RS} {s':RS} (hs:x.2=s') (he:s'.e≠0) (h:CR w1 g A n c l s' gc) (ht:Two2 w w1 g b) (hl:cs'.size=cs.size) (hb:Blk w1 b t cs'):
 RPost R size w g A n c l gc b t cs i x stopP w1:=⟨by rw[hs];exact h,ht,.inr ⟨by rw[hs];exact he,rfl,cs',hl,hb⟩⟩
def LsRel {α:Type} (R:Rel α) (size:Nat):Rel (List α):=fun w B cs l=>∃v,cs=[v]∧HdRel R size w B v l
theorem LsRel.kept {α:Type} {R:Rel α} {size:Nat} (hR:R.Kept):(LsRel R size).Kept:=
 ⟨fun _ _ _ _ _ ⟨v,e,h⟩ hw=>⟨v,e,h.keep hR hw⟩,fun _ _ _ _ _ ⟨v,e,h⟩ hB=>⟨v,e,h.more hR hB⟩⟩
theorem LsRel.mono {α:Type} {R:Rel α} {size:Nat} (hR:R.Mono):(LsRel R size).Mono:=fun _ _ _ _ _ ⟨v,e,h⟩ hw=>⟨v,e,h.mono hR hw⟩
def ListR {α:Type} (F cl:Nat) (R:Rel α) (size:Nat) (f:Rdf α):Prop:=
 ∀(w:World) (g:Nat) (A:Option Addr) (n c:Nat) (l:List UInt8) (s:RS) (gc b:Nat) (t:TypeId) (cs:Array Value) (i:Nat),CR w g A n c l s gc→s.e=0→Dst w A n g gc b t cs i [.slice none 0 0]→
  Calls Tryz.prog F #[.pointer (some ⟨gc,0,none⟩),.pointer (some ⟨b,i,none⟩),.func (.func cl) #[.pointer (some ⟨gc,0,none⟩)] #[]] w (RPost (LsRel R size) 1 w g A n c l gc b t cs i (rLs f l s))
theorem Inn.on {α:Type} {R:Rel α} {w w1 w2:World} {g b:Nat} {vs:List Value} {a:α} (hR:R.Kept) (hm:R.Mono) (h:Inn R (rng w.heap.size w1.heap.size) w1 vs a) (ht:Two2 w1 w2 g b) (hg:g<w.heap.size) (hb:b<w.heap.size) {lo hi:Nat} (h1:lo≤w.heap.size) (h2:w1.heap.size≤hi):
 Inn R (rng lo hi) w2 vs a:=
 (h.keep hR (fun k hk=>by rw[rng_iff]at hk;exact ht.block k hk.2 (by omega) (by omega)) ht.size).wider hm fun k hk=>by rw[rng_iff]at*;omega
theorem own_last {w:World} {base E size k:Nat} {v:Value} {xs zs:List Value} (h:w.ownsRow base E size v (k+1) (xs++zs)) (hz:zs.length=size):∃(rb cap:Nat) (cur:Array Value),v=.slice (some ⟨rb,0,none⟩) (k+1) cap∧base≤rb∧Blk w rb E cur∧
 (∀j u,zs[j]?=some u→cur[k*size+j]?=some u)∧∀(w':World) (vs:List Value),vs.length=size→Blk w' rb E (put cur (k*size) vs)→w'.ownsRow base E size v (k+1) (xs++vs):=by
 obtain⟨hl,h|⟨rb,cap,cur,rfl,hb,hg,h1,h2,h3,h4⟩⟩:=h
 · omega
 · have hx:xs.length=k*size:=by rw[List.length_append,Nat.succ_mul]at hl;omega
   have hc:(k+1)*size≤cur.size:=by rw[h3];exact Nat.mul_le_mul_right _ h1
   rw[Nat.succ_mul]at hc
   refine⟨rb,cap,cur,rfl,hb,hg,fun j u hj=>?_,fun w' vs hv hk=>?_⟩
   · have hj':=(List.getElem?_eq_some_iff.1 hj).1
     have e:(cur.toList.take ((k+1)*size))[k*size+j]?=some u:=by rw[h4,List.getElem?_append_right (by omega),hx,Nat.add_sub_cancel_left];exact hj
     rw[List.getElem?_take_of_lt (by rw[Nat.succ_mul];omega),Array.getElem?_toList]at e
     exact e
   · subst hv
     refine⟨by rw[List.length_append,Nat.succ_mul];omega,.inr ⟨rb,cap,_,rfl,hb,hk,h1,h2,by rw[put_size];exact h3,?_⟩⟩
     rw[Nat.succ_mul,put_take vs cur _ (by omega)]
     congr 1
     have:=congrArg (List.take (k*vs.length)) h4
     rw[List.take_take,Nat.min_eq_left (by rw[Nat.succ_mul];omega),List.take_left' hx]at this
     exact this
theorem Single.push {α:Type} {R:Rel α} {E size base:Nat} {w:World} {v:Value} {l:List α} (hR:R.Kept) (hm:R.Mono) (h:Single R E size base w v l):∃xs,w.ownsRow base E size v l.length xs∧
 ∀(cs:List Value) (a:α) (w1 w2:World) (v':Value) (b:Nat),cs.length=size→w2.ownsRow base E size v' (l.length+1) (xs++cs)→w.grownBy w1 v.ownBlock→(v'.ownBlock=v.ownBlock∨v'.ownBlock=some w.heap.size)→v'.ownBlock=some b→b<w1.heap.size→
  (∀k,base≤k→k<w1.heap.size→k≠b→w2.heap[k]?=w1.heap[k]?)→w1.heap.size≤w2.heap.size→∀{lo:Nat},w1.heap.size≤lo→Inn R (rng lo w2.heap.size) w2 cs a→base≤w1.heap.size→Single R E size base w2 v' (l++[a]):=by
 obtain⟨⟨css,ho,hlen,hl,hc⟩,-,hd⟩:=h
 refine⟨css.flatten,ho,fun cs a w1 w2 v' b hcs hown hg hat hvb hbl ht hsz2 lo hlo hin hbase=>?_⟩
 have hsz:=hg.size
 have hnil:∀k:Nat,(Value.slice none 0 0).ownBlock≠some k:=fun k e=>by simp[Value.ownBlock]at e
 have hK:∀k,freeB base w.heap.size v (.slice none 0 0) k=true→freeB base w2.heap.size v' (.slice none 0 0) k=true∧w2.heap[k]?=w.heap[k]?:=fun k hk=>by
  rw[freeB_iff]at*
  have hkb:k≠b:=by
   rintro rfl
   rcases hat with e2|e2
   · rw[hvb]at e2;exact hk.2.2.1 e2.symm
   · rw[hvb]at e2;injection e2 with e2;omega
  refine⟨⟨hk.1,by omega,?_,hnil k⟩,(ht k hk.1 (by omega) hkb).trans (hg.block k hk.2.1 (fun e=>hk.2.2.1 e.symm))⟩
  rw[hvb]
  intro e;injection e with e;exact hkb e.symm
 refine⟨⟨css++[cs],?_,by simp[hlen],?_,?_⟩,RowR.nil _,fun k _=>hnil k⟩
 · rw[List.length_append,List.flatten_append]
   simpa using hown
 · intro c hc'
   rcases List.mem_append.1 hc' with h1|h1
   · exact hl c h1
   · simp only[List.mem_cons,List.not_mem_nil,or_false]at h1
     rw[h1];exact hcs
 · intro i c d h1 h2
   by_cases hi:i<l.length
   · rw[List.getElem?_append_left (by omega)]at h1 h2
     exact((hc i c d h1 h2).keep hR (fun k hk=>(hK k hk).2) (by omega)).wider hm fun k hk=>(hK k hk).1
   · have hi2:i=l.length:=by
        have:=(List.getElem?_eq_some_iff.1 h2).1
        rw[List.length_append,List.length_cons,List.length_nil]at this
        omega
     subst hi2
     rw[List.getElem?_append_right (Nat.le_refl _)]at h2
     rw[←hlen,List.getElem?_append_right (Nat.le_refl _)]at h1
     simp only[Nat.sub_self,List.getElem?_cons_zero,Option.some.injEq]at h1 h2
     subst h1 h2
     refine hin.wider hm fun k hk=>?_
     rw[rng_iff]at hk
     rw[freeB_iff,hvb]
     exact⟨by omega,hk.2,fun e=>by injection e;omega,hnil k⟩
theorem Single.nil {α:Type} {R:Rel α} {E size base:Nat} (w:World):Single R E size base w (.slice none 0 0) []:=Pair.nil _
theorem Single.form {α:Type} {R:Rel α} {E size base:Nat} {w:World} {v:Value} {l:List α} (h:Single R E size base w v l):∃A c,v=.slice A l.length c∧l.length≤c∧c≤maxLen:=Pair.form1 h
theorem Single.inn {α:Type} {R:Rel α} {E size base:Nat} {w:World} {v:Value} {l:List α} (hm:R.Mono) (hsz:0<size) (h:Single R E size base w v l):Inn (LsRel R size) (rng base w.heap.size) w [v] l:=⟨v,rfl,(Pair.held hm hsz h).1⟩
theorem nmR_info:(Tryz.prog.info? 3).map (fun i=>(i.zero,i.size,i.bytes))=some (some (.int .i64 0),1,8):=by kernel_rfl
theorem prR_info:(Tryz.prog.info? 105).map (fun i=>(i.zero,i.size,i.bytes))=some (some (.agg #[.string ⟨#[]⟩,.int .i64 0,.float .f64 0,.string ⟨#[]⟩]),4,48):=by kernel_rfl
theorem leV_bound {l:List UInt8} (h:l.length≤8):leV l<18446744073709551616:=Nat.lt_of_lt_of_le (leV_lt l) (Nat.le_trans (Nat.pow_le_pow_right (by omega) h) (by decide))
theorem rInt_ok (l:List UInt8) (s:RS):i64ok (rInt l s).1:=by
 have h0:i64ok 0:=by unfold i64ok;omega
 unfold rInt
 split
 · exact h0
 · split
   · exact h0
   · exact h0
   · rename_i n next hd
     exact⟨(dec_ok hd).2.2.2.2.1,(dec_ok hd).2.2.2.2.2⟩
theorem rFloat_ok (l:List UInt8) (s:RS):(rFloat l s).1<18446744073709551616:=by
 unfold rFloat
 split
 · omega
 · split
   · omega
   · simp only
     split
     · omega
     · exact leV_bound (by rw[List.length_take];omega)
theorem rCount_ok (l:List UInt8) (s:RS) (m e:Int):i64ok (rCount l s m e).1∧0≤(rCount l s m e).1∧(0≤m→(rCount l s m e).1≤m):=by
 have h0:i64ok 0∧(0:Int)≤0∧(0≤m→0≤m):=⟨by unfold i64ok;omega,by omega,id⟩
 unfold rCount
 split
 · exact h0
 · split
   · exact h0
   · exact h0
   · rename_i n next hd
     split
     · exact h0
     · split
       · exact h0
       · exact⟨⟨(dec_ok hd).2.2.2.2.1,(dec_ok hd).2.2.2.2.2⟩,by simp only;omega,fun _=>by simp only;omega⟩
theorem rText_le (l:List UInt8) (s:RS) (m:Int):(rText l s m).1.length≤l.length:=by
 have h0:([]:List UInt8).length≤l.length:=Nat.zero_le _
 unfold rText
 split
 · exact h0
 · split
   · exact h0
   · exact h0
   · split
     · exact h0
     · split
       · exact h0
       · split
         · exact h0
         · simp only[List.length_take,List.length_drop];omega
theorem rKy_ok (l:List UInt8) (s:RS) (m:Int) (h:l.length≤1000000000000):(rKy m l s).1.size≤140737488351232:=by
 have:=rText_le l s m
 show (rText l s m).1.toArray.size≤_
 rw[List.size_toArray];omega
theorem rVl_ok (l:List UInt8) (s:RS) (h:l.length≤1000000000000):(rVl l s).1.ok:=by
 have h0:(⟨0,0,⟨#[]⟩⟩:Vl).ok:=⟨(by unfold i64ok;omega:i64ok 0),by show 0<_;omega,Nat.zero_le _⟩
 have i1:i64ok 1:=by unfold i64ok;omega
 have i2:i64ok 2:=by unfold i64ok;omega
 unfold rVl
 split
 · exact h0
 · unfold rVl0
   split
   · exact⟨i1,rFloat_ok _ _,Nat.zero_le _⟩
   · split
     · exact⟨i2,by show 0<_;omega,rKy_ok _ _ _ h⟩
     · exact⟨(rCount_ok _ _ _ _).1,by show 0<_;omega,Nat.zero_le _⟩
abbrev Stp (S:Type):=S→Rdf S
def rSet {S α:Type} (r:Rdf α) (u:α→S→S):Stp S:=fun x l s=>(u (r l s).1 x,(r l s).2)
def rSeq {S D:Type} (rd:D→Stp S):List D→Stp S
 |[],x,_,s=>(x,s)
 |d::ds,x,l,s=>rSeq rd ds (rd d x l s).1 l (rd d x l s).2
def StkS {S D:Type} (rd:D→Stp S):Prop:=∀d x,Stk (rd d x)
theorem rSet_stk {S α:Type} {r:Rdf α} {u:α→S→S} (h:Stk r) (x:S):Stk (rSet r u x):=fun l s he=>h l s he
theorem rSeq_stk {S D:Type} {rd:D→Stp S} (h:StkS rd):∀ds,∀x,Stk (rSeq rd ds x)
 |[],x,l,s,he=>rfl
 |d::ds,x,l,s,he=>by
  show (rSeq rd ds _ l (rd d x l s).2).2=s
  rw[h d x l s he]
  exact rSeq_stk h ds _ l s he
structure Bx (S H:Type) where
 T:TypeId
 N:Nat
 vals:S→H→Array Value
 lo:World→Nat→S→H→Prop
structure Bx.Good {S H:Type} (K:Bx S H):Prop where
 n:∀x h,(K.vals x h).size=K.N
 kept:∀w w' B B' x h,K.lo w B x h→(∀p:Addr,p.block<B→w'.cell? p=w.cell? p)→B≤B'→K.lo w' B' x h
 mono:∀w w' B x h,K.lo w B x h→(∀p u,p.block<B→w.cell? p=some u→w'.cell? p=some u)→K.lo w' B x h
theorem Bx.Good.on {S H:Type} {K:Bx S H} (G:K.Good) {w w':World} {B lo:Nat} {x:S} {h:H} (i:K.lo (only (rng B w.heap.size) w) w.heap.size x h) (hb:∀k,B≤k→k<w.heap.size→w'.heap[k]?=w.heap[k]?) (hs:w.heap.size≤w'.heap.size) (hl:lo≤B):
 K.lo (only (rng lo w'.heap.size) w') w'.heap.size x h:=
 G.mono _ _ _ _ _ (G.kept _ (only (rng B w.heap.size) w') _ w'.heap.size _ _ i (fun p _=>only_same (fun k hk=>by rw[rng_iff]at hk;exact hb k hk.1 hk.2) p) hs) fun p u _ hc=>by
  obtain⟨hk,hw⟩:=only_cell hc
  rw[rng_iff]at hk
  rw[only_cell_in (rng_iff.2 ⟨by omega,by omega⟩)]
  exact hw
def Fld {S H α:Type} (K:Bx S H) (R:Rel α) (size off:Nat) (u:α→S→S) (hu:List Value→H→H):Prop:=
 ∀w B x h vs a,K.lo w B x h→R w B vs a→vs.length=size→put (K.vals x h) off vs=K.vals (u a x) (hu vs h)∧K.lo w B (u a x) (hu vs h)
structure RM {S H:Type} (K:Bx S H) (w0 w:World) (g:Nat) (A:Option Addr) (n c:Nat) (l:List UInt8) (gc b:Nat) (x:S) (h:H) (s:RS):Prop where
 cr:CR w g A n c l s gc
 e:s.e=0
 two:Two2 w0 w g b
 blk:Blk w b K.T (K.vals x h)
 lo:K.lo (only (rng w0.heap.size w.heap.size) w) w.heap.size x h
 ng:b≠g
 nc:b≠gc
 ap:∀a,A=some a→0<n→a.block≠b
 gl:g<w0.heap.size
 bl:b<w0.heap.size
def RBad {S:Type} (T:TypeId) (N:Nat) (w0:World) (g b:Nat) (Y:S×RS) (w:World):Prop:=Y.2.e≠0∧Two2 w0 w g b∧∃cs:Array Value,cs.size=N∧Blk w b T cs
def RPostM {α:Type} (R:Rel α) (size:Nat) (w:World) (g:Nat) (A:Option Addr) (n c:Nat) (l:List UInt8) (gc b:Nat) (t:TypeId) (cs:Array Value) (i:Nat) (x:α×RS):Ending→World→Prop:=fun e w'=>
 (CR w' g A n c l x.2 gc∧Two2 w w' g b∧x.2.e=0∧e=.returned (.tuple #[])∧∃vs,vs.length=size∧Blk w' b t (put cs i vs)∧Inn R (rng w.heap.size w'.heap.size) w' vs x.1)∨
    (x.2.e≠0∧e=stopP∧Two2 w w' g b∧∃cs':Array Value,cs'.size=cs.size∧Blk w' b t cs')
theorem RPost.m {α:Type} {R:Rel α} {size:Nat} {w:World} {g:Nat} {A:Option Addr} {n c:Nat} {l:List UInt8} {gc b:Nat} {t:TypeId} {cs:Array Value} {i:Nat} {x:α×RS} {e:Ending} {w':World} (h:RPost R size w g A n c l gc b t cs i x e w'):
 RPostM R size w g A n c l gc b t cs i x e w':=by
 obtain⟨h1,h2,⟨h3,h4,h5⟩|⟨h3,h4,h5⟩⟩:=h
 · exact .inl ⟨h1,h2,h3,h4,h5⟩
 · exact .inr ⟨h3,h4,h2,h5⟩
def RNext {S H D:Type} (rd:D→Stp S) (K:Bx S H) (w0:World) (g:Nat) (A:Option Addr) (n c:Nat) (l:List UInt8) (gc b:Nat) (ds:List D) (Y:S×RS) {α:Type} (a0:α) (k:α→List Value→S×H):Ending→World→Prop:=fun e w=>
 (∃a vs s,a=a0∧e=.returned (.tuple #[])∧RM K w0 w g A n c l gc b (k a vs).1 (k a vs).2 s∧rSeq rd ds (k a vs).1 l s=Y)∨(e=stopP∧RBad K.T K.N w0 g b Y w)
def REnd {S H:Type} (K:Bx S H) (w0:World) (g:Nat) (A:Option Addr) (n c:Nat) (l:List UInt8) (gc b:Nat) (Y:S×RS):Ending→World→Prop:=fun e w=>
 (e=.returned (.tuple #[])∧∃h,RM K w0 w g A n c l gc b Y.1 h Y.2)∨(e=stopP∧RBad K.T K.N w0 g b Y w)
theorem hasOf {cs:Array Value} {j:Nat} {y:List Value} (hy:(cs.toList.drop j).take y.length=y) (q:Nat) (u:Value) (hq:y[q]?=some u):cs[j+q]?=some u:=by
 rw[←hy,List.getElem?_take]at hq
 split at hq
 · rw[List.getElem?_drop,Array.getElem?_toList]at hq
   exact hq
 · cases hq
section
variable {S H D:Type} {rd:D→Stp S} {K:Bx S H} {w0 w w':World} {g:Nat} {A:Option Addr} {n c:Nat} {l:List UInt8} {gc b:Nat} {x:S} {h:H} {s:RS} {Y:S×RS} {d:D} {ds:List D}
theorem RM.below (G:K.Good) (X:RM K w0 w g A n c l gc b x h s) (hb:Below w.heap.size w w'):RM K w0 w' g A n c l gc b x h s:=
 ⟨X.cr.below hb,X.e,X.two.trans (Two2.ofBelow g b hb),X.blk.below hb X.blk.lt,G.on X.lo (fun k _ hk=>hb.block k hk) hb.size (Nat.le_refl _),X.ng,X.nc,X.ap,X.gl,X.bl⟩
theorem RM.drew (G:K.Good) (X:RM K w0 w g A n c l gc b x h s):RM K w0 w.drew g A n c l gc b x h s:=X.below G (Below.refl _ _).drew
theorem RM.cell (X:RM K w0 w g A n c l gc b x h s) (i:Nat) {v:Value} (e:(K.vals x h)[i]?=some v):w.cell? ⟨b,i,none⟩=some v:=(X.blk.cell i).trans e
theorem RM.keep (X:RM K w0 w g A n c l gc b x h s) {k:Nat} {t:TypeId} {cs:Array Value} (hk:Blk w0 k t cs) (h1:k≠g) (h2:k≠b):Blk w k t cs:=(X.two.block k hk.lt h1 h2).trans hk
theorem RM.dst (X:RM K w0 w g A n c l gc b x h s) (off:Nat) (z:List Value) (hz:((K.vals x h).toList.drop off).take z.length=z):Dst w A n g gc b K.T (K.vals x h) off z:=
 ⟨X.blk,fun j u hj=>hasOf hz j u hj,X.ng,X.nc,X.ap⟩
theorem RM.el {α:Type} {F:Nat} {vs:Array Value} {R:Rel α} {size off:Nat} {r:Rdf α} {u:α→S→S} {hu:List Value→H→H} (G:K.Good) (hs:StkS rd) (X:RM K w0 w g A n c l gc b x h s) (hY:rSeq rd (d::ds) x l s=Y) (hd:rd d=rSet r u)
 (hF:Fld K R size off u hu) (hm:R.Mono) (hC:Calls Tryz.prog F vs w (RPostM R size w g A n c l gc b K.T (K.vals x h) off (r l s))):
 Calls Tryz.prog F vs w (RNext rd K w0 g A n c l gc b ds Y (r l s).1 fun a vs=>(u a x,hu vs h)):=by
 have hY2:rSeq rd ds (u (r l s).1 x) l (r l s).2=Y:=by
  rw[←hY]
  show _=rSeq rd ds (rd d x l s).1 l (rd d x l s).2
  rw[hd];rfl
 refine hC.mono ?_
 rintro e w1 (⟨hc,ht,he,rfl,vs',hl,hk,hi⟩|⟨he,rfl,ht,cs',hz,hk⟩)
 · have hg:=X.gl
   have hb:=X.bl
   have hz:=X.two.size
   have hlo:=G.on X.lo (fun k h1 h2=>ht.block k h2 (by omega) (by omega)) ht.size (Nat.le_refl _)
   have hi2:=Inn.wider hm hi (K':=rng w0.heap.size w1.heap.size) fun k hk=>by rw[rng_iff]at*;omega
   obtain⟨p1,p2⟩:=hF _ _ x h vs' _ hlo hi2 hl
   exact .inl ⟨(r l s).1,vs',(r l s).2,rfl,rfl,⟨hc,he,X.two.trans ht,by rw[←p1];exact hk,p2,X.ng,X.nc,X.ap,hg,hb⟩,hY2⟩
 · refine .inr ⟨rfl,?_,X.two.trans ht,cs',hz.trans (G.n _ _),hk⟩
   rw[←hY2,rSeq_stk hs ds _ l _ he]
   exact he
theorem RM.e_ {α:Type} {F:Nat} {R:Rel α} {size off:Nat} {z:List Value} {r:Rdf α} {u:α→S→S} {hu:List Value→H→H} (G:K.Good) (hs:StkS rd) (X:RM K w0 w g A n c l gc b x h s) (hY:rSeq rd (d::ds) x l s=Y) (hE:ElemR F R size z r)
 (hF:Fld K R size off u hu) (hm:R.Mono) (hd:rd d=rSet r u) (hz:((K.vals x h).toList.drop off).take z.length=z):
 Calls Tryz.prog F #[.pointer (some ⟨gc,0,none⟩),.pointer (some ⟨b,off,none⟩)] w (RNext rd K w0 g A n c l gc b ds Y (r l s).1 fun a vs=>(u a x,hu vs h)):=
 X.el G hs hY hd hF hm ((hE w g A n c l s gc b K.T _ off X.cr X.e (X.dst off z hz)).mono fun _ _ h=>h.m)
theorem RM.l_ {α:Type} {F cl:Nat} {R:Rel α} {size off:Nat} {f:Rdf α} {u:List α→S→S} {hu:List Value→H→H} (G:K.Good) (hs:StkS rd) (X:RM K w0 w g A n c l gc b x h s) (hY:rSeq rd (d::ds) x l s=Y) (hE:ListR F cl R size f)
 (hF:Fld K (LsRel R size) 1 off u hu) (hm:R.Mono) (hd:rd d=rSet (rLs f) u) (hz:((K.vals x h).toList.drop off).take 1=[.slice none 0 0]):
 Calls Tryz.prog F #[.pointer (some ⟨gc,0,none⟩),.pointer (some ⟨b,off,none⟩),.func (.func cl) #[.pointer (some ⟨gc,0,none⟩)] #[]] w (RNext rd K w0 g A n c l gc b ds Y (rLs f l s).1 fun a vs=>(u a x,hu vs h)):=
 X.el G hs hY hd hF (LsRel.mono hm) ((hE w g A n c l s gc b K.T _ off X.cr X.e (X.dst off _ hz)).mono fun _ _ h=>h.m)
theorem RM.done (X:RM K w0 w g A n c l gc b x h s) (hY:rSeq rd [] x l s=Y):REnd K w0 g A n c l gc b Y (.returned (.tuple #[])) w:=.inl ⟨rfl,h,by subst hY;exact X⟩
theorem RM.start (G:K.Good) (hc:CR w g A n c l s gc) (hs:s.e=0) (hb:Blk w b K.T (K.vals x h)) (lo:∀w B,K.lo w B x h) (ng:b≠g) (nc:b≠gc) (ap:∀a,A=some a→0<n→a.block≠b):RM K w w g A n c l gc b x h s:=
 ⟨hc,hs,Two2.refl _ _ _,hb,lo _ _,ng,nc,ap,hc.rd.blk.lt,hb.lt⟩
end
def hdAt (vs:List Value) (i:Nat):Hd:=match vs[i]? with
 |some (.slice A n c)=>⟨A,n,c⟩
 |_=>Hd.nil
section
variable {S D:Type} {rd:D→Stp S} {en:D→S→List UInt8} {ap:D→D→Bool}
def EncS (rd:D→Stp S) (en:D→S→List UInt8):Prop:=∀d x l s,s.at_≤l.length→(rd d x l s).2.e=0→(rd d x l s).2.at_≤l.length∧l.take (rd d x l s).2.at_=l.take s.at_++en d (rd d x l s).1
def ApS (rd:D→Stp S) (en:D→S→List UInt8) (ap:D→D→Bool):Prop:=∀d d',ap d d'=true→∀x l s,en d (rd d' x l s).1=en d x
theorem rSeq_keep (hA:ApS rd en ap) {d:D}:∀ds x l s,(∀d'∈ds,ap d d'=true)→en d (rSeq rd ds x l s).1=en d x
 |[],x,l,s,h=>rfl
 |d'::ds,x,l,s,h=>(rSeq_keep hA ds _ l _ fun y hy=>h y (List.mem_cons_of_mem _ hy)).trans (hA d d' (h d' List.mem_cons_self) x l s)
theorem rSeq_enc (hE:EncS rd en) (hs:StkS rd) (hA:ApS rd en ap):∀ds x l s,ds.Pairwise (fun d d'=>ap d d'=true)→s.at_≤l.length→(rSeq rd ds x l s).2.e=0→
 (rSeq rd ds x l s).2.at_≤l.length∧l.take (rSeq rd ds x l s).2.at_=l.take s.at_++ds.flatMap fun d=>en d (rSeq rd ds x l s).1
 |[],x,l,s,hp,hl,he=>⟨hl,by simp[rSeq]⟩
 |d::ds,x,l,s,hp,hl,he=>by
  obtain⟨h1,h2⟩:=List.pairwise_cons.1 hp
  have he1:(rd d x l s).2.e=0:=Decidable.byContradiction fun hn=>hn (by
   have:=rSeq_stk hs ds (rd d x l s).1 l _ hn
   rw[←this];exact he)
  obtain⟨a1,a2⟩:=hE d x l s hl he1
  obtain⟨b1,b2⟩:=rSeq_enc hE hs hA ds (rd d x l s).1 l _ h2 a1 he
  refine⟨b1,b2.trans ?_⟩
  rw[a2,List.append_assoc,List.flatMap_cons]
  congr 2
  exact(rSeq_keep hA ds _ l _ h1).symm
theorem rSeq_inv {P:S→Prop} {l:List UInt8} (h:∀d x s,P x→P (rd d x l s).1):∀ds x s,P x→P (rSeq rd ds x l s).1
 |[],x,s,hx=>hx
 |d::ds,x,s,hx=>rSeq_inv h ds _ _ (h d x s hx)
end
end Go.Proofs.YtcalkfgibflbnaaGreat
namespace Go.Proofs.YtcalkfgibflbnaaGreat
set_option maxHeartbeats 4000000
set_option maxRecDepth 100000
set_option linter.unusedVariables false
open Go.RowKit Fl
attribute [local go_sem] run_store_float
def nb (g:Nat):Nat→Bool:=fun k=>decide (k≠g)
theorem nb_iff {g k:Nat}:nb g k=true↔k≠g:=by unfold nb;rw[decide_eq_true_eq]
structure RSt (w:World) (g:Nat) (B1:Option Addr) (m1 d1:Nat) (B2:Option Addr) (m2 d2:Nat) (L:Sp) (Hl:List Hs) (Pl:List Pn):Prop where
 blk:Blk w g 241 #[.slice B1 m1 d1,.slice B2 m2 d2,.int .i64 L.w,.int .i64 L.l,.int .i64 L.n]
 hs:Sl HsRel 2 (only (nb g) w) w.heap.size B1 m1 Hl
 ps:Sl PnRel 8 (only (nb g) w) w.heap.size B2 m2 Pl
 le2:m2≤d2
 d2m:d2≤maxLen
 m1:m1≤maxLen
 m2:m2≤maxLen
section
variable {w w':World} {g:Nat} {B1 B2:Option Addr} {m1 d1 m2 d2:Nat} {L:Sp} {Hl:List Hs} {Pl:List Pn}
theorem RSt.below (h:RSt w g B1 m1 d1 B2 m2 d2 L Hl Pl) (hb:Below w.heap.size w w'):RSt w' g B1 m1 d1 B2 m2 d2 L Hl Pl:=by
 have hk:∀p:Addr,p.block<w.heap.size→(only (nb g) w').cell? p=(only (nb g) w).cell? p:=fun p hp=>by
  cases hn:nb g p.block
  · rw[only_cell_out hn,only_cell_out hn]
  · rw[only_cell_in hn,only_cell_in hn];exact hb.cell hp
 exact⟨h.blk.below hb h.blk.lt,(h.hs.keep HsRel.kept hk).more HsRel.kept hb.size,(h.ps.keep PnRel.kept hk).more PnRel.kept hb.size,h.le2,h.d2m,h.m1,h.m2⟩
theorem RSt.hist (h:RSt w g B1 m1 d1 B2 m2 d2 L Hl Pl):Sl HsRel 2 w w.heap.size B1 m1 Hl:=h.hs.mono HsRel.mono fun p u _ hc=>(only_cell hc).2
theorem RSt.pend (h:RSt w g B1 m1 d1 B2 m2 d2 L Hl Pl):Sl PnRel 8 w w.heap.size B2 m2 Pl:=h.ps.mono PnRel.mono fun p u _ hc=>(only_cell hc).2
end
def atFrom (key:ByteArray):Nat→List Hs→Int
 |_,[]=> -1
 |i,h::l=>if h.key.toList==key.toList then (i:Int) else atFrom key (i+1) l
theorem atFrom_drop {key:ByteArray} {l:List Hs} {k:Nat} {a:Hs} (h:l[k]?=some a):atFrom key k (l.drop k)=if a.key.toList==key.toList then (k:Int) else atFrom key (k+1) (l.drop (k+1)):=by
 have h1:=List.getElem?_eq_some_iff.1 h
 rw[List.drop_eq_getElem_cons h1.1,h1.2];rfl
def AtRel (key:ByteArray) (l:List Hs) (w:World) (i:Value) (wr:World):Prop:=∃k:Nat,k≤l.length∧i=.int .i64 (k:Int)∧atFrom key k (l.drop k)=atFrom key 0 l∧Below w.heap.size w wr
theorem rat_any (g:Nat) (B1 B2:Option Addr) (m1 d1 m2 d2:Nat) (L:Sp) (Hl:List Hs) (Pl:List Pn) (key:ByteArray) (w:World) (h:RSt w g B1 m1 d1 B2 m2 d2 L Hl Pl):
 Calls Tryz.prog 214 #[.pointer (some ⟨g,0,none⟩),.string key] w fun e w'=>e=.returned (.int .i64 (atFrom key 0 Hl))∧Below w.heap.size w w':=by
 have hm:=h.m1
 unfold maxLen at hm
 have hl:=h.hs.1
 have hge:m1≤Hl.length:=by omega
 have hle:Hl.length≤m1:=by omega
 clear hl
 go_enter Tryz.func214,Tryz.ntmps214
 go_wp2
 go_loopw [5] (fun i wr=>AtRel key Hl w i wr) (fun i _=>m1-(intOf i).toNat)
 case atStart=>exact⟨0,by omega,rfl,rfl,Below.refl _ _⟩
 case round=>
  obtain⟨k,hk,rfl,hs,hb⟩:=hrel
  have hzz:=hb.size
  have hr:=h.below hb
  obtain⟨gl,k0,k1,-,-,-⟩:=hr.blk.fiveC
  by_cases hlt:k<m1
  · obtain⟨ad,a,A',n',c',rfl,ha,hbk,hok,c0,c1,hn',hc',hsv⟩:=hr.hist.hs hlt
    have hd1:decide ((k:Int)<(m1:Int))=true:=by simp;omega
    have hk0:(0:Int)≤(k:Int):=by omega
    have hk1:(k:Int)<(m1:Int):=by omega
    rw[atFrom_drop ha]at hs
    clear ha
    cases he:(a.key.toList==key.toList)
    · rw[he]at hs
      have HS:=Lib.hid (show atFrom key (k+1) (Hl.drop (k+1))=atFrom key 0 Hl from hs)
      clear hs
      go_wp2
      go_roundw
      case rel=>exact⟨k+1,by omega,by go_num,HS.out,hb⟩
      case measure=>simp[intOf];omega
    · rw[he]at hs
      have HS:=Lib.hid (show (k:Int)=atFrom key 0 Hl from hs)
      clear hs
      go_wp2
      go_ret
      rw[←HS.out]
      exact⟨rfl,hb⟩
  · have hd1:decide ((k:Int)<(m1:Int))=false:=by simp;omega
    rw[List.drop_of_length_le (by omega)]at hs
    have HS:=Lib.hid (show (-1:Int)=atFrom key 0 Hl from hs)
    clear hs
    go_wp2
    go_ret
    rw[←HS.out]
    exact⟨rfl,hb⟩
def whFrom (t:Tx):Nat→List Pn→Int
 |_,[]=> -1
 |i,p::l=>if decide (p.t=t) then (i:Int) else whFrom t (i+1) l
theorem whFrom_drop {t:Tx} {l:List Pn} {k:Nat} {a:Pn} (h:l[k]?=some a):whFrom t k (l.drop k)=if decide (a.t=t) then (k:Int) else whFrom t (k+1) (l.drop (k+1)):=by
 have h1:=List.getElem?_eq_some_iff.1 h
 rw[List.drop_eq_getElem_cons h1.1,h1.2];rfl
theorem txn_run (a t:Tx) (w:World):(Op.equalIn 10000 23 (.agg #[.int .i64 a.c,.int .i64 a.l,.int .i64 a.s]) (.agg #[.int .i64 t.c,.int .i64 t.l,.int .i64 t.s])).run Tryz.prog w=.ok (decide (a=t)) w:=by
 have e:decide (a=t)=((a.c==t.c)&&(a.l==t.l)&&(a.s==t.s)):=by
  obtain⟨a1,a2,a3⟩:=a
  obtain⟨b1,b2,b3⟩:=t
  rw[Bool.eq_iff_iff]
  simp[and_assoc]
 rw[e]
 cases h1:(a.c==t.c)<;>cases h2:(a.l==t.l)<;>cases h3:(a.s==t.s)
 all_goals simp[go_sem,h1,h2,h3]
def WhRel (t:Tx) (l:List Pn) (w:World) (i:Value) (wr:World):Prop:=∃k:Nat,k≤l.length∧i=.int .i64 (k:Int)∧whFrom t k (l.drop k)=whFrom t 0 l∧Below w.heap.size w wr∧Blk wr w.heap.size 23 #[.int .i64 t.c,.int .i64 t.l,.int .i64 t.s]
theorem rwhere_any (g:Nat) (B1 B2:Option Addr) (m1 d1 m2 d2:Nat) (L:Sp) (Hl:List Hs) (Pl:List Pn) (t:Tx) (w:World) (h:RSt w g B1 m1 d1 B2 m2 d2 L Hl Pl):
 Calls Tryz.prog 177 #[.pointer (some ⟨g,0,none⟩),t.val] w fun e w'=>e=.returned (.int .i64 (whFrom t 0 Pl))∧Below w.heap.size w w':=by
 have hm:=h.m2
 unfold maxLen at hm
 have hl:=h.ps.1
 have hge:m2≤Pl.length:=by omega
 have hle:Pl.length≤m2:=by omega
 clear hl
 go_enter Tryz.func177,Tryz.ntmps177
 go_wp2
 go_loopw [5] (fun i wr=>WhRel t Pl w i wr) (fun i _=>m2-(intOf i).toNat)
 case atStart=>exact⟨0,by omega,rfl,rfl,by go_grown,Blk.new _ _ _⟩
 case round=>
  obtain⟨k,hk,rfl,hs,hb,i3⟩:=hrel
  have hzz:=hb.size
  have hr:=h.below hb
  obtain⟨gl,k0,k1,-,-,-⟩:=hr.blk.fiveC
  obtain⟨g3,s0,s1,s2⟩:=i3.three
  by_cases hlt:k<m2
  · obtain⟨ad,a,A1,n1,c1,A2,n2,c2,rfl,ha,hbk,hxt,hxs,e0,e1,e2,e3,e4,e5,e6,e7,hn1,hc1,hs1,hn2,hc2,hs2⟩:=hr.pend.pn hlt
    have hd1:decide ((k:Int)<(m2:Int))=true:=by simp;omega
    have hk0:(0:Int)≤(k:Int):=by omega
    have hk1:(k:Int)<(m2:Int):=by omega
    have hrun:=fun w=>txn_run a.t t w
    rw[whFrom_drop ha]at hs
    clear ha
    cases he:decide (a.t=t)
    · rw[he]at hs hrun
      have HS:=Lib.hid (show whFrom t (k+1) (Pl.drop (k+1))=whFrom t 0 Pl from hs)
      clear hs he
      go_wp2
      go_quiet (fail)
      all_goals go_wp2
      all_goals go_roundw
      case rel=>exact⟨k+1,by omega,by go_num,HS.out,hb.trans ((belowN _).mono hzz),i3⟩
      case measure=>simp[intOf];omega
    · rw[he]at hs hrun
      have HS:=Lib.hid (show (k:Int)=whFrom t 0 Pl from hs)
      clear hs he
      go_wp2
      go_quiet (fail)
      all_goals go_wp2
      all_goals go_ret
      rw[←HS.out]
      exact⟨rfl,hb.trans ((belowN _).mono hzz)⟩
  · have hd1:decide ((k:Int)<(m2:Int))=false:=by simp;omega
    rw[List.drop_of_length_le (by omega)]at hs
    have HS:=Lib.hid (show (-1:Int)=whFrom t 0 Pl from hs)
    clear hs
    go_wp2
    go_ret
    rw[←HS.out]
    exact⟨rfl,hb⟩
set_option maxHeartbeats 8000000
def Stt.zeroB (s:Stt):Bool:=(s.r.id==0)&&(s.r.ep==0)&&((s.r.lo:Int)==0)&&((s.r.hi:Int)==0)&&s.f.zero&&s.c.zero&&((s.h.length:Int)==0)&&((s.p.length:Int)==0)
theorem zeroState_any (s:Stt) (A1 A2:Option Addr) (n1 n2 c1 c2:Nat) (w:World) (h1:s.h.length=n1) (h2:s.p.length=n2):
 Calls Tryz.prog 223 #[.agg (s.arr (.slice A1 n1 c1) (.slice A2 n2 c2))] w fun e w'=>e=.returned (.bool s.zeroB)∧Below w.heap.size w w':=by
 have z1:=fun w=>zero_run s.f w
 have z2:=fun w=>zero_run s.c w
 have HZ:=Lib.hid (show s.zeroB=((s.r.id==0)&&(s.r.ep==0)&&((s.r.lo:Int)==0)&&((s.r.hi:Int)==0)&&s.f.zero&&s.c.zero&&((n1:Int)==0)&&((n2:Int)==0)) by unfold Stt.zeroB;rw[h1,h2])
 clear h1 h2
 generalize s.f.zero=b1 at*
 generalize s.c.zero=b2 at*
 go_enter Tryz.func223,Tryz.ntmps223
 go_wp2
 all_goals go_ret
 all_goals refine⟨ret_bool ?_,by go_grown⟩
 all_goals rw[HZ.out]
 all_goals simp_all
def Rc.zeroB (r:Rc):Bool:=decide (r.t=⟨0,0,0⟩)&&r.s.zero&&r.pv.zero&& !r.cm&&(r.n==0)&&((r.pt:Int)==0)&&((r.rd.length:Int)==0)&&((r.wr.length:Int)==0)&&((r.ps.length:Int)==0)&&((r.pr.length:Int)==0)&&r.st.zeroB
theorem zero_any (r:Rc) (h:Hds) (w:World) (h1:r.rd.length=h.a.n) (h2:r.wr.length=h.b.n) (h3:r.ps.length=h.c.n) (h4:r.pr.length=h.d.n) (h5:r.st.h.length=h.e.n) (h6:r.st.p.length=h.f.n):
 Calls Tryz.prog 198 #[.agg (r.vals h)] w fun e w'=>e=.returned (.bool r.zeroB)∧Below w.heap.size w w':=by
 have z0:=fun w=>txn_run r.t ⟨0,0,0⟩ w
 have z1:=fun w=>zero_run r.s w
 have z2:=fun w=>zero_run r.pv w
 have hS:=fun w=>zeroState_any r.st h.e.A h.f.A h.e.n h.f.n h.e.c h.f.c w h5 h6
 have HZ:=Lib.hid (show r.zeroB=(decide (r.t=⟨0,0,0⟩)&&r.s.zero&&r.pv.zero&& !r.cm&&(r.n==0)&&((r.pt:Int)==0)&&((h.a.n:Int)==0)&&((h.b.n:Int)==0)&&((h.c.n:Int)==0)&&((h.d.n:Int)==0)&&r.st.zeroB) by unfold Rc.zeroB;rw[h1,h2,h3,h4])
 clear h1 h2 h3 h4 h5 h6
 generalize decide (r.t=⟨0,0,0⟩)=b0 at*
 generalize r.s.zero=b1 at*
 generalize r.pv.zero=b2 at*
 generalize r.st.zeroB=b3 at*
 have hX:Below w.heap.size w (w.alloc (.cells (r.vals h) 69)):=by go_grown
 go_enter Tryz.func198,Tryz.ntmps198
 go_wp2_with ((with_reducible refine(hS _).mono ?_);rintro e w1 ⟨rfl,hb1⟩)
 all_goals go_ret
 all_goals refine⟨ret_bool ?_,by first|exact hX|exact hX.trans (hb1.mono hX.size)⟩
 all_goals rw[HZ.out]
 all_goals simp_all
def zeroS:Stt:=⟨⟨0,0,0,0⟩,⟨0,0,0⟩,⟨0,0,0⟩,[],[]⟩
def wipe (r:Rc):Rc:=
 if r.k=1 then {r with st:=zeroS} else
 if r.k=2 then {r with n:=0} else
 if r.k=3 then {r with t:=⟨0,0,0⟩,s:=⟨0,0,0⟩,rd:=[],wr:=[],ps:=[]} else
 if r.k=4 then {r with t:=⟨0,0,0⟩,cm:=false,s:=⟨0,0,0⟩} else
 if r.k=5 then {r with s:=⟨0,0,0⟩} else
 if r.k=6 then {r with pt:=0,n:=0,s:=⟨0,0,0⟩} else
 if r.k=7 then {r with n:=0} else
 if r.k=8 then {r with n:=0} else
 if r.k=9 then {r with t:=⟨0,0,0⟩,s:=⟨0,0,0⟩,ps:=[]} else
 if r.k=10 then {r with t:=⟨0,0,0⟩} else
 if r.k=11 then {r with pv:=⟨0,0,0⟩,s:=⟨0,0,0⟩,t:=⟨0,0,0⟩,wr:=[]} else
 if r.k=12 then {r with s:=⟨0,0,0⟩,pr:=[]} else
 r
def wipeH (k:Int) (h:Hds):Hds:=
 if k=1 then {h with e:=Hd.nil,f:=Hd.nil} else
 if k=3 then {h with a:=Hd.nil,b:=Hd.nil,c:=Hd.nil} else
 if k=9 then {h with c:=Hd.nil} else
 if k=11 then {h with b:=Hd.nil} else
 if k=12 then {h with d:=Hd.nil} else
 h
theorem wpList_store_second {P:Program} {ops:Array Oper} {rest:List Oper} {o:Oper} {a:Act} {w:World} {Q:Exit→Act→World→Prop} (hgd:o.guard=none) (ty:TypeId) (x y:Operand) (ho:o.op=.store ty x y)
 (cells:Array Value) (hx:a.eval x=.pointer (some ⟨w.heap.size+1,0,none⟩)) (hy:a.eval y=.agg cells)
 (t:TypeId) (old:Array Value) (ob:Obj) (hi:(P.info? ty).map (·.size)=some cells.size)
 (hold:old.size=cells.size) (h1:cells.all (·.oneCell')=true)
 (h:wpList P ops Q rest (a.put o.dst undef) ((w.alloc ob).alloc (.cells cells t))):wpList P ops Q (o::rest) a ((w.alloc ob).alloc (.cells old t)):=by
 have hs:(w.alloc ob).heap.size=w.heap.size+1:=by simp
 exact wpList_store_new hgd ty x y ho cells (by rw[hs];exact hx) hy t old hi hold h1 h
def kindB (k:Int):Bool:=decide (1≤k∧k≤12)
theorem without_1 (r:Rc) (h:Hds) (w:World) (hk:r.k=1):
 Calls Tryz.prog 197 #[.agg (r.vals h)] w fun e w'=>e=.returned (.tuple #[.agg (({r with st:=zeroS}:Rc).vals {h with e:=Hd.nil,f:=Hd.nil}),.bool true])∧Below w.heap.size w w':=by
 obtain⟨k,t,s,pv,cm,n,pt,rd,wr,ps,pr,st⟩:=r
 change k=1 at hk
 subst hk
 go_enter Tryz.func197,Tryz.ntmps197
 go_upto_region 25 with fail
 go_wp2_with (first
  |(refine wpList_load_row rfl 69 _ rfl _ rfl _ _ (0,0) _ ((Blk.new _ _ _).alloc _) rfl rfl (by kernel_rfl) ?_)
  |(refine wpList_store_second rfl 69 _ _ rfl _ rfl rfl _ _ _ (by kernel_rfl) (by kernel_rfl) (by kernel_rfl) ?_))
 refine post_cell_tmp rfl (by rfl) (Blk.new' (g:=w.heap.size+1) _ _ (by simp)) rfl rfl (by kernel_rfl) ?_
 exact⟨rfl,by go_grown⟩
theorem without_2 (r:Rc) (h:Hds) (w:World) (hk:r.k=2):
 Calls Tryz.prog 197 #[.agg (r.vals h)] w fun e w'=>e=.returned (.tuple #[.agg (({r with n:=0}:Rc).vals h),.bool true])∧Below w.heap.size w w':=by
 obtain⟨k,t,s,pv,cm,n,pt,rd,wr,ps,pr,st⟩:=r
 change k=2 at hk
 subst hk
 go_enter Tryz.func197,Tryz.ntmps197
 go_upto_region 25 with fail
 go_wp2_with (first
  |(refine wpList_load_row rfl 69 _ rfl _ rfl _ _ (0,0) _ ((Blk.new _ _ _).alloc _) rfl rfl (by kernel_rfl) ?_)
  |(refine wpList_store_second rfl 69 _ _ rfl _ rfl rfl _ _ _ (by kernel_rfl) (by kernel_rfl) (by kernel_rfl) ?_))
 refine post_cell_tmp rfl (by rfl) (Blk.new' (g:=w.heap.size+1) _ _ (by simp)) rfl rfl (by kernel_rfl) ?_
 exact⟨rfl,by go_grown⟩
theorem without_3 (r:Rc) (h:Hds) (w:World) (hk:r.k=3):
 Calls Tryz.prog 197 #[.agg (r.vals h)] w fun e w'=>e=.returned (.tuple #[.agg (({r with t:=⟨0,0,0⟩,s:=⟨0,0,0⟩,rd:=[],wr:=[],ps:=[]}:Rc).vals {h with a:=Hd.nil,b:=Hd.nil,c:=Hd.nil}),.bool true])∧Below w.heap.size w w':=by
 obtain⟨k,t,s,pv,cm,n,pt,rd,wr,ps,pr,st⟩:=r
 change k=3 at hk
 subst hk
 go_enter Tryz.func197,Tryz.ntmps197
 go_upto_region 25 with fail
 go_wp2_with (first
  |(refine wpList_load_row rfl 69 _ rfl _ rfl _ _ (0,0) _ ((Blk.new _ _ _).alloc _) rfl rfl (by kernel_rfl) ?_)
  |(refine wpList_store_second rfl 69 _ _ rfl _ rfl rfl _ _ _ (by kernel_rfl) (by kernel_rfl) (by kernel_rfl) ?_))
 refine post_cell_tmp rfl (by rfl) (Blk.new' (g:=w.heap.size+1) _ _ (by simp)) rfl rfl (by kernel_rfl) ?_
 exact⟨rfl,by go_grown⟩
theorem without_4 (r:Rc) (h:Hds) (w:World) (hk:r.k=4):
 Calls Tryz.prog 197 #[.agg (r.vals h)] w fun e w'=>e=.returned (.tuple #[.agg (({r with t:=⟨0,0,0⟩,cm:=false,s:=⟨0,0,0⟩}:Rc).vals h),.bool true])∧Below w.heap.size w w':=by
 obtain⟨k,t,s,pv,cm,n,pt,rd,wr,ps,pr,st⟩:=r
 change k=4 at hk
 subst hk
 go_enter Tryz.func197,Tryz.ntmps197
 go_upto_region 25 with fail
 go_wp2_with (first
  |(refine wpList_load_row rfl 69 _ rfl _ rfl _ _ (0,0) _ ((Blk.new _ _ _).alloc _) rfl rfl (by kernel_rfl) ?_)
  |(refine wpList_store_second rfl 69 _ _ rfl _ rfl rfl _ _ _ (by kernel_rfl) (by kernel_rfl) (by kernel_rfl) ?_))
 refine post_cell_tmp rfl (by rfl) (Blk.new' (g:=w.heap.size+1) _ _ (by simp)) rfl rfl (by kernel_rfl) ?_
 exact⟨rfl,by go_grown⟩
theorem without_5 (r:Rc) (h:Hds) (w:World) (hk:r.k=5):
 Calls Tryz.prog 197 #[.agg (r.vals h)] w fun e w'=>e=.returned (.tuple #[.agg (({r with s:=⟨0,0,0⟩}:Rc).vals h),.bool true])∧Below w.heap.size w w':=by
 obtain⟨k,t,s,pv,cm,n,pt,rd,wr,ps,pr,st⟩:=r
 change k=5 at hk
 subst hk
 go_enter Tryz.func197,Tryz.ntmps197
 go_upto_region 25 with fail
 go_wp2_with (first
  |(refine wpList_load_row rfl 69 _ rfl _ rfl _ _ (0,0) _ ((Blk.new _ _ _).alloc _) rfl rfl (by kernel_rfl) ?_)
  |(refine wpList_store_second rfl 69 _ _ rfl _ rfl rfl _ _ _ (by kernel_rfl) (by kernel_rfl) (by kernel_rfl) ?_))
 refine post_cell_tmp rfl (by rfl) (Blk.new' (g:=w.heap.size+1) _ _ (by simp)) rfl rfl (by kernel_rfl) ?_
 exact⟨rfl,by go_grown⟩
theorem without_6 (r:Rc) (h:Hds) (w:World) (hk:r.k=6):
 Calls Tryz.prog 197 #[.agg (r.vals h)] w fun e w'=>e=.returned (.tuple #[.agg (({r with pt:=0,n:=0,s:=⟨0,0,0⟩}:Rc).vals h),.bool true])∧Below w.heap.size w w':=by
 obtain⟨k,t,s,pv,cm,n,pt,rd,wr,ps,pr,st⟩:=r
 change k=6 at hk
 subst hk
 go_enter Tryz.func197,Tryz.ntmps197
 go_upto_region 25 with fail
 go_wp2_with (first
  |(refine wpList_load_row rfl 69 _ rfl _ rfl _ _ (0,0) _ ((Blk.new _ _ _).alloc _) rfl rfl (by kernel_rfl) ?_)
  |(refine wpList_store_second rfl 69 _ _ rfl _ rfl rfl _ _ _ (by kernel_rfl) (by kernel_rfl) (by kernel_rfl) ?_))
 refine post_cell_tmp rfl (by rfl) (Blk.new' (g:=w.heap.size+1) _ _ (by simp)) rfl rfl (by kernel_rfl) ?_
 exact⟨rfl,by go_grown⟩
theorem without_7 (r:Rc) (h:Hds) (w:World) (hk:r.k=7):
 Calls Tryz.prog 197 #[.agg (r.vals h)] w fun e w'=>e=.returned (.tuple #[.agg (({r with n:=0}:Rc).vals h),.bool true])∧Below w.heap.size w w':=by
 obtain⟨k,t,s,pv,cm,n,pt,rd,wr,ps,pr,st⟩:=r
 change k=7 at hk
 subst hk
 go_enter Tryz.func197,Tryz.ntmps197
 go_upto_region 25 with fail
 go_wp2_with (first
  |(refine wpList_load_row rfl 69 _ rfl _ rfl _ _ (0,0) _ ((Blk.new _ _ _).alloc _) rfl rfl (by kernel_rfl) ?_)
  |(refine wpList_store_second rfl 69 _ _ rfl _ rfl rfl _ _ _ (by kernel_rfl) (by kernel_rfl) (by kernel_rfl) ?_))
 refine post_cell_tmp rfl (by rfl) (Blk.new' (g:=w.heap.size+1) _ _ (by simp)) rfl rfl (by kernel_rfl) ?_
 exact⟨rfl,by go_grown⟩
theorem without_8 (r:Rc) (h:Hds) (w:World) (hk:r.k=8):
 Calls Tryz.prog 197 #[.agg (r.vals h)] w fun e w'=>e=.returned (.tuple #[.agg (({r with n:=0}:Rc).vals h),.bool true])∧Below w.heap.size w w':=by
 obtain⟨k,t,s,pv,cm,n,pt,rd,wr,ps,pr,st⟩:=r
 change k=8 at hk
 subst hk
 go_enter Tryz.func197,Tryz.ntmps197
 go_upto_region 25 with fail
 go_wp2_with (first
  |(refine wpList_load_row rfl 69 _ rfl _ rfl _ _ (0,0) _ ((Blk.new _ _ _).alloc _) rfl rfl (by kernel_rfl) ?_)
  |(refine wpList_store_second rfl 69 _ _ rfl _ rfl rfl _ _ _ (by kernel_rfl) (by kernel_rfl) (by kernel_rfl) ?_))
 refine post_cell_tmp rfl (by rfl) (Blk.new' (g:=w.heap.size+1) _ _ (by simp)) rfl rfl (by kernel_rfl) ?_
 exact⟨rfl,by go_grown⟩
theorem without_9 (r:Rc) (h:Hds) (w:World) (hk:r.k=9):
 Calls Tryz.prog 197 #[.agg (r.vals h)] w fun e w'=>e=.returned (.tuple #[.agg (({r with t:=⟨0,0,0⟩,s:=⟨0,0,0⟩,ps:=[]}:Rc).vals {h with c:=Hd.nil}),.bool true])∧Below w.heap.size w w':=by
 obtain⟨k,t,s,pv,cm,n,pt,rd,wr,ps,pr,st⟩:=r
 change k=9 at hk
 subst hk
 go_enter Tryz.func197,Tryz.ntmps197
 go_upto_region 25 with fail
 go_wp2_with (first
  |(refine wpList_load_row rfl 69 _ rfl _ rfl _ _ (0,0) _ ((Blk.new _ _ _).alloc _) rfl rfl (by kernel_rfl) ?_)
  |(refine wpList_store_second rfl 69 _ _ rfl _ rfl rfl _ _ _ (by kernel_rfl) (by kernel_rfl) (by kernel_rfl) ?_))
 refine post_cell_tmp rfl (by rfl) (Blk.new' (g:=w.heap.size+1) _ _ (by simp)) rfl rfl (by kernel_rfl) ?_
 exact⟨rfl,by go_grown⟩
theorem without_10 (r:Rc) (h:Hds) (w:World) (hk:r.k=10):
 Calls Tryz.prog 197 #[.agg (r.vals h)] w fun e w'=>e=.returned (.tuple #[.agg (({r with t:=⟨0,0,0⟩}:Rc).vals h),.bool true])∧Below w.heap.size w w':=by
 obtain⟨k,t,s,pv,cm,n,pt,rd,wr,ps,pr,st⟩:=r
 change k=10 at hk
 subst hk
 go_enter Tryz.func197,Tryz.ntmps197
 go_upto_region 25 with fail
 go_wp2_with (first
  |(refine wpList_load_row rfl 69 _ rfl _ rfl _ _ (0,0) _ ((Blk.new _ _ _).alloc _) rfl rfl (by kernel_rfl) ?_)
  |(refine wpList_store_second rfl 69 _ _ rfl _ rfl rfl _ _ _ (by kernel_rfl) (by kernel_rfl) (by kernel_rfl) ?_))
 refine post_cell_tmp rfl (by rfl) (Blk.new' (g:=w.heap.size+1) _ _ (by simp)) rfl rfl (by kernel_rfl) ?_
 exact⟨rfl,by go_grown⟩
theorem without_11 (r:Rc) (h:Hds) (w:World) (hk:r.k=11):
 Calls Tryz.prog 197 #[.agg (r.vals h)] w fun e w'=>e=.returned (.tuple #[.agg (({r with pv:=⟨0,0,0⟩,s:=⟨0,0,0⟩,t:=⟨0,0,0⟩,wr:=[]}:Rc).vals {h with b:=Hd.nil}),.bool true])∧Below w.heap.size w w':=by
 obtain⟨k,t,s,pv,cm,n,pt,rd,wr,ps,pr,st⟩:=r
 change k=11 at hk
 subst hk
 go_enter Tryz.func197,Tryz.ntmps197
 go_upto_region 25 with fail
 go_wp2_with (first
  |(refine wpList_load_row rfl 69 _ rfl _ rfl _ _ (0,0) _ ((Blk.new _ _ _).alloc _) rfl rfl (by kernel_rfl) ?_)
  |(refine wpList_store_second rfl 69 _ _ rfl _ rfl rfl _ _ _ (by kernel_rfl) (by kernel_rfl) (by kernel_rfl) ?_))
 refine post_cell_tmp rfl (by rfl) (Blk.new' (g:=w.heap.size+1) _ _ (by simp)) rfl rfl (by kernel_rfl) ?_
 exact⟨rfl,by go_grown⟩
theorem without_12 (r:Rc) (h:Hds) (w:World) (hk:r.k=12):
 Calls Tryz.prog 197 #[.agg (r.vals h)] w fun e w'=>e=.returned (.tuple #[.agg (({r with s:=⟨0,0,0⟩,pr:=[]}:Rc).vals {h with d:=Hd.nil}),.bool true])∧Below w.heap.size w w':=by
 obtain⟨k,t,s,pv,cm,n,pt,rd,wr,ps,pr,st⟩:=r
 change k=12 at hk
 subst hk
 go_enter Tryz.func197,Tryz.ntmps197
 go_upto_region 25 with fail
 go_wp2_with (first
  |(refine wpList_load_row rfl 69 _ rfl _ rfl _ _ (0,0) _ ((Blk.new _ _ _).alloc _) rfl rfl (by kernel_rfl) ?_)
  |(refine wpList_store_second rfl 69 _ _ rfl _ rfl rfl _ _ _ (by kernel_rfl) (by kernel_rfl) (by kernel_rfl) ?_))
 refine post_cell_tmp rfl (by rfl) (Blk.new' (g:=w.heap.size+1) _ _ (by simp)) rfl rfl (by kernel_rfl) ?_
 exact⟨rfl,by go_grown⟩
theorem without_0 (r:Rc) (h:Hds) (w:World) (hk:kindB r.k=false):
 Calls Tryz.prog 197 #[.agg (r.vals h)] w fun e w'=>e=.returned (.tuple #[.agg (r.vals h),.bool false])∧Below w.heap.size w w':=by
 obtain⟨k,t,s,pv,cm,n,pt,rd,wr,ps,pr,st⟩:=r
 change kindB k=false at hk
 unfold kindB at hk
 rw[decide_eq_false_iff_not]at hk
 have e1:(k==1)=false:=by simp;omega
 have e2:(k==2)=false:=by simp;omega
 have e3:(k==3)=false:=by simp;omega
 have e4:(k==4)=false:=by simp;omega
 have e5:(k==5)=false:=by simp;omega
 have e6:(k==6)=false:=by simp;omega
 have e7:(k==7)=false:=by simp;omega
 have e8:(k==8)=false:=by simp;omega
 have e9:(k==9)=false:=by simp;omega
 have e10:(k==10)=false:=by simp;omega
 have e11:(k==11)=false:=by simp;omega
 have e12:(k==12)=false:=by simp;omega
 clear hk
 go_enter Tryz.func197,Tryz.ntmps197
 go_upto_region 2 with fail
 go_wp2_with (first
  |(refine wpList_load_row rfl 69 _ rfl _ rfl _ _ (0,0) _ ((Blk.new _ _ _).alloc _) rfl rfl (by kernel_rfl) ?_)
  |(refine wpList_store_second rfl 69 _ _ rfl _ rfl rfl _ _ _ (by kernel_rfl) (by kernel_rfl) (by kernel_rfl) ?_))
 refine post_cell_tmp rfl (by rfl) (Blk.new' (g:=w.heap.size+1) _ _ (by simp)) rfl rfl (by kernel_rfl) ?_
 exact⟨rfl,by go_grown⟩
theorem without_any (r:Rc) (h:Hds) (w:World):
 Calls Tryz.prog 197 #[.agg (r.vals h)] w fun e w'=>e=.returned (.tuple #[.agg ((wipe r).vals (wipeH r.k h)),.bool (kindB r.k)])∧Below w.heap.size w w':=by
 cases hk:kindB r.k
 · have hk':=hk
   unfold kindB at hk'
   rw[decide_eq_false_iff_not]at hk'
   have e1:wipe r=r:=by unfold wipe;repeat (rw[if_neg (by omega)])
   have e2:wipeH r.k h=h:=by unfold wipeH;repeat (rw[if_neg (by omega)])
   rw[e1,e2]
   exact without_0 r h w hk
 · unfold kindB at hk
   rw[decide_eq_true_eq]at hk
   have hc:r.k=1∨r.k=2∨r.k=3∨r.k=4∨r.k=5∨r.k=6∨r.k=7∨r.k=8∨r.k=9∨r.k=10∨r.k=11∨r.k=12:=by omega
   rcases hc with e|e|e|e|e|e|e|e|e|e|e|e
   · have e1:wipe r={r with st:=zeroS}:=by unfold wipe;simp[e]
     have e2:wipeH r.k h={h with e:=Hd.nil,f:=Hd.nil}:=by unfold wipeH;simp[e]
     rw[e1,e2];exact without_1 r h w e
   · have e1:wipe r={r with n:=0}:=by unfold wipe;simp[e]
     have e2:wipeH r.k h=h:=by unfold wipeH;simp[e]
     rw[e1,e2];exact without_2 r h w e
   · have e1:wipe r={r with t:=⟨0,0,0⟩,s:=⟨0,0,0⟩,rd:=[],wr:=[],ps:=[]}:=by unfold wipe;simp[e]
     have e2:wipeH r.k h={h with a:=Hd.nil,b:=Hd.nil,c:=Hd.nil}:=by unfold wipeH;simp[e]
     rw[e1,e2];exact without_3 r h w e
   · have e1:wipe r={r with t:=⟨0,0,0⟩,cm:=false,s:=⟨0,0,0⟩}:=by unfold wipe;simp[e]
     have e2:wipeH r.k h=h:=by unfold wipeH;simp[e]
     rw[e1,e2];exact without_4 r h w e
   · have e1:wipe r={r with s:=⟨0,0,0⟩}:=by unfold wipe;simp[e]
     have e2:wipeH r.k h=h:=by unfold wipeH;simp[e]
     rw[e1,e2];exact without_5 r h w e
   · have e1:wipe r={r with pt:=0,n:=0,s:=⟨0,0,0⟩}:=by unfold wipe;simp[e]
     have e2:wipeH r.k h=h:=by unfold wipeH;simp[e]
     rw[e1,e2];exact without_6 r h w e
   · have e1:wipe r={r with n:=0}:=by unfold wipe;simp[e]
     have e2:wipeH r.k h=h:=by unfold wipeH;simp[e]
     rw[e1,e2];exact without_7 r h w e
   · have e1:wipe r={r with n:=0}:=by unfold wipe;simp[e]
     have e2:wipeH r.k h=h:=by unfold wipeH;simp[e]
     rw[e1,e2];exact without_8 r h w e
   · have e1:wipe r={r with t:=⟨0,0,0⟩,s:=⟨0,0,0⟩,ps:=[]}:=by unfold wipe;simp[e]
     have e2:wipeH r.k h={h with c:=Hd.nil}:=by unfold wipeH;simp[e]
     rw[e1,e2];exact without_9 r h w e
   · have e1:wipe r={r with t:=⟨0,0,0⟩}:=by unfold wipe;simp[e]
     have e2:wipeH r.k h=h:=by unfold wipeH;simp[e]
     rw[e1,e2];exact without_10 r h w e
   · have e1:wipe r={r with pv:=⟨0,0,0⟩,s:=⟨0,0,0⟩,t:=⟨0,0,0⟩,wr:=[]}:=by unfold wipe;simp[e]
     have e2:wipeH r.k h={h with b:=Hd.nil}:=by unfold wipeH;simp[e]
     rw[e1,e2];exact without_11 r h w e
   · have e1:wipe r={r with s:=⟨0,0,0⟩,pr:=[]}:=by unfold wipe;simp[e]
     have e2:wipeH r.k h={h with d:=Hd.nil}:=by unfold wipeH;simp[e]
     rw[e1,e2];exact without_12 r h w e
def rvers (key:ByteArray) (l:List Hs):List Vn:=match l.find? fun h=>h.key.toList==key.toList with|some h=>h.vs|none=>[]
theorem at_find (key:ByteArray):∀(l:List Hs) (k:Nat),(atFrom key k l<0∧(l.find? fun h=>h.key.toList==key.toList)=none)∨∃(i:Nat) (h:Hs),atFrom key k l=((k+i:Nat):Int)∧l[i]?=some h∧(l.find? fun h=>h.key.toList==key.toList)=some h:=by
 intro l
 induction l with
 |nil=>intro k;exact .inl ⟨by show (-1:Int)<0;omega,rfl⟩
 |cons a l ih=>
  intro k
  by_cases he:(a.key.toList==key.toList)=true
  · refine .inr ⟨0,a,?_,rfl,?_⟩
    · show (if a.key.toList==key.toList then (k:Int) else _)=_;rw[if_pos he];simp
    · rw[List.find?_cons,he]
  · have e1:atFrom key k (a::l)=atFrom key (k+1) l:=by show (if a.key.toList==key.toList then (k:Int) else _)=_;rw[if_neg he]
    have e2:(a.key.toList==key.toList)=false:=by simpa using he
    rw[e1,List.find?_cons,e2]
    rcases ih (k+1) with ⟨h1,h2⟩|⟨i,h,h1,h2,h3⟩
    · exact .inl ⟨h1,h2⟩
    · exact .inr ⟨i+1,h,by rw[h1];omega,h2,h3⟩
theorem at_vers (key:ByteArray) (l:List Hs):(atFrom key 0 l<0∧rvers key l=[])∨∃(i:Nat) (h:Hs),atFrom key 0 l=(i:Int)∧l[i]?=some h∧rvers key l=h.vs:=by
 unfold rvers
 rcases at_find key l 0 with ⟨h1,h2⟩|⟨i,h,h1,h2,h3⟩
 · exact .inl ⟨h1,by rw[h2]⟩
 · exact .inr ⟨i,h,by rw[h1];omega,h2,by rw[h3]⟩
theorem rupto_any (g:Nat) (B1 B2:Option Addr) (m1 d1 m2 d2:Nat) (L:Sp) (Hl:List Hs) (Pl:List Pn) (key:ByteArray) (s:Sp) (w:World) (h:RSt w g B1 m1 d1 B2 m2 d2 L Hl Pl):
 Calls Tryz.prog 233 #[.pointer (some ⟨g,0,none⟩),.string key,s.val,.bool true] w fun e w'=>e=.returned (.agg (seenArr key (lastV (rvers key Hl))))∧Below w.heap.size w w':=by
 have hm:=h.m1
 unfold maxLen at hm
 have hl:=h.hs.1
 have hX:Below w.heap.size w (((w.alloc (.cells s.arr 26)).alloc (.cells (seenArr ⟨#[]⟩ zeroVn) 104)).alloc (.cells (seenArr key zeroVn) 104)):=by go_grown
 have i8:Blk (((w.alloc (.cells s.arr 26)).alloc (.cells (seenArr ⟨#[]⟩ zeroVn) 104)).alloc (.cells (seenArr key zeroVn) 104)) (w.heap.size+1) 104 (seenArr ⟨#[]⟩ zeroVn):=(Blk.new' _ _ (by simp)).alloc _
 have i9:Blk (((w.alloc (.cells s.arr 26)).alloc (.cells (seenArr ⟨#[]⟩ zeroVn) 104)).alloc (.cells (seenArr key zeroVn) 104)) (w.heap.size+1+1) 104 (seenArr key zeroVn):=Blk.new' _ _ (by simp)
 have hA:=rat_any g B1 B2 m1 d1 m2 d2 L Hl Pl key _ (h.below hX)
 rcases at_vers key Hl with ⟨hneg,hv⟩|⟨i,hh,hat,hi,hv⟩
 · have HV:=Lib.hid hv
   clear hv hl
   generalize atFrom key 0 Hl=z at*
   have hz:decide (z<0)=true:=by simp;omega
   go_enter Tryz.func233,Tryz.ntmps233
   go_wp2_with (go_at_call 214;fail)
   refine hA.mono ?_
   rintro e w1 ⟨rfl,hb1⟩
   have b8:=i8.below hb1 i8.lt
   have b9:=i9.below hb1 i9.lt
   have hb:=hX.trans (hb1.mono hX.size)
   obtain⟨g9,x0,x1,x2,x3,x4,x5,x6⟩:=b9.sevenC
   have l8:=b8.lt
   go_wp2_with (refine wpList_store_row rfl 104 _ _ rfl _ _ rfl rfl _ _ b8 (by kernel_rfl) (by kernel_rfl) (by kernel_rfl) ?_)
   refine post_cell rfl (by rfl) (b8.setRow _) rfl rfl (by kernel_rfl) ?_
   rw[HV.out]
   exact⟨rfl,below_setRow hb (by omega) _⟩
 · have HV:=Lib.hid hv
   have hilt:i<m1:=by have:=(List.getElem?_eq_some_iff.1 hi).1;omega
   rw[hat]at hA
   have HI:=Lib.hid hi
   have hz:decide ((i:Int)<0)=false:=by simp
   have hi0:(0:Int)≤(i:Int):=by omega
   have hi1:(i:Int)<(m1:Int):=by omega
   clear hv hl hat hi
   go_enter Tryz.func233,Tryz.ntmps233
   go_wp2_with (go_at_call 214;fail)
   refine hA.mono ?_
   rintro e w1 ⟨rfl,hb1⟩
   have b8:=i8.below hb1 i8.lt
   have b9:=i9.below hb1 i9.lt
   have hb0:=hX.trans (hb1.mono hX.size)
   clear hb1 i8 i9 hX hA
   go_wp2
   go_loopw [11] (fun j wr=>NewestRel key hh.vs w j wr) (fun j _=>hh.vs.length-(intOf j).toNat)
   case atStart=>exact⟨0,by omega,rfl,b8,b9,hb0⟩
   case round=>
    clear b8 b9 hb0
    obtain⟨k,hk',rfl,b8,b9,hb⟩:=hrel
    have hzz:=hb.size
    have hr:=h.below hb
    obtain⟨gl,k0,k1',-,-,-⟩:=hr.blk.fiveC
    obtain⟨ad,a1,A',n',c',rfl,ha1,hbk,hok,d0,d1',hn',hc',hsv⟩:=hr.hist.hs hilt
    obtain rfl:hh=a1:=Option.some.inj (HI.out.symm.trans ha1)
    have hll:=hsv.1
    have hge:n'≤hh.vs.length:=by omega
    have hle:hh.vs.length≤n':=by omega
    unfold maxLen at hc'
    clear hll ha1
    by_cases hlt:k<n'
    · obtain⟨bd,a,rfl,ha,hbk2,hok2,c0,c1,c2,c3,c4,c5⟩:=hsv.vn hlt
      have hd1:decide ((k:Int)<(n':Int))=true:=by simp;omega
      have hk0:(0:Int)≤(k:Int):=by omega
      have hk1:(k:Int)<(n':Int):=by omega
      have HS:=Lib.hid (lastV_take ha)
      have b11:=Blk.new wr 160 #[.int .i64 a.s.w,.int .i64 a.s.l,.int .i64 a.s.n,.int .i64 a.v.k,.float .f64 a.v.n,.string a.v.t]
      have b9':=b9.alloc (.cells #[.int .i64 a.s.w,.int .i64 a.s.l,.int .i64 a.s.n,.int .i64 a.v.k,.float .f64 a.v.n,.string a.v.t] 160)
      have b8':=b8.alloc (.cells #[.int .i64 a.s.w,.int .i64 a.s.l,.int .i64 a.s.n,.int .i64 a.v.k,.float .f64 a.v.n,.string a.v.t] 160)
      have hb':=hb.alloc hzz (.cells #[.int .i64 a.s.w,.int .i64 a.s.l,.int .i64 a.s.n,.int .i64 a.v.k,.float .f64 a.v.n,.string a.v.t] 160)
      clear ha
      go_wp2
      generalize hg11:wr.heap.size=g11 at*
      generalize (wr.alloc (.cells #[.int .i64 a.s.w,.int .i64 a.s.l,.int .i64 a.s.n,.int .i64 a.v.k,.float .f64 a.v.n,.string a.v.t] 160))=wz at*
      obtain⟨l11,x0,x1,x2,x3,x4,x5⟩:=b11.six
      obtain⟨g9,y0,y1,y2,y3,y4,y5,y6⟩:=b9'.sevenC
      have ne9:g11≠w.heap.size+1+1:=by have:=b9.lt;omega
      have ne10:¬w.heap.size+1+1=g11:=fun e=>ne9 e.symm
      clear c0 c1 c2 c3 c4 c5
      refine wp_region_held_drew (S:=fun w'=>Blk w' g11 160 #[.int .i64 a.s.w,.int .i64 a.s.l,.int .i64 a.s.n,.int .i64 a.v.k,.float .f64 a.v.n,.string a.v.t]) (by kernel_rfl) b11 (fun hHeld=>?_)
      refine tk 0 53 (v:=.pointer (some ⟨g11,3,none⟩)) rfl (Or.inl ⟨by kernel_rfl,fun w hSw=>by clear hSw;go_simp⟩) hHeld ?_
      go_frame
      refine wpAnyH_take (i:=1) (oi:=⟨some 54,_,_,_,_,_⟩) rfl (by kernel_rfl) (by kernel_rfl) (by kernel_rfl) (fun _ _ _ h=>h) (yieldsIf_load_mid (by kernel_rfl) _ _ rfl g11 3 rfl [.int .i64 a.v.k,.float .f64 a.v.n,.string a.v.t] _ (fun w h=>h.range 3 _ (three_of rfl rfl rfl)) rfl rfl (by kernel_rfl)) hHeld ?_
      go_frame
      refine tk 2 55 (v:=.pointer (some ⟨g11,0,none⟩)) rfl (Or.inl ⟨by kernel_rfl,fun w hSw=>by clear hSw;go_simp⟩) hHeld ?_
      go_frame
      refine wpAnyH_take (i:=3) (oi:=⟨some 56,_,_,_,_,_⟩) rfl (by kernel_rfl) (by kernel_rfl) (by kernel_rfl) (fun _ _ _ h=>h) (yieldsIf_load_mid (by kernel_rfl) _ _ rfl g11 0 rfl [.int .i64 a.s.w,.int .i64 a.s.l,.int .i64 a.s.n] _ (fun w h=>h.range 0 _ (three_of rfl rfl rfl)) rfl rfl (by kernel_rfl)) hHeld ?_
      go_frame
      refine tk 4 57 (v:=.pointer (some ⟨w.heap.size+1+1,1,none⟩)) rfl (Or.inl ⟨by kernel_rfl,fun w hSw=>by clear hSw;go_simp⟩) hHeld ?_
      go_frame
      have b9a:=b9'.drew.setCells3 (x:=.int .i64 a.v.k) (y:=.float .f64 a.v.n) (z:=.string a.v.t)
      have b11a:=b11.drew.setCells3_far (o:=1) (x:=.int .i64 a.v.k) (y:=.float .f64 a.v.n) (z:=.string a.v.t) ne9
      have b8a:=b8'.drew.setCells3_far (b:=w.heap.size+1+1) (o:=1) (x:=.int .i64 a.v.k) (y:=.float .f64 a.v.n) (z:=.string a.v.t) (by omega)
      have hba:=below_setCells3 (b:=w.heap.size+1+1) (o:=1) (x:=.int .i64 a.v.k) (y:=.float .f64 a.v.n) (z:=.string a.v.t) hb'.drew (by omega)
      refine wpAnyH_store_mid (i:=5) (by kernel_rfl) rfl rfl _ _ _ rfl (w.heap.size+1+1) 1 #[.int .i64 a.v.k,.float .f64 a.v.n,.string a.v.t] rfl rfl (b9'.drew.there 1 3 (by simp)) (by kernel_rfl) (by kernel_rfl) b11a ?_
      go_frame
      generalize (wz.drew.setCells (w.heap.size+1+1) 1 [.int .i64 a.v.k,.float .f64 a.v.n,.string a.v.t])=wq at*
      refine tk 6 58 (v:=.pointer (some ⟨w.heap.size+1+1,4,none⟩)) rfl (Or.inl ⟨by kernel_rfl,fun w hSw=>by clear hSw;go_simp⟩) b11a ?_
      go_frame
      have b9c:=b9a.setCells3' (x:=.int .i64 a.s.w) (y:=.int .i64 a.s.l) (z:=.int .i64 a.s.n)
      have b11c:=b11a.setCells3_far (b:=w.heap.size+1+1) (o:=4) (x:=.int .i64 a.s.w) (y:=.int .i64 a.s.l) (z:=.int .i64 a.s.n) ne9
      have b8c:=b8a.setCells3_far (b:=w.heap.size+1+1) (o:=4) (x:=.int .i64 a.s.w) (y:=.int .i64 a.s.l) (z:=.int .i64 a.s.n) (by omega)
      have hbc:=below_setCells3 (b:=w.heap.size+1+1) (o:=4) (x:=.int .i64 a.s.w) (y:=.int .i64 a.s.l) (z:=.int .i64 a.s.n) hba (by omega)
      refine wpAnyH_store_mid (i:=7) (by kernel_rfl) rfl rfl _ _ _ rfl (w.heap.size+1+1) 4 #[.int .i64 a.s.w,.int .i64 a.s.l,.int .i64 a.s.n] rfl rfl (b9a.there 4 3 (by simp)) (by kernel_rfl) (by kernel_rfl) b11c ?_
      generalize (wq.setCells (w.heap.size+1+1) 4 [.int .i64 a.s.w,.int .i64 a.s.l,.int .i64 a.s.n])=wp at*
      refine td ?_
      go_frame
      go_wp2
      go_roundw
      case rel=>
       refine⟨k+1,by omega,by go_num,b8c,?_,hbc⟩
       rw[HS.out]
       exact b9c
      case measure=>simp[intOf];omega
    · have hd1:decide ((k:Int)<(n':Int))=false:=by simp;omega
      rw[List.take_of_length_le (by omega)]at b9
      obtain⟨g9,x0,x1,x2,x3,x4,x5,x6⟩:=b9.sevenC
      have l8:=b8.lt
      go_wp2_with (refine wpList_store_row rfl 104 _ _ rfl _ _ rfl rfl _ _ b8 (by kernel_rfl) (by kernel_rfl) (by kernel_rfl) ?_)
      refine post_cell rfl (by rfl) (b8.setRow _) rfl rfl (by kernel_rfl) ?_
      rw[HV.out]
      exact⟨rfl,below_setRow hb (by omega) _⟩
theorem rnewest_any (g:Nat) (B1 B2:Option Addr) (m1 d1 m2 d2:Nat) (L:Sp) (Hl:List Hs) (Pl:List Pn) (key:ByteArray) (w:World) (h:RSt w g B1 m1 d1 B2 m2 d2 L Hl Pl):
 Calls Tryz.prog 213 #[.pointer (some ⟨g,0,none⟩),.string key] w fun e w'=>e=.returned (.agg (seenArr key (lastV (rvers key Hl))))∧Below w.heap.size w w':=by
 have hX:Below w.heap.size w (w.alloc (.cells (seenArr ⟨#[]⟩ zeroVn) 104)):=by go_grown
 have i4:=Blk.new w 104 (seenArr ⟨#[]⟩ zeroVn)
 have hN:=rupto_any g B1 B2 m1 d1 m2 d2 L Hl Pl key ⟨0,0,0⟩ _ (h.below hX)
 go_enter Tryz.func213,Tryz.ntmps213
 go_wp2_with (go_at_call 233;fail)
 refine hN.mono ?_
 rintro e w1 ⟨rfl,hb⟩
 have j4:=i4.below hb i4.lt
 go_wp2_with (refine wpList_store_row rfl 104 _ _ rfl _ _ rfl rfl _ _ j4 (by kernel_rfl) (by kernel_rfl) (by kernel_rfl) ?_)
 refine post_cell rfl (by rfl) (j4.setRow _) rfl rfl (by kernel_rfl) ?_
 exact⟨rfl,below_setRow (hX.trans (hb.mono hX.size)) (by omega) _⟩
set_option maxHeartbeats 1000000
def LookPost (s:RS) (w:World):Ending→World→Prop:=fun e w'=>(∃q,w.drewN q=w')∧((s.e=0∧e=.returned (.tuple #[]))∨(s.e≠0∧e=stopP))
theorem look_any (w:World) (g:Nat) (A:Option Addr) (n c:Nat) (l:List UInt8) (s:RS) (gc:Nat) (h:CR w g A n c l s gc):
 Calls Tryz.prog 129 #[.pointer (some ⟨gc,0,none⟩)] w (LookPost s w):=by
 by_cases hs:s.e=0
 · refine(look_ok w g A n c l s gc h hs).mono ?_
   rintro e w1 ⟨rfl,hq⟩
   exact⟨hq,.inl ⟨hs,rfl⟩⟩
 · have c1:=cl (h.blk.cell 1)
   have hF:=wRFault g A n c l s w h.rd
   have hb:(s.e==0)=false:=by simp[hs]
   go_enter Tryz.func129,Tryz.ntmps129
   go_wp2_with ((with_reducible refine hF.mono ?_);rintro e w1 ⟨rfl,q,rfl⟩)
   exact⟨rfl,⟨q,rfl⟩,.inr ⟨hs,rfl⟩⟩
theorem laid {α:Type} {R:Rel α} {vs z:List Value} {x:α×RS} {w w1:World} {g:Nat} {A:Option Addr} {n c:Nat} {l:List UInt8} {s:RS} {gc b:Nat} {t:TypeId} {cs:Array Value} {i:Nat} (h:CR w g A n c l s gc) (D:Dst w A n g gc b t cs i z)
 (hr:Rd 153 w1 g A n c l x.2) (hg:w.grownBy w1 (some g)) (hR:∀(K:Nat→Bool) (W:World),Inn R K W vs x.1):
 CR (w1.setCells b i vs) g A n c l x.2 gc∧∀e w',LookPost x.2 (w1.setCells b i vs) e w'→RPost R vs.length w g A n c l gc b t cs i x e w':=by
 have hp:=grown_puts b vs w1 i
 have hc:=(h.read hr hg).laid hp D.ng D.nc D.ap
 have k1:Blk w1 b t cs:=D.blk.grown hg (by intro e;exact D.ng (by injection e))
 refine⟨hc,?_⟩
 rintro e w' ⟨⟨q,rfl⟩,h2⟩
 have hD:Below (w1.setCells b i vs).heap.size (w1.setCells b i vs) ((w1.setCells b i vs).drewN q):=belowN _
 have k2:=(k1.puts vs _ _ i).below hD (k1.puts vs _ _ i).lt
 refine⟨hc.below hD,((Two2.left hg b).trans (Two2.right hp g)).trans (Two2.ofBelow g b hD),?_⟩
 rcases h2 with ⟨he,rfl⟩|⟨he,rfl⟩
 · exact .inl ⟨he,rfl,vs,rfl,k2,hR _ _⟩
 · exact .inr ⟨he,rfl,_,put_size _ _ _,k2⟩
theorem rcInt:ElemR 81 NmRel 1 [.int .i64 0] rInt:=by
 intro w g A n c l s gc b t cs i h hs D
 have c0:=cl (h.blk.cell 0)
 have c1:=cl (h.blk.cell 1)
 go_enter Tryz.func81,Tryz.ntmps81
 go_wp2_with fail
 refine(wRInt g A n c l s w h.rd).mono ?_
 rintro e w1 ⟨rfl,hrd,hg⟩
 have k1:Blk w1 b t cs:=D.blk.grown hg (by intro e;exact D.ng (by injection e))
 have z1:w1.cell? ⟨b,i,none⟩=some (.int .i64 0):=(k1.cell i).trans (D.has 0 _ rfl)
 have f1:=k1.frozen i
 obtain⟨hc2,hP⟩:=laid (R:=NmRel) (vs:=[.int .i64 (rInt l s).1]) (x:=rInt l s) h D hrd hg (fun K W=>⟨rfl,rInt_ok l s⟩)
 go_wp2_with fail
 refine(look_any _ g A n c l _ gc hc2).mono ?_
 rintro e w2 ⟨⟨q,rfl⟩,⟨he,rfl⟩|⟨he,rfl⟩⟩
 · go_wp2
   go_end0
   exact hP _ _ ⟨⟨q,rfl⟩,.inl ⟨he,rfl⟩⟩
 · go_wp2
   exact⟨rfl,hP _ _ ⟨⟨q,rfl⟩,.inr ⟨he,rfl⟩⟩⟩
theorem rcFlag:ElemR 138 BoRel 1 [.bool false] rFlag:=by
 intro w g A n c l s gc b t cs i h hs D
 have c0:=cl (h.blk.cell 0)
 have c1:=cl (h.blk.cell 1)
 go_enter Tryz.func138,Tryz.ntmps138
 go_wp2_with fail
 refine(wRFlag g A n c l s w h.rd).mono ?_
 rintro e w1 ⟨rfl,hrd,hg⟩
 have k1:Blk w1 b t cs:=D.blk.grown hg (by intro e;exact D.ng (by injection e))
 have z1:w1.cell? ⟨b,i,none⟩=some (.bool false):=(k1.cell i).trans (D.has 0 _ rfl)
 have f1:=k1.frozen i
 obtain⟨hc2,hP⟩:=laid (R:=BoRel) (vs:=[.bool (rFlag l s).1]) (x:=rFlag l s) h D hrd hg (fun K W=>⟨rfl,trivial⟩)
 go_wp2_with fail
 refine(look_any _ g A n c l _ gc hc2).mono ?_
 rintro e w2 ⟨⟨q,rfl⟩,⟨he,rfl⟩|⟨he,rfl⟩⟩
 · go_wp2
   go_end0
   exact hP _ _ ⟨⟨q,rfl⟩,.inl ⟨he,rfl⟩⟩
 · go_wp2
   exact⟨rfl,hP _ _ ⟨⟨q,rfl⟩,.inr ⟨he,rfl⟩⟩⟩
theorem rcFloat:ElemR 187 FlRel 1 [.float .f64 0] rFloat:=by
 intro w g A n c l s gc b t cs i h hs D
 have c0:=cl (h.blk.cell 0)
 have c1:=cl (h.blk.cell 1)
 go_enter Tryz.func187,Tryz.ntmps187
 go_wp2_with fail
 refine(wRFloat g A n c l s w h.rd).mono ?_
 rintro e w1 ⟨rfl,hrd,hg⟩
 have k1:Blk w1 b t cs:=D.blk.grown hg (by intro e;exact D.ng (by injection e))
 have z1:w1.cell? ⟨b,i,none⟩=some (.float .f64 0):=(k1.cell i).trans (D.has 0 _ rfl)
 have f1:=k1.frozen i
 obtain⟨hc2,hP⟩:=laid (R:=FlRel) (vs:=[.float .f64 (rFloat l s).1]) (x:=rFloat l s) h D hrd hg (fun K W=>⟨rfl,rFloat_ok l s⟩)
 go_wp2_with fail
 refine(look_any _ g A n c l _ gc hc2).mono ?_
 rintro e w2 ⟨⟨q,rfl⟩,⟨he,rfl⟩|⟨he,rfl⟩⟩
 · go_wp2
   go_end0
   exact hP _ _ ⟨⟨q,rfl⟩,.inl ⟨he,rfl⟩⟩
 · go_wp2
   exact⟨rfl,hP _ _ ⟨⟨q,rfl⟩,.inr ⟨he,rfl⟩⟩⟩
theorem rcText:ElemR 132 KyRel 1 [.string ⟨#[]⟩] rKey:=by
 intro w g A n c l s gc b t cs i h hs D
 have c0:=cl (h.blk.cell 0)
 have c1:=cl (h.blk.cell 1)
 go_enter Tryz.func132,Tryz.ntmps132
 go_wp2_with fail
 refine(wRText g A n c l s 262144 w h.rd).mono ?_
 rintro e w1 ⟨rfl,hrd,hg⟩
 have k1:Blk w1 b t cs:=D.blk.grown hg (by intro e;exact D.ng (by injection e))
 have z1:w1.cell? ⟨b,i,none⟩=some (.string ⟨#[]⟩):=(k1.cell i).trans (D.has 0 _ rfl)
 have f1:=k1.frozen i
 obtain⟨hc2,hP⟩:=laid (R:=KyRel) (vs:=[.string (rKey l s).1]) (x:=rKey l s) h D hrd hg (fun K W=>⟨rfl,rKy_ok l s _ (by have:=h.rd.len;have:=h.rd.small;omega)⟩)
 go_wp2_with fail
 refine(look_any _ g A n c l _ gc hc2).mono ?_
 rintro e w2 ⟨⟨q,rfl⟩,⟨he,rfl⟩|⟨he,rfl⟩⟩
 · go_wp2
   go_end0
   exact hP _ _ ⟨⟨q,rfl⟩,.inl ⟨he,rfl⟩⟩
 · go_wp2
   exact⟨rfl,hP _ _ ⟨⟨q,rfl⟩,.inr ⟨he,rfl⟩⟩⟩
set_option maxHeartbeats 8000000
abbrev vArr (k:Int) (a:Nat) (t:ByteArray):Array Value:=#[.int .i64 k,.float .f64 a,.string t]
theorem dget (g:Nat) (A:Option Addr) (n c:Nat) (l:List UInt8) (s:RS) (w:World) (h:Rd 153 w g A n c l s):
 Calls Tryz.prog 195 #[.pointer (some ⟨g,0,none⟩)] w (RdPost 153 w g A n c l (rVl l s).1.val (rVl l s).2):=by
 have hb0:Below w.heap.size w (w.alloc (.cells (vArr 0 0 ⟨#[]⟩) 59)):=by go_grown
 have h0:=h.below hb0
 have gl:=h.blk.lt
 have B0:=Blk.new w 59 (vArr 0 0 ⟨#[]⟩)
 go_enter Tryz.func195,Tryz.ntmps195
 go_wp2_with fail
 refine(wRChoice g A n c l s 2 _ h0).mono ?_
 rintro e w1 ⟨rfl,h1,hg1⟩
 have B1:=B0.grown hg1 (by intro e;injection e with e;omega)
 have hg:=(below_grown hb0 (some g)).trans hg1
 have hs1:=hg.size
 have hgl1:g<w1.heap.size:=by omega
 have hbl1:=B1.lt
 have had:∀a,A=some a→0<n→a.block≠w1.heap.size:=fun a ha hn=>by
  obtain⟨ad,e,hlt,_⟩:=h.reads.2 hn
  rw[ha]at e
  obtain rfl:=Option.some.inj e
  omega
 have hX:Below w1.heap.size w1 (w1.alloc (.cells (vArr (rCount l s 2 4).1 0 ⟨#[]⟩) 59)):=by go_grown
 have hV:rVl l s=(if (rVl0 l s).2.e≠0 then (⟨0,0,⟨#[]⟩⟩,(rVl0 l s).2) else rVl0 l s):=rfl
 have hV0:rVl0 l s=if (rCount l s 2 4).1=1 then (⟨1,(rFloat l (rCount l s 2 4).2).1,⟨#[]⟩⟩,(rFloat l (rCount l s 2 4).2).2) else if (rCount l s 2 4).1=2 then (⟨2,0,(rKy 64 l (rCount l s 2 4).2).1⟩,(rKy 64 l (rCount l s 2 4).2).2) else (⟨(rCount l s 2 4).1,0,⟨#[]⟩⟩,(rCount l s 2 4).2):=rfl
 clear hg1 hb0 h0 B0
 generalize rVl l s=res at*
 generalize rVl0 l s=res0 at*
 generalize rCount l s 2 4=kd at*
 obtain⟨k,s1⟩:=kd
 simp only at*
 have h2:=h1.below hX
 have B2:=B1.below hX B1.lt
 have C2:=Blk.new w1 59 (vArr k 0 ⟨#[]⟩)
 have hg2:=hg.trans (below_grown hX (some g))
 have hgs:∀(W:World) (i:Nat) (u:Value),w.grownBy W (some g)→w.grownBy (W.setCell ⟨w1.heap.size,i,none⟩ u) (some g):=fun W i u hh=>⟨hh.os,hh.tape,hh.output,by have:=hh.size;simpa [World.setCell] using this,fun j hj hne=>(Below.heap_setCell W _ _ _ (by simp;omega)).trans (hh.block j hj hne)⟩
 have hgr:∀(W:World) (us:Array Value),w.grownBy W (some g)→w.grownBy (W.setRow w.heap.size us) (some g):=fun W us hh=>by
  have hb:=below_setRow (Below.refl w.heap.size W) (Nat.le_refl _) us
  exact⟨hb.os.trans hh.os,hb.tape.trans hh.tape,hb.output.trans hh.output,Nat.le_trans hh.size hb.size,fun j hj hne=>(hb.block j hj).trans (hh.block j hj hne)⟩
 clear hg hX B1 h1
 have HV:=Lib.hid hV
 clear hV
 by_cases hk1:k=1
 · subst hk1
   rw[if_pos rfl]at hV0
   have HV0:=Lib.hid hV0
   clear hV0
   go_wp2_with fail
   refine(wRFloat g A n c l s1 _ h2).mono ?_
   rintro e w3 ⟨rfl,h3,hg3⟩
   have B3:=B2.grown hg3 (by intro e;injection e with e;omega)
   have C3:=C2.grown hg3 (by intro e;injection e with e;omega)
   have z3:=cl (C3.cell 1)
   have f3:=C3.frozen 1
   have hg4:=hgs _ 1 (.float .f64 (rFloat l s1).1) (hg2.trans hg3)
   have h4:=h3.far (grown_set w3 w1.heap.size 1 (.float .f64 (rFloat l s1).1)) (by omega) had
   have B4:=B3.far (p:=⟨w1.heap.size,1,none⟩) (by simp;omega) (.float .f64 (rFloat l s1).1)
   have C4:=C3.set_ 1 (.float .f64 (rFloat l s1).1)
   generalize rFloat l s1=x at*
   clear C2 B2 h2 hg2 hg3 h3 hgs
   have hF:=wRFault g A n c l _ _ h4
   go_wp2_with fail
   refine hF.mono ?_
   rintro e w5 ⟨rfl,q,rfl⟩
   have hD:Below (w3.setCell ⟨w1.heap.size,1,none⟩ (.float .f64 x.1)).heap.size (w3.setCell ⟨w1.heap.size,1,none⟩ (.float .f64 x.1)) ((w3.setCell ⟨w1.heap.size,1,none⟩ (.float .f64 x.1)).drewN q):=belowN _
   have h5:=h4.below hD
   have B5:=B4.below hD B4.lt
   have C5:=C4.below hD C4.lt
   have hg5:=hg4.trans (below_grown hD (some g))
   clear h4 B4 C4 hg4 hD hF C3 B3 z3 f3
   generalize (w3.setCell ⟨w1.heap.size,1,none⟩ (.float .f64 x.1)).drewN q=W at*
   have C5':Blk W w1.heap.size 59 (vArr 1 x.1 ⟨#[]⟩):=C5
   by_cases he:x.2.e=0
   · have he1:(x.2.e==0)=true:=by simp[he]
     have HR:=Lib.hid (show res=(⟨1,x.1,⟨#[]⟩⟩,x.2) by have:=HV.out;rw[HV0.out]at this;rw[this,if_neg (by simp[he])])
     go_wp2_with (first
        |(guard_target=~ wpList _ _ _ _ _ _;refine wpList_load_row rfl 59 _ rfl w1.heap.size (by kernel_rfl) _ _ (0,0) _ C5' rfl rfl (by kernel_rfl) ?_)
        |(guard_target=~ wpList _ _ _ _ _ _;refine wpList_store_row rfl 59 _ _ rfl w.heap.size (vArr 1 x.1 ⟨#[]⟩) (by kernel_rfl) (by kernel_rfl) _ _ B5 (by kernel_rfl) (by kernel_rfl) (by kernel_rfl) ?_
          obtain⟨W6,hW6⟩:∃W6:World,W6=W.setRow w.heap.size (vArr 1 x.1 ⟨#[]⟩):=⟨_,rfl⟩
          rw[←hW6]
          have B6:Blk W6 w.heap.size 59 (vArr 1 x.1 ⟨#[]⟩):=by rw[hW6];exact B5.setRow _))
     have h6:Rd 153 W6 g A n c l x.2:=h.turn (by rw[hW6];exact h5.blk.setRow_far _ (by omega)) (by rw[hW6];exact hgr _ _ hg5) h5.at_le
     have hg6:w.grownBy W6 (some g):=by rw[hW6];exact hgr _ _ hg5
     rw[HR.out]
     exact post_cell rfl rfl B6 Tryz.underlying59 rfl (by kernel_rfl) ⟨rfl,h6,hg6⟩
   · have he1:(x.2.e==0)=false:=by simp[he]
     have HR:=Lib.hid (show res=(⟨0,0,⟨#[]⟩⟩,x.2) by have:=HV.out;rw[HV0.out]at this;rw[this,if_pos (by simp[he])])
     go_wp2_with (first
        |(guard_target=~ wpList _ _ _ _ _ _;refine wpList_load_row rfl 59 _ rfl w1.heap.size (by kernel_rfl) _ _ (0,0) _ C5' rfl rfl (by kernel_rfl) ?_)
        |(guard_target=~ wpList _ _ _ _ _ _;refine wpList_store_row rfl 59 _ _ rfl w.heap.size (vArr 0 0 ⟨#[]⟩) (by kernel_rfl) (by kernel_rfl) _ _ B5 (by kernel_rfl) (by kernel_rfl) (by kernel_rfl) ?_
          obtain⟨W6,hW6⟩:∃W6:World,W6=W.setRow w.heap.size (vArr 0 0 ⟨#[]⟩):=⟨_,rfl⟩
          rw[←hW6]
          have B6:Blk W6 w.heap.size 59 (vArr 0 0 ⟨#[]⟩):=by rw[hW6];exact B5.setRow _))
     have h6:Rd 153 W6 g A n c l x.2:=h.turn (by rw[hW6];exact h5.blk.setRow_far _ (by omega)) (by rw[hW6];exact hgr _ _ hg5) h5.at_le
     have hg6:w.grownBy W6 (some g):=by rw[hW6];exact hgr _ _ hg5
     rw[HR.out]
     exact post_cell rfl rfl B6 Tryz.underlying59 rfl (by kernel_rfl) ⟨rfl,h6,hg6⟩
 · rw[if_neg hk1]at hV0
   have k1:(k==1)=false:=by simp[hk1]
   by_cases hk2:k=2
   · subst hk2
     rw[if_pos rfl]at hV0
     replace hV0:res0=(⟨2,0,⟨(rText l s1 64).1.toArray⟩⟩,(rText l s1 64).2):=hV0
     have HV0:=Lib.hid hV0
     clear hV0
     go_wp2_with fail
     refine(wRText g A n c l s1 64 _ h2).mono ?_
     rintro e w3 ⟨rfl,h3,hg3⟩
     have B3:=B2.grown hg3 (by intro e;injection e with e;omega)
     have C3:=C2.grown hg3 (by intro e;injection e with e;omega)
     have z3:=cl (C3.cell 2)
     have f3:=C3.frozen 2
     have hg4:=hgs _ 2 (.string ⟨(rText l s1 64).1.toArray⟩) (hg2.trans hg3)
     have h4:=h3.far (grown_set w3 w1.heap.size 2 (.string ⟨(rText l s1 64).1.toArray⟩)) (by omega) had
     have B4:=B3.far (p:=⟨w1.heap.size,2,none⟩) (by simp;omega) (.string ⟨(rText l s1 64).1.toArray⟩)
     have C4:=C3.set_ 2 (.string ⟨(rText l s1 64).1.toArray⟩)
     generalize rText l s1 64=x at*
     clear C2 B2 h2 hg2 hg3 h3 hgs
     have hF:=wRFault g A n c l _ _ h4
     go_wp2_with fail
     refine hF.mono ?_
     rintro e w5 ⟨rfl,q,rfl⟩
     have hD:Below (w3.setCell ⟨w1.heap.size,2,none⟩ (.string ⟨x.1.toArray⟩)).heap.size (w3.setCell ⟨w1.heap.size,2,none⟩ (.string ⟨x.1.toArray⟩)) ((w3.setCell ⟨w1.heap.size,2,none⟩ (.string ⟨x.1.toArray⟩)).drewN q):=belowN _
     have h5:=h4.below hD
     have B5:=B4.below hD B4.lt
     have C5:=C4.below hD C4.lt
     have hg5:=hg4.trans (below_grown hD (some g))
     clear h4 B4 C4 hg4 hD hF C3 B3 z3 f3
     generalize (w3.setCell ⟨w1.heap.size,2,none⟩ (.string ⟨x.1.toArray⟩)).drewN q=W at*
     have C5':Blk W w1.heap.size 59 (vArr 2 0 ⟨x.1.toArray⟩):=C5
     by_cases he:x.2.e=0
     · have he1:(x.2.e==0)=true:=by simp[he]
       have HR:=Lib.hid (show res=(⟨2,0,⟨x.1.toArray⟩⟩,x.2) by have:=HV.out;rw[HV0.out]at this;rw[this,if_neg (by simp[he])])
       go_wp2_with (first
        |(guard_target=~ wpList _ _ _ _ _ _;refine wpList_load_row rfl 59 _ rfl w1.heap.size (by kernel_rfl) _ _ (0,0) _ C5' rfl rfl (by kernel_rfl) ?_)
        |(guard_target=~ wpList _ _ _ _ _ _;refine wpList_store_row rfl 59 _ _ rfl w.heap.size (vArr 2 0 ⟨x.1.toArray⟩) (by kernel_rfl) (by kernel_rfl) _ _ B5 (by kernel_rfl) (by kernel_rfl) (by kernel_rfl) ?_
          obtain⟨W6,hW6⟩:∃W6:World,W6=W.setRow w.heap.size (vArr 2 0 ⟨x.1.toArray⟩):=⟨_,rfl⟩
          rw[←hW6]
          have B6:Blk W6 w.heap.size 59 (vArr 2 0 ⟨x.1.toArray⟩):=by rw[hW6];exact B5.setRow _))
       have h6:Rd 153 W6 g A n c l x.2:=h.turn (by rw[hW6];exact h5.blk.setRow_far _ (by omega)) (by rw[hW6];exact hgr _ _ hg5) h5.at_le
       have hg6:w.grownBy W6 (some g):=by rw[hW6];exact hgr _ _ hg5
       rw[HR.out]
       exact post_cell rfl rfl B6 Tryz.underlying59 rfl (by kernel_rfl) ⟨rfl,h6,hg6⟩
     · have he1:(x.2.e==0)=false:=by simp[he]
       have HR:=Lib.hid (show res=(⟨0,0,⟨#[]⟩⟩,x.2) by have:=HV.out;rw[HV0.out]at this;rw[this,if_pos (by simp[he])])
       go_wp2_with (first
        |(guard_target=~ wpList _ _ _ _ _ _;refine wpList_load_row rfl 59 _ rfl w1.heap.size (by kernel_rfl) _ _ (0,0) _ C5' rfl rfl (by kernel_rfl) ?_)
        |(guard_target=~ wpList _ _ _ _ _ _;refine wpList_store_row rfl 59 _ _ rfl w.heap.size (vArr 0 0 ⟨#[]⟩) (by kernel_rfl) (by kernel_rfl) _ _ B5 (by kernel_rfl) (by kernel_rfl) (by kernel_rfl) ?_
          obtain⟨W6,hW6⟩:∃W6:World,W6=W.setRow w.heap.size (vArr 0 0 ⟨#[]⟩):=⟨_,rfl⟩
          rw[←hW6]
          have B6:Blk W6 w.heap.size 59 (vArr 0 0 ⟨#[]⟩):=by rw[hW6];exact B5.setRow _))
       have h6:Rd 153 W6 g A n c l x.2:=h.turn (by rw[hW6];exact h5.blk.setRow_far _ (by omega)) (by rw[hW6];exact hgr _ _ hg5) h5.at_le
       have hg6:w.grownBy W6 (some g):=by rw[hW6];exact hgr _ _ hg5
       rw[HR.out]
       exact post_cell rfl rfl B6 Tryz.underlying59 rfl (by kernel_rfl) ⟨rfl,h6,hg6⟩
   · rw[if_neg hk2]at hV0
     have k2:(k==2)=false:=by simp[hk2]
     obtain⟨x,hx⟩:∃x:Nat×RS,x=(0,s1):=⟨_,rfl⟩
     obtain rfl:s1=x.2:=by rw[hx]
     have HV0:=Lib.hid hV0
     clear hV0 hgs hx
     have hF:=wRFault g A n c l _ _ h2
     go_wp2_with fail
     refine hF.mono ?_
     rintro e w5 ⟨rfl,q,rfl⟩
     have hD:Below (w1.alloc (.cells (vArr k 0 ⟨#[]⟩) 59)).heap.size (w1.alloc (.cells (vArr k 0 ⟨#[]⟩) 59)) ((w1.alloc (.cells (vArr k 0 ⟨#[]⟩) 59)).drewN q):=belowN _
     have h5:=h2.below hD
     have B5:=B2.below hD B2.lt
     have C5:=C2.below hD C2.lt
     have hg5:=hg2.trans (below_grown hD (some g))
     clear h2 B2 C2 hg2 hD hF
     generalize (w1.alloc (.cells (vArr k 0 ⟨#[]⟩) 59)).drewN q=W at*
     have C5':Blk W w1.heap.size 59 (vArr k 0 ⟨#[]⟩):=C5
     by_cases he:x.2.e=0
     · have he1:(x.2.e==0)=true:=by simp[he]
       have HR:=Lib.hid (show res=(⟨k,0,⟨#[]⟩⟩,x.2) by have:=HV.out;rw[HV0.out]at this;rw[this,if_neg (by simp[he])])
       go_wp2_with (first
        |(guard_target=~ wpList _ _ _ _ _ _;refine wpList_load_row rfl 59 _ rfl w1.heap.size (by kernel_rfl) _ _ (0,0) _ C5' rfl rfl (by kernel_rfl) ?_)
        |(guard_target=~ wpList _ _ _ _ _ _;refine wpList_store_row rfl 59 _ _ rfl w.heap.size (vArr k 0 ⟨#[]⟩) (by kernel_rfl) (by kernel_rfl) _ _ B5 (by kernel_rfl) (by kernel_rfl) (by kernel_rfl) ?_
          obtain⟨W6,hW6⟩:∃W6:World,W6=W.setRow w.heap.size (vArr k 0 ⟨#[]⟩):=⟨_,rfl⟩
          rw[←hW6]
          have B6:Blk W6 w.heap.size 59 (vArr k 0 ⟨#[]⟩):=by rw[hW6];exact B5.setRow _))
       have h6:Rd 153 W6 g A n c l x.2:=h.turn (by rw[hW6];exact h5.blk.setRow_far _ (by omega)) (by rw[hW6];exact hgr _ _ hg5) h5.at_le
       have hg6:w.grownBy W6 (some g):=by rw[hW6];exact hgr _ _ hg5
       rw[HR.out]
       exact post_cell rfl rfl B6 Tryz.underlying59 rfl (by kernel_rfl) ⟨rfl,h6,hg6⟩
     · have he1:(x.2.e==0)=false:=by simp[he]
       have HR:=Lib.hid (show res=(⟨0,0,⟨#[]⟩⟩,x.2) by have:=HV.out;rw[HV0.out]at this;rw[this,if_pos (by simp[he])])
       go_wp2_with (first
        |(guard_target=~ wpList _ _ _ _ _ _;refine wpList_load_row rfl 59 _ rfl w1.heap.size (by kernel_rfl) _ _ (0,0) _ C5' rfl rfl (by kernel_rfl) ?_)
        |(guard_target=~ wpList _ _ _ _ _ _;refine wpList_store_row rfl 59 _ _ rfl w.heap.size (vArr 0 0 ⟨#[]⟩) (by kernel_rfl) (by kernel_rfl) _ _ B5 (by kernel_rfl) (by kernel_rfl) (by kernel_rfl) ?_
          obtain⟨W6,hW6⟩:∃W6:World,W6=W.setRow w.heap.size (vArr 0 0 ⟨#[]⟩):=⟨_,rfl⟩
          rw[←hW6]
          have B6:Blk W6 w.heap.size 59 (vArr 0 0 ⟨#[]⟩):=by rw[hW6];exact B5.setRow _))
       have h6:Rd 153 W6 g A n c l x.2:=h.turn (by rw[hW6];exact h5.blk.setRow_far _ (by omega)) (by rw[hW6];exact hgr _ _ hg5) h5.at_le
       have hg6:w.grownBy W6 (some g):=by rw[hW6];exact hgr _ _ hg5
       rw[HR.out]
       exact post_cell rfl rfl B6 Tryz.underlying59 rfl (by kernel_rfl) ⟨rfl,h6,hg6⟩
theorem rcValue:ElemR 146 VlRel 3 [.int .i64 0,.float .f64 0,.string ⟨#[]⟩] rVl:=by
 intro w g A n c l s gc b t cs i h hs D
 have c0:=cl (h.blk.cell 0)
 have c1:=cl (h.blk.cell 1)
 go_enter Tryz.func146,Tryz.ntmps146
 go_wp2_with fail
 refine(dget g A n c l s w h.rd).mono ?_
 rintro e w1 ⟨rfl,hrd,hg⟩
 have k1:Blk w1 b t cs:=D.blk.grown hg (by intro e;exact D.ng (by injection e))
 have hth:=k1.there i 3 (by have:=(Array.getElem?_eq_some_iff.1 (D.has 2 _ rfl)).1;omega)
 obtain⟨hc2,hP⟩:=laid (R:=VlRel) (vs:=(rVl l s).1.cells) (x:=rVl l s) h D hrd hg (fun K W=>⟨rfl,rVl_ok l s (by have:=h.rd.len;have:=h.rd.small;omega)⟩)
 go_wp2_with (first
  |(guard_target=~ wpList _ _ _ _ _ _;refine wpList_store_mid rfl _ _ _ rfl b i (vArr (rVl l s).1.k (rVl l s).1.n (rVl l s).1.t) rfl rfl hth (by kernel_rfl) (by kernel_rfl) ?_)
  |fail)
 refine(look_any _ g A n c l _ gc hc2).mono ?_
 rintro e w2 ⟨⟨q,rfl⟩,⟨he,rfl⟩|⟨he,rfl⟩⟩
 · go_wp2
   go_end0
   exact hP _ _ ⟨⟨q,rfl⟩,.inl ⟨he,rfl⟩⟩
 · go_wp2
   exact⟨rfl,hP _ _ ⟨⟨q,rfl⟩,.inr ⟨he,rfl⟩⟩⟩
set_option maxHeartbeats 2000000
theorem rcStamp:ElemR 84 SpRel 3 ([.int .i64 0]++([.int .i64 0]++([.int .i64 0]))) rSp:=by
 intro w g A n c l s gc b t cs i h hs D
 have gl:=h.rd.blk.lt
 have bl:=D.blk.lt
 go_enter Tryz.func84,Tryz.ntmps84
 go_wp2_with fail
 refine(rcInt w g A n c l s gc b t cs i h hs D.fst).mono ?_
 rintro e w1 ⟨h1,t1,⟨e1,rfl,v1,l1,k1,n1⟩|⟨e1,rfl,cs1,l1,k1⟩⟩
 rotate_left
 · go_wp2
   exact⟨rfl,RPost.bad (s':=(rInt l s).2) ((rTwo_stk (mk:=fun _ _=>()) rInt_stk rInt_stk) l _ e1) e1 h1 t1 l1 k1⟩
 have D1:=D.nxt k1 l1 rfl (i+1) rfl
 clear k1
 go_wp2_with fail
 refine(rcInt w1 g A n c l (rInt l s).2 gc b t _ (i+1) h1 e1 D1.fst).mono ?_
 rintro e w2 ⟨h2,t2,⟨e2,rfl,v2,l2,k2,n2⟩|⟨e2,rfl,cs2,l2,k2⟩⟩
 rotate_left
 · go_wp2
   exact⟨rfl,RPost.bad (s':=(rInt l (rInt l s).2).2) (rInt_stk l _ e2) e2 h2 (t1.trans t2) (l2.trans (put_size _ _ _)) k2⟩
 have D2:=D1.nxt k2 l2 rfl (i+2) (by omega)
 clear k2
 go_wp2_with fail
 refine(rcInt w2 g A n c l (rInt l (rInt l s).2).2 gc b t _ (i+2) h2 e2 D2).mono ?_
 rintro e w3 ⟨h3,t3,⟨e3,rfl,v3,l3,k3,n3⟩|⟨e3,rfl,cs3,l3,k3⟩⟩
 rotate_left
 · go_wp2
   exact⟨rfl,RPost.bad (s':=(rInt l (rInt l (rInt l s).2).2).2) rfl e3 h3 ((t1.trans t2).trans t3) (l3.trans ((put_size _ _ _).trans (put_size _ _ _))) k3⟩
 go_wp2
 go_end0
 refine⟨h3,((t1.trans t2).trans t3),.inl ⟨e3,rfl,v1++(v2++(v3)),by simp only[List.length_append,l1,l2,l3],?_,?_⟩⟩
 · rw[put_app,l1,put_app,l2]
   exact k3
 · obtain⟨rfl,o1⟩:=n1
   obtain⟨rfl,o2⟩:=n2
   obtain⟨rfl,o3⟩:=n3
   exact⟨rfl,o1,o2,o3⟩
theorem rcTxn:ElemR 82 TxRel 3 ([.int .i64 0]++([.int .i64 0]++([.int .i64 0]))) rTx:=by
 intro w g A n c l s gc b t cs i h hs D
 have gl:=h.rd.blk.lt
 have bl:=D.blk.lt
 go_enter Tryz.func82,Tryz.ntmps82
 go_wp2_with fail
 refine(rcInt w g A n c l s gc b t cs i h hs D.fst).mono ?_
 rintro e w1 ⟨h1,t1,⟨e1,rfl,v1,l1,k1,n1⟩|⟨e1,rfl,cs1,l1,k1⟩⟩
 rotate_left
 · go_wp2
   exact⟨rfl,RPost.bad (s':=(rInt l s).2) ((rTwo_stk (mk:=fun _ _=>()) rInt_stk rInt_stk) l _ e1) e1 h1 t1 l1 k1⟩
 have D1:=D.nxt k1 l1 rfl (i+1) rfl
 clear k1
 go_wp2_with fail
 refine(rcInt w1 g A n c l (rInt l s).2 gc b t _ (i+1) h1 e1 D1.fst).mono ?_
 rintro e w2 ⟨h2,t2,⟨e2,rfl,v2,l2,k2,n2⟩|⟨e2,rfl,cs2,l2,k2⟩⟩
 rotate_left
 · go_wp2
   exact⟨rfl,RPost.bad (s':=(rInt l (rInt l s).2).2) (rInt_stk l _ e2) e2 h2 (t1.trans t2) (l2.trans (put_size _ _ _)) k2⟩
 have D2:=D1.nxt k2 l2 rfl (i+2) (by omega)
 clear k2
 go_wp2_with fail
 refine(rcInt w2 g A n c l (rInt l (rInt l s).2).2 gc b t _ (i+2) h2 e2 D2).mono ?_
 rintro e w3 ⟨h3,t3,⟨e3,rfl,v3,l3,k3,n3⟩|⟨e3,rfl,cs3,l3,k3⟩⟩
 rotate_left
 · go_wp2
   exact⟨rfl,RPost.bad (s':=(rInt l (rInt l (rInt l s).2).2).2) rfl e3 h3 ((t1.trans t2).trans t3) (l3.trans ((put_size _ _ _).trans (put_size _ _ _))) k3⟩
 go_wp2
 go_end0
 refine⟨h3,((t1.trans t2).trans t3),.inl ⟨e3,rfl,v1++(v2++(v3)),by simp only[List.length_append,l1,l2,l3],?_,?_⟩⟩
 · rw[put_app,l1,put_app,l2]
   exact k3
 · obtain⟨rfl,o1⟩:=n1
   obtain⟨rfl,o2⟩:=n2
   obtain⟨rfl,o3⟩:=n3
   exact⟨rfl,o1,o2,o3⟩
theorem rcWrite:ElemR 90 WtRel 4 ([.string ⟨#[]⟩]++([.int .i64 0,.float .f64 0,.string ⟨#[]⟩])) rWt:=by
 intro w g A n c l s gc b t cs i h hs D
 have gl:=h.rd.blk.lt
 have bl:=D.blk.lt
 go_enter Tryz.func90,Tryz.ntmps90
 go_wp2_with fail
 refine(rcText w g A n c l s gc b t cs i h hs D.fst).mono ?_
 rintro e w1 ⟨h1,t1,⟨e1,rfl,v1,l1,k1,n1⟩|⟨e1,rfl,cs1,l1,k1⟩⟩
 rotate_left
 · go_wp2
   exact⟨rfl,RPost.bad (s':=(rKey l s).2) (rVl_stk l _ e1) e1 h1 t1 l1 k1⟩
 have D1:=D.nxt k1 l1 rfl (i+1) rfl
 clear k1
 go_wp2_with fail
 refine(rcValue w1 g A n c l (rKey l s).2 gc b t _ (i+1) h1 e1 D1).mono ?_
 rintro e w2 ⟨h2,t2,⟨e2,rfl,v2,l2,k2,n2⟩|⟨e2,rfl,cs2,l2,k2⟩⟩
 rotate_left
 · go_wp2
   exact⟨rfl,RPost.bad (s':=(rVl l (rKey l s).2).2) rfl e2 h2 (t1.trans t2) (l2.trans (put_size _ _ _)) k2⟩
 go_wp2
 go_end0
 refine⟨h2,(t1.trans t2),.inl ⟨e2,rfl,v1++(v2),by simp only[List.length_append,l1,l2],?_,?_⟩⟩
 · rw[put_app,l1]
   exact k2
 · obtain⟨rfl,o1⟩:=n1
   obtain⟨rfl,o2⟩:=n2
   exact⟨rfl,o1,o2⟩
theorem rcPair:ElemR 201 WtRel 4 ([.string ⟨#[]⟩]++([.int .i64 0,.float .f64 0,.string ⟨#[]⟩])) rWt:=by
 intro w g A n c l s gc b t cs i h hs D
 have gl:=h.rd.blk.lt
 have bl:=D.blk.lt
 go_enter Tryz.func201,Tryz.ntmps201
 go_wp2_with fail
 refine(rcText w g A n c l s gc b t cs i h hs D.fst).mono ?_
 rintro e w1 ⟨h1,t1,⟨e1,rfl,v1,l1,k1,n1⟩|⟨e1,rfl,cs1,l1,k1⟩⟩
 rotate_left
 · go_wp2
   exact⟨rfl,RPost.bad (s':=(rKey l s).2) (rVl_stk l _ e1) e1 h1 t1 l1 k1⟩
 have D1:=D.nxt k1 l1 rfl (i+1) rfl
 clear k1
 go_wp2_with fail
 refine(rcValue w1 g A n c l (rKey l s).2 gc b t _ (i+1) h1 e1 D1).mono ?_
 rintro e w2 ⟨h2,t2,⟨e2,rfl,v2,l2,k2,n2⟩|⟨e2,rfl,cs2,l2,k2⟩⟩
 rotate_left
 · go_wp2
   exact⟨rfl,RPost.bad (s':=(rVl l (rKey l s).2).2) rfl e2 h2 (t1.trans t2) (l2.trans (put_size _ _ _)) k2⟩
 go_wp2
 go_end0
 refine⟨h2,(t1.trans t2),.inl ⟨e2,rfl,v1++(v2),by simp only[List.length_append,l1,l2],?_,?_⟩⟩
 · rw[put_app,l1]
   exact k2
 · obtain⟨rfl,o1⟩:=n1
   obtain⟨rfl,o2⟩:=n2
   exact⟨rfl,o1,o2⟩
theorem rcVersion:ElemR 193 VnRel 6 ([.int .i64 0,.int .i64 0,.int .i64 0]++([.int .i64 0,.float .f64 0,.string ⟨#[]⟩])) rVn:=by
 intro w g A n c l s gc b t cs i h hs D
 have gl:=h.rd.blk.lt
 have bl:=D.blk.lt
 go_enter Tryz.func193,Tryz.ntmps193
 go_wp2_with fail
 refine(rcStamp w g A n c l s gc b t cs i h hs D.fst).mono ?_
 rintro e w1 ⟨h1,t1,⟨e1,rfl,v1,l1,k1,n1⟩|⟨e1,rfl,cs1,l1,k1⟩⟩
 rotate_left
 · go_wp2
   exact⟨rfl,RPost.bad (s':=(rSp l s).2) (rVl_stk l _ e1) e1 h1 t1 l1 k1⟩
 have D1:=D.nxt k1 l1 rfl (i+3) rfl
 clear k1
 go_wp2_with fail
 refine(rcValue w1 g A n c l (rSp l s).2 gc b t _ (i+3) h1 e1 D1).mono ?_
 rintro e w2 ⟨h2,t2,⟨e2,rfl,v2,l2,k2,n2⟩|⟨e2,rfl,cs2,l2,k2⟩⟩
 rotate_left
 · go_wp2
   exact⟨rfl,RPost.bad (s':=(rVl l (rSp l s).2).2) rfl e2 h2 (t1.trans t2) (l2.trans (put_size _ _ _)) k2⟩
 go_wp2
 go_end0
 refine⟨h2,(t1.trans t2),.inl ⟨e2,rfl,v1++(v2),by simp only[List.length_append,l1,l2],?_,?_⟩⟩
 · rw[put_app,l1]
   exact k2
 · obtain⟨rfl,o1⟩:=n1
   obtain⟨rfl,o2⟩:=n2
   exact⟨rfl,o1,o2⟩
theorem rcRange:ElemR 136 RgRel 4 ([.int .i64 0]++([.int .i64 0]++([.float .f64 0]++([.float .f64 0])))) rRg:=by
 intro w g A n c l s gc b t cs i h hs D
 have gl:=h.rd.blk.lt
 have bl:=D.blk.lt
 go_enter Tryz.func136,Tryz.ntmps136
 go_wp2_with fail
 refine(rcInt w g A n c l s gc b t cs i h hs D.fst).mono ?_
 rintro e w1 ⟨h1,t1,⟨e1,rfl,v1,l1,k1,n1⟩|⟨e1,rfl,cs1,l1,k1⟩⟩
 rotate_left
 · go_wp2
   exact⟨rfl,RPost.bad (s':=(rInt l s).2) ((rTwo_stk (mk:=fun _ _=>()) (rTwo_stk (mk:=fun _ _=>()) rInt_stk rFloat_stk) rFloat_stk) l _ e1) e1 h1 t1 l1 k1⟩
 have D1:=D.nxt k1 l1 rfl (i+1) rfl
 clear k1
 go_wp2_with fail
 refine(rcInt w1 g A n c l (rInt l s).2 gc b t _ (i+1) h1 e1 D1.fst).mono ?_
 rintro e w2 ⟨h2,t2,⟨e2,rfl,v2,l2,k2,n2⟩|⟨e2,rfl,cs2,l2,k2⟩⟩
 rotate_left
 · go_wp2
   exact⟨rfl,RPost.bad (s':=(rInt l (rInt l s).2).2) ((rTwo_stk (mk:=fun _ _=>()) rFloat_stk rFloat_stk) l _ e2) e2 h2 (t1.trans t2) (l2.trans (put_size _ _ _)) k2⟩
 have D2:=D1.nxt k2 l2 rfl (i+2) (by omega)
 clear k2
 go_wp2_with fail
 refine(rcFloat w2 g A n c l (rInt l (rInt l s).2).2 gc b t _ (i+2) h2 e2 D2.fst).mono ?_
 rintro e w3 ⟨h3,t3,⟨e3,rfl,v3,l3,k3,n3⟩|⟨e3,rfl,cs3,l3,k3⟩⟩
 rotate_left
 · go_wp2
   exact⟨rfl,RPost.bad (s':=(rFloat l (rInt l (rInt l s).2).2).2) (rFloat_stk l _ e3) e3 h3 ((t1.trans t2).trans t3) (l3.trans ((put_size _ _ _).trans (put_size _ _ _))) k3⟩
 have D3:=D2.nxt k3 l3 rfl (i+3) (by omega)
 clear k3
 go_wp2_with fail
 refine(rcFloat w3 g A n c l (rFloat l (rInt l (rInt l s).2).2).2 gc b t _ (i+3) h3 e3 D3).mono ?_
 rintro e w4 ⟨h4,t4,⟨e4,rfl,v4,l4,k4,n4⟩|⟨e4,rfl,cs4,l4,k4⟩⟩
 rotate_left
 · go_wp2
   exact⟨rfl,RPost.bad (s':=(rFloat l (rFloat l (rInt l (rInt l s).2).2).2).2) rfl e4 h4 (((t1.trans t2).trans t3).trans t4) (l4.trans ((put_size _ _ _).trans ((put_size _ _ _).trans (put_size _ _ _)))) k4⟩
 go_wp2
 go_end0
 refine⟨h4,(((t1.trans t2).trans t3).trans t4),.inl ⟨e4,rfl,v1++(v2++(v3++(v4))),by simp only[List.length_append,l1,l2,l3,l4],?_,?_⟩⟩
 · rw[put_app,l1,put_app,l2,put_app,l3]
   exact k4
 · obtain⟨rfl,o1⟩:=n1
   obtain⟨rfl,o2⟩:=n2
   obtain⟨rfl,o3⟩:=n3
   obtain⟨rfl,o4⟩:=n4
   exact⟨rfl,o1,o2,o3,o4⟩
set_option maxHeartbeats 4000000
theorem hists_nil (A:Option Addr) (n c:Nat) (w:World):Calls Tryz.prog 79 #[.slice A n c,.slice none 0 0] w fun e w'=>e=.returned (.bool ((n:Int)==0))∧w=w':=by
 by_cases hn:n=0
 · subst hn
   go_enter Tryz.func79,Tryz.ntmps79
   go_wp2
   go_loopw [5] (fun i wr=>i=.int .i64 0∧w=wr) (fun _ _=>0)
   case atStart=>exact⟨rfl,rfl⟩
   case round=>
    obtain⟨rfl,rfl⟩:=hrel
    go_wp2
    go_ret
    exact⟨rfl,rfl⟩
 · have hb0:((n:Int) !=(0:Int))=true:=by simp;omega
   have hb1:((n:Int)==(0:Int))=false:=by simp;omega
   rw[hb1]
   go_enter Tryz.func79,Tryz.ntmps79
   go_wp2
   go_ret
   exact⟨rfl,rfl⟩
theorem pends_nil (A:Option Addr) (n c:Nat) (w:World):Calls Tryz.prog 80 #[.slice A n c,.slice none 0 0] w fun e w'=>e=.returned (.bool ((n:Int)==0))∧w=w':=by
 by_cases hn:n=0
 · subst hn
   go_enter Tryz.func80,Tryz.ntmps80
   go_wp2
   go_loopw [5] (fun i wr=>i=.int .i64 0∧w=wr) (fun _ _=>0)
   case atStart=>exact⟨rfl,rfl⟩
   case round=>
    obtain⟨rfl,rfl⟩:=hrel
    go_wp2
    go_ret
    exact⟨rfl,rfl⟩
 · have hb0:((n:Int) !=(0:Int))=true:=by simp;omega
   have hb1:((n:Int)==(0:Int))=false:=by simp;omega
   rw[hb1]
   go_enter Tryz.func80,Tryz.ntmps80
   go_wp2
   go_ret
   exact⟨rfl,rfl⟩
theorem stateZ_any (s:Stt) (A1 A2:Option Addr) (n1 n2 c1 c2:Nat) (w:World) (h1:s.h.length=n1) (h2:s.p.length=n2):
 Calls Tryz.prog 40 #[.agg (s.arr (.slice A1 n1 c1) (.slice A2 n2 c2)),.agg (zeroCells)] w fun e w'=>e=.returned (.bool s.zeroB)∧Below w.heap.size w w':=by
 have hR:=fun w=>range_any s.r ⟨0,0,0,0⟩ w
 have z1:=fun w=>zero_run s.f w
 have z2:=fun w=>zero_run s.c w
 have hH:=fun w=>hists_nil A1 n1 c1 w
 have hP:=fun w=>pends_nil A2 n2 c2 w
 have HZ:=Lib.hid (show s.zeroB=(s.r.same ⟨0,0,0,0⟩&&s.f.zero&&s.c.zero&&((n1:Int)==0)&&((n2:Int)==0)) by unfold Stt.zeroB;rw[h1,h2];rfl)
 clear h1 h2
 have hX:Below w.heap.size w ((w.alloc (.cells (s.arr (.slice A1 n1 c1) (.slice A2 n2 c2)) 39)).alloc (.cells (zeroCells) 39)):=by go_grown
 have i2:Blk ((w.alloc (.cells (s.arr (.slice A1 n1 c1) (.slice A2 n2 c2)) 39)).alloc (.cells (zeroCells) 39)) w.heap.size 39 (s.arr (.slice A1 n1 c1) (.slice A2 n2 c2)):=(Blk.new _ _ _).alloc _
 have i3:Blk ((w.alloc (.cells (s.arr (.slice A1 n1 c1) (.slice A2 n2 c2)) 39)).alloc (.cells (zeroCells) 39)) (w.heap.size+1) 39 (zeroCells):=Blk.new' _ _ (by simp)
 generalize s.r.same ⟨0,0,0,0⟩=b0 at*
 generalize s.f.zero=b1 at*
 generalize s.c.zero=b2 at*
 go_enter Tryz.func40,Tryz.ntmps40
 go_wp2_with (first
  |((with_reducible refine(hR _).mono ?_);rintro e w3 ⟨rfl,hb3⟩
    have j2:=i2.below hb3 i2.lt
    have j3:=i3.below hb3 i3.lt
    have hY:=hX.trans (hb3.mono hX.size)
    obtain⟨l2,x0,x1,x2,x3,x4,x5,x6,x7,x8,x9,x10,x11⟩:=dozenC j2
    obtain⟨l3,y0,y1,y2,y3,y4,y5,y6,y7,y8,y9,y10,y11⟩:=dozenC j3)
  |((with_reducible refine(hH _).mono ?_);rintro e w4 ⟨rfl,rfl⟩)
  |((with_reducible refine(hP _).mono ?_);rintro e w5 ⟨rfl,rfl⟩))
 all_goals go_ret
 all_goals refine⟨ret_bool ?_,hY⟩
 all_goals rw[HZ.out]
 all_goals simp_all
end Go.Proofs.YtcalkfgibflbnaaGreat
