/- A short form of one move of a walk through a region that draws its order. -/
import Derived.Deep.RegionHeld3
import Derived.KernelRfl
import Derived.Deep.RegionLaw
import Derived.Test.YtcalkfgibflbnaaGreatKaab
import Derived.Test.YtcalkfgibflbnaaGreatKaac
import Derived.Test.YtcalkfgibflbnaaGreatKaad
import Derived.Test.YtcalkfgibflbnaaGreatKaae
import Derived.Test.YtcalkfgibflbnaaGreatKaaf
namespace Go.Proofs.YtcalkfgibflbnaaGreat
theorem tk {P:Program} {md:Region.Mode} {ops:Array Oper} {Q:Exit→Act→World→Prop} {S:World→Prop} (i d:Nat) {v:Value} {fuel:Nat} {listed:Array Bool} {a:Act} {w:World} {x1 x2 x3 x4 x5} (hi:ops[i]?=some ⟨some d,x1,x2,x3,x4,x5⟩)
 (hy:YieldsIf P ops S ⟨some d,x1,x2,x3,x4,x5⟩ v a) (hS:S w) (h:wpAnyH P md ops Q S fuel (listed.setIfInBounds i true) (a.put (some d) v) w)
 (hs:Region.noSelect ops=true:=by kernel_rfl) (hf:Region.free md ops listed i=true:=by kernel_rfl) (hr:(Region.ready md ops listed).contains i=true:=by kernel_rfl)
 (hQ:∀c a w,Q (.panic c) (a.put (some d) v) w→Q (.panic c) a w:=by exact fun _ _ _ h=>h):wpAnyH P md ops Q S (fuel+1) listed a w:=
 wpAnyH_take (i:=i) (oi:=⟨some d,x1,x2,x3,x4,x5⟩) hi hs hf hr hQ hy hS h
end Go.Proofs.YtcalkfgibflbnaaGreat
/- The walks of raceref's copies: Strings, CopyWrites, CopyPending, CopyPendings, CopyHistories, CopyState. -/
namespace Go.Proofs.YtcalkfgibflbnaaGreat
set_option maxHeartbeats 4000000
set_option maxRecDepth 100000
set_option linter.unusedVariables false
open Go.RowKit Fl
attribute [local go_sem] run_store_float
def CopyRel {α:Type} (f:α→List Value) (E size:Nat) (l:List α) (w:World) (v i:Value) (wr:World):Prop:=∃k:Nat,k≤l.length∧i=.int .i64 (k:Int)∧OwnL f E size w.heap.size wr v (l.take k)∧Below w.heap.size w wr
theorem strings_any (A:Option Addr) (n c:Nat) (l:List ByteArray) (w:World) (h:Sl KyRel 1 w w.heap.size A n l) (hn:n≤1000000):
 Calls Tryz.prog 22 #[.slice A n c] w fun e w'=>∃v,e=.returned v∧OwnL keyCells 9 1 w.heap.size w' v l∧Below w.heap.size w w':=by
 obtain⟨i0,hi0,hz0,hz1,hz2⟩:=info_parts ky_info
 have hl:=h.1
 have hle:l.length≤n:=by omega
 have hge:n≤l.length:=by omega
 clear hl
 go_enter Tryz.func22,Tryz.ntmps22
 go_wp2
 go_loopw [3,4] (fun v i wr=>CopyRel keyCells 9 1 l w v i wr) (fun _ i _=>n-(intOf i).toNat)
 case atStart=>exact⟨0,by omega,rfl,OwnL.nil _,Below.refl _ _⟩
 case round=>
  obtain⟨k,hk,rfl,ho,hb⟩:=hrel
  have hzz:=hb.size
  by_cases hlt:k<n
  · obtain⟨ad,a,rfl,ha,hbk,hok,c0⟩:=(h.below KyRel.kept hb).ky hlt
    have hd1:decide ((k:Int)<(n:Int))=true:=by simp;omega
    have hk0:(0:Int)≤(k:Int):=by omega
    have hk1:(k:Int)<(n:Int):=by omega
    have HS:=Lib.hid (show l.take (k+1)=l.take k++[a] by rw[List.take_add_one,ha];rfl)
    have hln:(l.take k).length≤1000000:=by simp;omega
    clear ha
    obtain⟨A1,q1,rfl,hq1,hq1m⟩:=ho.form
    generalize l.take k=ks at*
    have hX:Below wr.heap.size wr (wr.alloc (.cells (keyCells a).toArray 9)):=(Below.refl _ _).alloc (Nat.le_refl _) _
    have hown0:=ho.below hX
    have hrd0:=reads_new' wr 9 (keyCells a) 1 rfl
    go_wp2_with (first
        |(at_builtin
          refine wpList_append_any _ rfl (.tmp 11) (.tmp 16) _ rfl w.heap.size 9 i0 _ 1 16 Tryz.underlying27 hi0 hz0 hz1 hz2 rfl (by omega) (.slice A1 ks.length q1) _ (ks.flatMap keyCells) (by rfl) hown0 _ (some ⟨wr.heap.size,0,none⟩) 1 1 (keyCells a) (by rfl)
           hrd0 (ky_one a) (by unfold maxLen;omega) (by omega) (by simp;omega) ?_
          intro v3 w3 hown3 hg3 hat3
          obtain⟨A3,q3,rfl,hq3,hq3m⟩:=own_form hown3))
    have hp:=OwnL.push a hown3
    have hbw:=(hb.trans (hX.mono hzz)).grown hg3 (by simp;omega) (fun q hq=>(hown0.lt q hq).1)
    go_roundw
    case rel=>
        refine⟨k+1,by omega,by go_num,?_,hbw⟩
        rw[HS.out]
        exact hp
    case measure=>simp[intOf];omega
  · have hd1:decide ((k:Int)<(n:Int))=false:=by simp;omega
    rw[List.take_of_length_le (by omega)]at ho
    obtain⟨A1,q1,rfl,hq1,hq1m⟩:=ho.form
    go_wp2
    go_ret
    exact⟨_,rfl,ho,hb⟩
theorem copyW_any (A:Option Addr) (n c:Nat) (l:List Wt) (w:World) (h:Sl WtRel 4 w w.heap.size A n l) (hn:n≤1000000):
 Calls Tryz.prog 24 #[.slice A n c] w fun e w'=>∃v,e=.returned v∧OwnL Wt.cells 61 4 w.heap.size w' v l∧Below w.heap.size w w':=by
 obtain⟨i0,hi0,hz0,hz1,hz2⟩:=info_parts wt_info
 have hl:=h.1
 have hle:l.length≤n:=by omega
 have hge:n≤l.length:=by omega
 clear hl
 go_enter Tryz.func24,Tryz.ntmps24
 go_wp2
 go_loopw [3,4] (fun v i wr=>CopyRel Wt.cells 61 4 l w v i wr) (fun _ i _=>n-(intOf i).toNat)
 case atStart=>exact⟨0,by omega,rfl,OwnL.nil _,Below.refl _ _⟩
 case round=>
  obtain⟨k,hk,rfl,ho,hb⟩:=hrel
  have hzz:=hb.size
  by_cases hlt:k<n
  · obtain⟨ad,a,rfl,ha,hbk,hok,c0,c1,c2,c3⟩:=(h.below WtRel.kept hb).wt hlt
    have hd1:decide ((k:Int)<(n:Int))=true:=by simp;omega
    have hk0:(0:Int)≤(k:Int):=by omega
    have hk1:(k:Int)<(n:Int):=by omega
    have HS:=Lib.hid (show l.take (k+1)=l.take k++[a] by rw[List.take_add_one,ha];rfl)
    have hln:(l.take k).length≤1000000:=by simp;omega
    clear ha
    obtain⟨A1,q1,rfl,hq1,hq1m⟩:=ho.form
    generalize l.take k=ks at*
    have hX:Below wr.heap.size wr (wr.alloc (.cells a.cells.toArray 61)):=(Below.refl _ _).alloc (Nat.le_refl _) _
    have hown0:=ho.below hX
    have hrd0:=reads_new' wr 61 a.cells 4 rfl
    go_wp2_with (first
        |(at_builtin
          refine wpList_append_any _ rfl (.tmp 11) (.tmp 16) _ rfl w.heap.size 61 i0 _ 4 48 Tryz.underlying29 hi0 hz0 hz1 hz2 rfl (by omega) (.slice A1 ks.length q1) _ (ks.flatMap Wt.cells) (by rfl) hown0 _ (some ⟨wr.heap.size,0,none⟩) 1 1 a.cells (by rfl)
           hrd0 (wt_one a) (by unfold maxLen;omega) (by omega) (by simp;omega) ?_
          intro v3 w3 hown3 hg3 hat3
          obtain⟨A3,q3,rfl,hq3,hq3m⟩:=own_form hown3))
    have hp:=OwnL.push a hown3
    have hbw:=(hb.trans (hX.mono hzz)).grown hg3 (by simp;omega) (fun q hq=>(hown0.lt q hq).1)
    go_roundw
    case rel=>
        refine⟨k+1,by omega,by go_num,?_,hbw⟩
        rw[HS.out]
        exact hp
    case measure=>simp[intOf];omega
  · have hd1:decide ((k:Int)<(n:Int))=false:=by simp;omega
    rw[List.take_of_length_le (by omega)]at ho
    obtain⟨A1,q1,rfl,hq1,hq1m⟩:=ho.form
    go_wp2
    go_ret
    exact⟨_,rfl,ho,hb⟩
theorem copyP_any (p:Pn) (A1 A2:Option Addr) (n1 n2 c1 c2:Nat) (w:World) (hr:Sl KyRel 1 w w.heap.size A1 n1 p.r) (hw:Sl WtRel 4 w w.heap.size A2 n2 p.w) (hn1:n1≤1000000) (hn2:n2≤1000000):
 Calls Tryz.prog 100 #[p.val (.slice A1 n1 c1) (.slice A2 n2 c2)] w (ClonePost p w):=by
 have hX:Below w.heap.size w ((w.alloc (.cells (p.arr (.slice A1 n1 c1) (.slice A2 n2 c2)) 162)).alloc (.cells zeroPn 162)):=by go_grown
 have i1:Blk ((w.alloc (.cells (p.arr (.slice A1 n1 c1) (.slice A2 n2 c2)) 162)).alloc (.cells zeroPn 162)) w.heap.size 162 (p.arr (.slice A1 n1 c1) (.slice A2 n2 c2)):=(Blk.new _ _ _).alloc _
 have i2:Blk ((w.alloc (.cells (p.arr (.slice A1 n1 c1) (.slice A2 n2 c2)) 162)).alloc (.cells zeroPn 162)) (w.heap.size+1) 162 zeroPn:=Blk.new' _ _ (by simp)
 have hT:=fun w' (hb:Below w.heap.size w w')=>strings_any A1 n1 c1 p.r w' ((hr.below KyRel.kept hb).more KyRel.kept hb.size) hn1
 have hW:=fun w' (hb:Below w.heap.size w w')=>copyW_any A2 n2 c2 p.w w' ((hw.below WtRel.kept hb).more WtRel.kept hb.size) hn2
 go_enter Tryz.func100,Tryz.ntmps100
 go_wp2
 generalize ((w.alloc (.cells (p.arr (.slice A1 n1 c1) (.slice A2 n2 c2)) 162)).alloc (.cells zeroPn 162))=w0 at*
 have l1:=i1.lt
 have l2:=i2.lt
 refine wp_region_held_drew (S:=fun w'=>Blk w' w.heap.size 162 (p.arr (.slice A1 n1 c1) (.slice A2 n2 c2))) (by kernel_rfl) i1.drew (fun hHeld=>?_)
 refine tc 0 3 ?_
 go_frame
 refine wpAnyH_take (i:=1) (oi:=⟨some 4,_,_,_,_,_⟩) rfl (by kernel_rfl) (by kernel_rfl) (by kernel_rfl) (fun _ _ _ h=>h) (yieldsIf_load_mid (by kernel_rfl) _ _ rfl w.heap.size 0 rfl [.int .i64 p.t.c,.int .i64 p.t.l,.int .i64 p.t.s] _ (fun W hSw=>Blk.range hSw 0 _ (three_of rfl rfl rfl)) rfl rfl (by kernel_rfl)) hHeld ?_
 go_frame
 refine tc 2 5 ?_
 go_frame
 refine wpAnyH_take (i:=3) (oi:=⟨some 6,_,_,_,_,_⟩) rfl (by kernel_rfl) (by kernel_rfl) (by kernel_rfl) (fun _ _ _ h=>h) (yieldsIf_load_mid (by kernel_rfl) _ _ rfl w.heap.size 3 rfl [.int .i64 p.s.w,.int .i64 p.s.l,.int .i64 p.s.n] _ (fun W hSw=>Blk.range hSw 3 _ (three_of rfl rfl rfl)) rfl rfl (by kernel_rfl)) hHeld ?_
 go_frame
 refine tc 4 7 ?_
 go_frame
 refine ts 5 8 rfl (v:=.slice A1 n1 c1) (fun W hSw=>by have z:W.cell? ⟨w.heap.size,6,none⟩=some (.slice A1 n1 c1):=Blk.cell hSw 6;clear hSw;go_simp) ?_
 go_frame
 refine tc 7 10 ?_
 go_frame
 refine ts 8 11 rfl (v:=.slice A2 n2 c2) (fun W hSw=>by have z:W.cell? ⟨w.heap.size,7,none⟩=some (.slice A2 n2 c2):=Blk.cell hSw 7;clear hSw;go_simp) ?_
 go_frame
 refine tr 6 rfl fun K hK=>?_
 go_simp
 refine(hT _ hX.drew).mono ?_
 rintro e w3 ⟨v3,rfl,o3,hb3⟩
 have j1:=i1.drew.below hb3 l1
 have j2:=i2.drew.below hb3 l2
 have hY:Below w.heap.size w w3:=hX.drew.trans (hb3.mono hX.size)
 have o3:OwnL _ _ _ (w.heap.size+2) _ _ _:=o3.mono_base (by show w.heap.size+2≤w0.heap.size;omega)
 obtain⟨A3,q3,rfl,hq3,hq3m⟩:=o3.form
 clear hb3 i1 i2 l1 l2 hHeld
 refine hK.out _ _ j1 (fun hHeld=>?_)
 clear hK K
 try go_frame
 refine tr 9 rfl fun K hK=>?_
 go_simp
 refine(hW _ hY).mono ?_
 rintro e w4 ⟨v4,rfl,o4,hb4⟩
 have k1:=j1.below hb4 j1.lt
 have k2:=j2.below hb4 j2.lt
 have hZ:Below w.heap.size w w4:=hY.trans (hb4.mono hY.size)
 have hz3:=j2.lt
 have o4:OwnL _ _ _ (w.heap.size+2) _ _ _:=o4.mono_base (by omega)
 have o3:=o3.below hb4
 obtain⟨A4,q4,rfl,hq4,hq4m⟩:=o4.form
 clear hb4 j1 j2 hHeld
 refine hK.out _ _ k1 (fun hHeld=>?_)
 clear hK K
 try go_frame
 refine tc 10 13 ?_
 go_frame
 refine wpAnyH_store_rowE (i:=11) (by kernel_rfl) rfl rfl _ _ _ rfl (w.heap.size+1) (p.arr (.slice A3 p.r.length q3) (.slice A4 p.w.length q4)) (by kernel_rfl) (by kernel_rfl) _ _ k2 (by kernel_rfl) rfl (by kernel_rfl) (k1.setRow_far _ (by omega)) ?_
 intro w5 hw5
 go_frame
 refine td ?_
 go_wp2
 refine post_cell rfl (by kernel_rfl) (by rw[hw5];exact k2.setRow _) rfl rfl (by kernel_rfl) ?_
 subst hw5
 exact⟨_,_,rfl,(o3.setRow_far (by omega) _).mono_base (by omega),(o4.setRow_far (by omega) _).mono_base (by omega),below_setRow hZ (by omega) _⟩
theorem pn_infoC:(Tryz.prog.info? 162).map (fun i=>(i.zero,i.size,i.bytes))=some (some (.agg zeroPn),8,96):=by kernel_rfl
theorem hs_infoC:(Tryz.prog.info? 158).map (fun i=>(i.zero,i.size,i.bytes))=some (some (.agg #[.string ⟨#[]⟩,.slice none 0 0]),2,40):=by kernel_rfl
abbrev Pn.cl (p:Pn) (r q:Value):List Value:=[.int .i64 p.t.c,.int .i64 p.t.l,.int .i64 p.t.s,.int .i64 p.s.w,.int .i64 p.s.l,.int .i64 p.s.n,r,q]
theorem pn_oneC (p:Pn) (A1 A2:Option Addr) (n1 n2 c1 c2:Nat):∀u∈p.cl (.slice A1 n1 c1) (.slice A2 n2 c2),u.oneCell'=true:=by
 intro u hu
 simp only[Pn.cl,List.mem_cons,List.not_mem_nil,or_false]at hu
 rcases hu with rfl|rfl|rfl|rfl|rfl|rfl|rfl|rfl<;>rfl
def Single {α:Type} (R:Rel α) (E size base:Nat) (w:World) (v:Value) (l:List α):Prop:=Pair R E size base w v (.slice none 0 0) l []
def CopiesRel {α:Type} (R:Rel α) (E size:Nat) (l:List α) (w:World) (v i:Value) (wr:World):Prop:=∃k:Nat,k≤l.length∧i=.int .i64 (k:Int)∧Single R E size w.heap.size wr v (l.take k)∧Below w.heap.size w wr
def CopiesPost {α:Type} (R:Rel α) (E size:Nat) (l:List α) (w:World):Ending→World→Prop:=fun e w'=>∃v,e=.returned v∧Single R E size w.heap.size w' v l∧Below w.heap.size w w'
theorem copyPs_any (A:Option Addr) (n c:Nat) (l:List Pn) (w:World) (h:Sl PnRel 8 w w.heap.size A n l) (hQ:SmallP l):
 Calls Tryz.prog 57 #[.slice A n c] w (CopiesPost PnRel 162 8 l w):=by
 obtain⟨i1,hi1,iz0,iz1,iz2⟩:=info_parts pn_infoC
 have hl:=h.1
 have hge:n≤l.length:=by omega
 have hle:l.length≤n:=by omega
 have hn:n≤1000000:=Nat.le_trans hge hQ.1
 clear hl
 go_enter Tryz.func57,Tryz.ntmps57
 go_wp2
 go_loopw [3,4] (fun v i wr=>CopiesRel PnRel 162 8 l w v i wr) (fun _ i _=>n-(intOf i).toNat)
 case atStart=>exact⟨0,by omega,rfl,Pair.nil _,Below.refl _ _⟩
 case round=>
  obtain⟨k,hk,rfl,hp,hb⟩:=hrel
  have hzz:=hb.size
  have hlen:(l.take k).length≤1000000:=Nat.le_trans (List.length_take_le k l) (by omega)
  obtain⟨Av,qv,rfl,hqv,hqvm⟩:=Pair.form1 hp
  by_cases hlt:k<n
  · obtain⟨ad,a,A1,n1,c1,A2,n2,c2,rfl,ha,hbk,hxt,hxs,d0,d1,d2,d3,d4,d5,d6,d7,hn1,hc1,hs1,hn2,hc2,hs2⟩:=((h.below PnRel.kept hb).more PnRel.kept hb.size).pn hlt
    have hd1:decide ((k:Int)<(n:Int))=true:=by simp;omega
    have hk0:(0:Int)≤(k:Int):=by omega
    have hk1:(k:Int)<(n:Int):=by omega
    have hsm:=hQ.2 a (List.mem_of_getElem? ha)
    have hl1:=hs1.1
    have hl2:=hs2.1
    have HS:=Lib.hid (show l.take (k+1)=l.take k++[a] by rw[List.take_add_one,ha];rfl)
    have hC:=copyP_any a A1 A2 n1 n2 c1 c2 wr hs1 hs2 (by omega) (by omega)
    have K1:=Lib.hid (fun k hk=>Sl.all_ok hs1 k hk:∀k∈a.r,k.size≤140737488351232)
    have K2:=Lib.hid (fun k hk=>Sl.all_ok hs2 k hk:∀k∈a.w,Wt.ok k)
    clear ha hsm hl1 hl2
    generalize l.take k=L at*
    go_wp2_with (go_at_call 100;fail)
    refine hC.mono ?_
    rintro e w5 ⟨r1,u1,rfl,o1,o2,hb5⟩
    obtain⟨D1,e1,rfl,he1,he1m⟩:=o1.form
    obtain⟨D2,e2,rfl,he2,he2m⟩:=o2.form
    have hX:Below w5.heap.size w5 (w5.alloc (.cells (a.arr (.slice D1 a.r.length e1) (.slice D2 a.w.length e2)) 162)):=(Below.refl _ _).alloc (Nat.le_refl _) _
    have h5z:=hb5.size
    have pX:=(Pair.below PnRel.kept PnRel.mono hp hb5).below PnRel.kept PnRel.mono hX
    have hK:∀k,wr.heap.size≤k→k<(w5.alloc (.cells (a.arr (.slice D1 a.r.length e1) (.slice D2 a.w.length e2)) 162)).heap.size→freeB w.heap.size (w5.alloc (.cells (a.arr (.slice D1 a.r.length e1) (.slice D2 a.w.length e2)) 162)).heap.size (.slice Av L.length qv) (.slice none 0 0) k=true:=Pair.fresh hp (by simp;omega) (Nat.le_refl _) hzz
    have hin:Inn PnRel (freeB w.heap.size (w5.alloc (.cells (a.arr (.slice D1 a.r.length e1) (.slice D2 a.w.length e2)) 162)).heap.size (.slice Av L.length qv) (.slice none 0 0)) (w5.alloc (.cells (a.arr (.slice D1 a.r.length e1) (.slice D2 a.w.length e2)) 162)) (a.cl (.slice D1 a.r.length e1) (.slice D2 a.w.length e2)) a:=
        ⟨_,_,rfl,hxt,hxs,OwnL.inn (by omega) ky_len (o1.below hX) K1.out hK,OwnL.inn (by omega) wt_len (o2.below hX) K2.out hK⟩
    have HI:=Lib.hid hin
    obtain⟨xs,hown0,hpush⟩:=Pair.own1 PnRel.kept PnRel.mono pX
    have HP:=Lib.hid hpush
    have hrd0:=reads_new' w5 162 (a.cl (.slice D1 a.r.length e1) (.slice D2 a.w.length e2)) 8 rfl
    clear hpush hin hK d0 d1 d2 d3 d4 d5 d6 d7 hC
    go_wp2_with (first
        |(at_builtin
          refine wpList_append_any _ rfl (.tmp 11) (.tmp 17) _ rfl w.heap.size 162 i1 _ 8 96 Tryz.underlying37 hi1 iz0 iz1 iz2 rfl (by omega) (.slice Av L.length qv) _ xs (by rfl) hown0 _ (some ⟨w5.heap.size,0,none⟩) 1 1 (a.cl (.slice D1 a.r.length e1) (.slice D2 a.w.length e2)) (by rfl)
           hrd0 (pn_oneC a _ _ _ _ _ _) (by unfold maxLen;omega) (by omega) (by simp;omega) ?_
          intro v3 w3 hown3 hg3 hat3
          obtain⟨A3,q3,rfl,hq3,hq3m⟩:=own_form hown3))
    have hpn:=HP.out _ a w3 _ rfl HI.out hown3 hg3 hat3
    have hbw:=(hb.trans ((hb5.trans (hX.mono h5z)).mono hzz)).grown hg3 (by simp;omega) (fun q hq=>(hown0.lt q hq).1)
    go_roundw
    case rel=>
        refine⟨k+1,by omega,by go_num,?_,hbw⟩
        rw[HS.out]
        exact hpn
    case measure=>simp[intOf];omega
  · have hd1:decide ((k:Int)<(n:Int))=false:=by simp;omega
    rw[List.take_of_length_le (by omega)]at hp hqv
    rw[List.take_of_length_le (by omega)]
    go_wp2
    go_ret
    exact⟨_,rfl,hp,hb⟩
def CopyV (a:Hs) (W:World) (i:Value) (wr:World):Prop:=∃(k:Nat) (v:Value),k≤a.vs.length∧i=.int .i64 (k:Int)∧Blk wr W.heap.size 158 #[.string a.key,v]∧OwnL Vn.cells 160 6 (W.heap.size+1) wr v (a.vs.take k)∧Below W.heap.size W wr
theorem copyHs_any (A:Option Addr) (n c:Nat) (l:List Hs) (w:World) (h:Sl HsRel 2 w w.heap.size A n l) (hQ:SmallH l):
 Calls Tryz.prog 56 #[.slice A n c] w (CopiesPost HsRel 158 2 l w):=by
 obtain⟨i1,hi1,iz0,iz1,iz2⟩:=info_parts hs_infoC
 obtain⟨i0,hi0,hz0,hz1,hz2⟩:=info_parts vn_info
 have hl:=h.1
 have hge:n≤l.length:=by omega
 have hle:l.length≤n:=by omega
 have hn:n≤1000000:=Nat.le_trans hge hQ.1
 clear hl
 go_enter Tryz.func56,Tryz.ntmps56
 go_wp2
 go_loopw [3,4] (fun v i wr=>CopiesRel HsRel 158 2 l w v i wr) (fun _ i _=>n-(intOf i).toNat)
 case atStart=>exact⟨0,by omega,rfl,Pair.nil _,Below.refl _ _⟩
 case round=>
  obtain⟨k,hk,rfl,hp,hb⟩:=hrel
  have hzz:=hb.size
  have hlen:(l.take k).length≤1000000:=Nat.le_trans (List.length_take_le k l) (by omega)
  obtain⟨Av,qv,rfl,hqv,hqvm⟩:=Pair.form1 hp
  by_cases hlt:k<n
  · obtain⟨ad,a,A1,n1,c1,rfl,ha,hbk,hkz,d0,d1,hn1,hc1,hs1⟩:=((h.below HsRel.kept hb).more HsRel.kept hb.size).hs hlt
    have hd1:decide ((k:Int)<(n:Int))=true:=by simp;omega
    have hk0:(0:Int)≤(k:Int):=by omega
    have hk1:(k:Int)<(n:Int):=by omega
    have hsm:=hQ.2 a (List.mem_of_getElem? ha)
    have hl1:=hs1.1
    have hsm1:n1≤1000000:=by omega
    have hge1:n1≤a.vs.length:=by omega
    have hle1:a.vs.length≤n1:=by omega
    have HS:=Lib.hid (show l.take (k+1)=l.take k++[a] by rw[List.take_add_one,ha];rfl)
    have K1:=Lib.hid (fun k hk=>Sl.all_ok hs1 k hk:∀k∈a.vs,Vn.ok k)
    have HA:=Lib.hid ha
    clear ha hsm hl1
    generalize l.take k=L at*
    have i5:=Blk.new wr 158 #[.string a.key,.slice none 0 0]
    have hX0:Below wr.heap.size wr (wr.alloc (.cells #[.string a.key,.slice none 0 0] 158)):=by go_grown
    go_wp2
    obtain⟨wo,rfl⟩:∃wo,wo=wr:=⟨_,rfl⟩
    clear d0 d1 hs1
    go_loopw [6] (fun i wr=>CopyV a wo i wr) (fun i _=>n1-(intOf i).toNat)
    case atStart=>exact⟨0,_,by omega,rfl,i5,OwnL.nil _,hX0⟩
    case round=>
        clear i5 hX0
        obtain⟨k2,v,hk2,rfl,i5,ho,hb2⟩:=hrel
        have hz2':=hb2.size
        have hw:Below w.heap.size w wr:=hb.trans (hb2.mono hzz)
        have hwz:=hw.size
        obtain⟨ad1,a1,B1,m1,c3,ex,ha1,hbk1,hok1,d0,d1,hm1,hc3,hs1⟩:=((h.below HsRel.kept hw).more HsRel.kept hw.size).hs hlt
        injection ex with ex
        subst ex
        obtain rfl:a=a1:=Option.some.inj (HA.out.symm.trans ha1)
        obtain rfl:n1=m1:=by have:=hs1.1;omega
        clear ha1
        have hlv:(a.vs.take k2).length≤1000000:=Nat.le_trans (List.length_take_le _ _) (by omega)
        have l5:=i5.lt
        obtain⟨Bv,qb,rfl,hqb,hqbm⟩:=ho.form
        have y0:=cl (i5.cell 0)
        have y1:=cl (i5.cell 1)
        by_cases hlt2:k2<n1
        · obtain⟨bd,x,rfl,hx,hxb,hxo,x0,x1,x2,x3,x4,x5⟩:=hs1.vn hlt2
          have hd3:decide ((k2:Int)<(n1:Int))=true:=by simp;omega
          have hk20:(0:Int)≤(k2:Int):=by omega
          have hk21:(k2:Int)<(n1:Int):=by omega
          have HT:=Lib.hid (show a.vs.take (k2+1)=a.vs.take k2++[x] by rw[List.take_add_one,hx];rfl)
          clear hx
          generalize a.vs.take k2=V at*
          have hX:Below wr.heap.size wr (wr.alloc (.cells x.cells.toArray 160)).drew:=((Below.refl _ _).alloc (Nat.le_refl _) _).drew
          have hown0:=ho.below hX
          have hrd0:=(reads_new' wr 160 x.cells 6 rfl).drew
          have l6:wo.heap.size<wr.heap.size+1:=by omega
          go_wp2
          go_region_law (refine step_append_any _ rfl (.tmp 30) (.tmp 39) _ rfl (wo.heap.size+1) 160 i0 _ 6 56 Tryz.underlying156 hi0 hz0 hz1 hz2 rfl (by omega) (.slice Bv V.length qb) _ (V.flatMap Vn.cells) (by simp[Act.eval]) hown0 _ (some ⟨wr.heap.size,0,none⟩) 1 1 x.cells (by simp[Act.eval]) hrd0 (vn_one x) (by unfold maxLen;omega) (by omega) (by simp;omega) ?_;intro v3 w3 hown3 hg3 hat3;have e5:=(i5.alloc (.cells x.cells.toArray 160)).drew.grown hg3 (ho.ne (by omega));have z1:=e5.cell 1;simp only[List.getElem?_toArray,List.getElem?_cons_succ,List.getElem?_cons_zero]at z1;have f1:=e5.frozen 1;obtain⟨A3,q3,rfl,hq3,hq3m⟩:=own_form hown3)
          all_goals
           have hp3:=(OwnL.push x hown3).set_far (p:=⟨wo.heap.size,1,none⟩) (by simp) (.slice A3 (V.length+1) q3)
           have hbw:=((hb2.trans (hX.mono hz2')).grown hg3 (by have:=hX.size;omega) (fun q hq=>by have:=(hown0.lt q hq).1;omega)).setCell (p:=⟨wo.heap.size,1,none⟩) (Nat.le_refl _) (.slice A3 (V.length+1) q3)
           go_wp2
           go_roundw
           case rel=>
            refine⟨k2+1,_,by omega,by go_num,e5.set_ 1 _,?_,hbw⟩
            rw[HT.out]
            exact hp3
           case measure=>simp[intOf];omega
        · have hd3:decide ((k2:Int)<(n1:Int))=false:=by simp;omega
          have ht:a.vs.take k2=a.vs:=List.take_of_length_le (by omega)
          rw[ht]at ho hqb y1 i5
          clear ht hlv
          have hX:Below wr.heap.size wr (wr.alloc (.cells #[.string a.key,.slice Bv a.vs.length qb] 158)):=by go_grown
          have pX:=(Pair.below HsRel.kept HsRel.mono hp hb2).below HsRel.kept HsRel.mono hX
          have hK:∀k,wo.heap.size+1≤k→k<(wr.alloc (.cells #[.string a.key,.slice Bv a.vs.length qb] 158)).heap.size→freeB w.heap.size (wr.alloc (.cells #[.string a.key,.slice Bv a.vs.length qb] 158)).heap.size (.slice Av L.length qv) (.slice none 0 0) k=true:=Pair.fresh hp (by simp;omega) (by omega) (by omega)
          have hin:Inn HsRel (freeB w.heap.size (wr.alloc (.cells #[.string a.key,.slice Bv a.vs.length qb] 158)).heap.size (.slice Av L.length qv) (.slice none 0 0)) (wr.alloc (.cells #[.string a.key,.slice Bv a.vs.length qb] 158)) [.string a.key,.slice Bv a.vs.length qb] a:=
           ⟨_,rfl,hkz,OwnL.inn (by omega) vn_len (ho.below hX) K1.out hK⟩
          have HI:=Lib.hid hin
          obtain⟨xs,hown0,hpush⟩:=Pair.own1 HsRel.kept HsRel.mono pX
          have HP:=Lib.hid hpush
          have hrd0:=reads_new' wr 158 [.string a.key,.slice Bv a.vs.length qb] 2 rfl
          have hone:∀u∈[Value.string a.key,Value.slice Bv a.vs.length qb],u.oneCell'=true:=by
           intro u hu
           simp only[List.mem_cons,List.not_mem_nil,or_false]at hu
           rcases hu with rfl|rfl<;>rfl
          have HO:=Lib.hid hone
          clear hpush hin hK hone hs1
          go_wp2_with (first
           |(at_builtin
             refine wpList_append_any _ rfl (.tmp 42) (.tmp 44) _ rfl w.heap.size 158 i1 _ 2 40 Tryz.underlying36 hi1 iz0 iz1 iz2 rfl (by omega) (.slice Av L.length qv) _ xs (by rfl) hown0 _ (some ⟨wr.heap.size,0,none⟩) 1 1 [.string a.key,.slice Bv a.vs.length qb] (by rfl)
              hrd0 HO.out (by unfold maxLen;omega) (by omega) (by simp;omega) ?_
             intro v3 w3 hown3 hg3 hat3
             obtain⟨A3,q3,rfl,hq3,hq3m⟩:=own_form hown3))
          have hpn:=HP.out _ a w3 _ rfl HI.out hown3 hg3 hat3
          have hbw:=(hw.trans (hX.mono hwz)).grown hg3 (by have:=hX.size;omega) (fun q hq=>(hown0.lt q hq).1)
          go_roundw
          case rel=>
           refine⟨k+1,by omega,by go_num,?_,hbw⟩
           rw[HS.out]
           exact hpn
          case measure=>simp[intOf];omega
  · have hd1:decide ((k:Int)<(n:Int))=false:=by simp;omega
    rw[List.take_of_length_le (by omega)]at hp hqv
    rw[List.take_of_length_le (by omega)]
    go_wp2
    go_ret
    exact⟨_,rfl,hp,hb⟩
theorem four_of {cs:Array Value} {o:Nat} {a b c d:Value} (h0:cs[o]?=some a) (h1:cs[o+1]?=some b) (h2:cs[o+2]?=some c) (h3:cs[o+3]?=some d):∀j v,[a,b,c,d][j]?=some v→cs[o+j]?=some v:=by
 intro j v hj
 match j,hj with
 |0,hj=>rw[←hj];exact h0
 |1,hj=>rw[←hj];exact h1
 |2,hj=>rw[←hj];exact h2
 |3,hj=>rw[←hj];exact h3
abbrev zeroSt:Array Value:=#[.int .i64 0,.int .i64 0,.float .f64 0,.float .f64 0,.int .i64 0,.int .i64 0,.int .i64 0,.int .i64 0,.int .i64 0,.int .i64 0,.slice none 0 0,.slice none 0 0]
end Go.Proofs.YtcalkfgibflbnaaGreat
/- The document's store in memory; the walks of its at and where. -/
namespace Go.Proofs.YtcalkfgibflbnaaGreat
set_option maxHeartbeats 4000000
set_option maxRecDepth 100000
set_option linter.unusedVariables false
open Go.RowKit Fl
attribute [local go_sem] run_store_float
def nb (g:Nat):Nat→Bool:=fun k=>decide (k≠g)
theorem nb_iff {g k:Nat}:nb g k=true↔k≠g:=by unfold nb;rw[decide_eq_true_eq]
structure RSt (w:World) (g:Nat) (B1:Option Addr) (m1 d1:Nat) (B2:Option Addr) (m2 d2:Nat) (L:Sp) (Hl:List Hs) (Pl:List Pn):Prop where
 blk:Blk w g 241 #[.slice B1 m1 d1,.slice B2 m2 d2,.int .i64 L.w,.int .i64 L.l,.int .i64 L.n]
 hs:Sl HsRel 2 (only (nb g) w) w.heap.size B1 m1 Hl
 ps:Sl PnRel 8 (only (nb g) w) w.heap.size B2 m2 Pl
 le2:m2≤d2
 d2m:d2≤maxLen
 m1:m1≤maxLen
 m2:m2≤maxLen
section
variable {w w':World} {g:Nat} {B1 B2:Option Addr} {m1 d1 m2 d2:Nat} {L:Sp} {Hl:List Hs} {Pl:List Pn}
theorem RSt.below (h:RSt w g B1 m1 d1 B2 m2 d2 L Hl Pl) (hb:Below w.heap.size w w'):RSt w' g B1 m1 d1 B2 m2 d2 L Hl Pl:=by
 have hk:∀p:Addr,p.block<w.heap.size→(only (nb g) w').cell? p=(only (nb g) w).cell? p:=fun p hp=>by
  cases hn:nb g p.block
  · rw[only_cell_out hn,only_cell_out hn]
  · rw[only_cell_in hn,only_cell_in hn];exact hb.cell hp
 exact⟨h.blk.below hb h.blk.lt,(h.hs.keep HsRel.kept hk).more HsRel.kept hb.size,(h.ps.keep PnRel.kept hk).more PnRel.kept hb.size,h.le2,h.d2m,h.m1,h.m2⟩
theorem RSt.hist (h:RSt w g B1 m1 d1 B2 m2 d2 L Hl Pl):Sl HsRel 2 w w.heap.size B1 m1 Hl:=h.hs.mono HsRel.mono fun p u _ hc=>(only_cell hc).2
theorem RSt.pend (h:RSt w g B1 m1 d1 B2 m2 d2 L Hl Pl):Sl PnRel 8 w w.heap.size B2 m2 Pl:=h.ps.mono PnRel.mono fun p u _ hc=>(only_cell hc).2
end
def atFrom (key:ByteArray):Nat→List Hs→Int
 |_,[]=> -1
 |i,h::l=>if h.key.toList==key.toList then (i:Int) else atFrom key (i+1) l
theorem atFrom_drop {key:ByteArray} {l:List Hs} {k:Nat} {a:Hs} (h:l[k]?=some a):atFrom key k (l.drop k)=if a.key.toList==key.toList then (k:Int) else atFrom key (k+1) (l.drop (k+1)):=by
 have h1:=List.getElem?_eq_some_iff.1 h
 rw[List.drop_eq_getElem_cons h1.1,h1.2];rfl
def AtRel (key:ByteArray) (l:List Hs) (w:World) (i:Value) (wr:World):Prop:=∃k:Nat,k≤l.length∧i=.int .i64 (k:Int)∧atFrom key k (l.drop k)=atFrom key 0 l∧Below w.heap.size w wr
theorem rat_any (g:Nat) (B1 B2:Option Addr) (m1 d1 m2 d2:Nat) (L:Sp) (Hl:List Hs) (Pl:List Pn) (key:ByteArray) (w:World) (h:RSt w g B1 m1 d1 B2 m2 d2 L Hl Pl):
 Calls Tryz.prog 214 #[.pointer (some ⟨g,0,none⟩),.string key] w fun e w'=>e=.returned (.int .i64 (atFrom key 0 Hl))∧Below w.heap.size w w':=by
 have hm:=h.m1
 unfold maxLen at hm
 have hl:=h.hs.1
 have hge:m1≤Hl.length:=by omega
 have hle:Hl.length≤m1:=by omega
 clear hl
 go_enter Tryz.func214,Tryz.ntmps214
 go_wp2
 go_loopw [5] (fun i wr=>AtRel key Hl w i wr) (fun i _=>m1-(intOf i).toNat)
 case atStart=>exact⟨0,by omega,rfl,rfl,Below.refl _ _⟩
 case round=>
  obtain⟨k,hk,rfl,hs,hb⟩:=hrel
  have hzz:=hb.size
  have hr:=h.below hb
  obtain⟨gl,k0,k1,-,-,-⟩:=hr.blk.fiveC
  by_cases hlt:k<m1
  · obtain⟨ad,a,A',n',c',rfl,ha,hbk,hok,c0,c1,hn',hc',hsv⟩:=hr.hist.hs hlt
    have hd1:decide ((k:Int)<(m1:Int))=true:=by simp;omega
    have hk0:(0:Int)≤(k:Int):=by omega
    have hk1:(k:Int)<(m1:Int):=by omega
    rw[atFrom_drop ha]at hs
    clear ha
    cases he:(a.key.toList==key.toList)
    · rw[he]at hs
      have HS:=Lib.hid (show atFrom key (k+1) (Hl.drop (k+1))=atFrom key 0 Hl from hs)
      clear hs
      go_wp2
      go_roundw
      case rel=>exact⟨k+1,by omega,by go_num,HS.out,hb⟩
      case measure=>simp[intOf];omega
    · rw[he]at hs
      have HS:=Lib.hid (show (k:Int)=atFrom key 0 Hl from hs)
      clear hs
      go_wp2
      go_ret
      rw[←HS.out]
      exact⟨rfl,hb⟩
  · have hd1:decide ((k:Int)<(m1:Int))=false:=by simp;omega
    rw[List.drop_of_length_le (by omega)]at hs
    have HS:=Lib.hid (show (-1:Int)=atFrom key 0 Hl from hs)
    clear hs
    go_wp2
    go_ret
    rw[←HS.out]
    exact⟨rfl,hb⟩
def whFrom (t:Tx):Nat→List Pn→Int
 |_,[]=> -1
 |i,p::l=>if decide (p.t=t) then (i:Int) else whFrom t (i+1) l
theorem whFrom_drop {t:Tx} {l:List Pn} {k:Nat} {a:Pn} (h:l[k]?=some a):whFrom t k (l.drop k)=if decide (a.t=t) then (k:Int) else whFrom t (k+1) (l.drop (k+1)):=by
 have h1:=List.getElem?_eq_some_iff.1 h
 rw[List.drop_eq_getElem_cons h1.1,h1.2];rfl
theorem txn_run (a t:Tx) (w:World):(Op.equalIn 10000 23 (.agg #[.int .i64 a.c,.int .i64 a.l,.int .i64 a.s]) (.agg #[.int .i64 t.c,.int .i64 t.l,.int .i64 t.s])).run Tryz.prog w=.ok (decide (a=t)) w:=by
 have e:decide (a=t)=((a.c==t.c)&&(a.l==t.l)&&(a.s==t.s)):=by
  obtain⟨a1,a2,a3⟩:=a
  obtain⟨b1,b2,b3⟩:=t
  rw[Bool.eq_iff_iff]
  simp[and_assoc]
 rw[e]
 cases h1:(a.c==t.c)<;>cases h2:(a.l==t.l)<;>cases h3:(a.s==t.s)
 all_goals simp[go_sem,h1,h2,h3]
def WhRel (t:Tx) (l:List Pn) (w:World) (i:Value) (wr:World):Prop:=∃k:Nat,k≤l.length∧i=.int .i64 (k:Int)∧whFrom t k (l.drop k)=whFrom t 0 l∧Below w.heap.size w wr∧Blk wr w.heap.size 23 #[.int .i64 t.c,.int .i64 t.l,.int .i64 t.s]
theorem rwhere_any (g:Nat) (B1 B2:Option Addr) (m1 d1 m2 d2:Nat) (L:Sp) (Hl:List Hs) (Pl:List Pn) (t:Tx) (w:World) (h:RSt w g B1 m1 d1 B2 m2 d2 L Hl Pl):
 Calls Tryz.prog 177 #[.pointer (some ⟨g,0,none⟩),t.val] w fun e w'=>e=.returned (.int .i64 (whFrom t 0 Pl))∧Below w.heap.size w w':=by
 have hm:=h.m2
 unfold maxLen at hm
 have hl:=h.ps.1
 have hge:m2≤Pl.length:=by omega
 have hle:Pl.length≤m2:=by omega
 clear hl
 go_enter Tryz.func177,Tryz.ntmps177
 go_wp2
 go_loopw [5] (fun i wr=>WhRel t Pl w i wr) (fun i _=>m2-(intOf i).toNat)
 case atStart=>exact⟨0,by omega,rfl,rfl,by go_grown,Blk.new _ _ _⟩
 case round=>
  obtain⟨k,hk,rfl,hs,hb,i3⟩:=hrel
  have hzz:=hb.size
  have hr:=h.below hb
  obtain⟨gl,k0,k1,-,-,-⟩:=hr.blk.fiveC
  obtain⟨g3,s0,s1,s2⟩:=i3.three
  by_cases hlt:k<m2
  · obtain⟨ad,a,A1,n1,c1,A2,n2,c2,rfl,ha,hbk,hxt,hxs,e0,e1,e2,e3,e4,e5,e6,e7,hn1,hc1,hs1,hn2,hc2,hs2⟩:=hr.pend.pn hlt
    have hd1:decide ((k:Int)<(m2:Int))=true:=by simp;omega
    have hk0:(0:Int)≤(k:Int):=by omega
    have hk1:(k:Int)<(m2:Int):=by omega
    have hrun:=fun w=>txn_run a.t t w
    rw[whFrom_drop ha]at hs
    clear ha
    cases he:decide (a.t=t)
    · rw[he]at hs hrun
      have HS:=Lib.hid (show whFrom t (k+1) (Pl.drop (k+1))=whFrom t 0 Pl from hs)
      clear hs he
      go_wp2
      go_quiet (fail)
      all_goals go_wp2
      all_goals go_roundw
      case rel=>exact⟨k+1,by omega,by go_num,HS.out,hb.trans ((belowN _).mono hzz),i3⟩
      case measure=>simp[intOf];omega
    · rw[he]at hs hrun
      have HS:=Lib.hid (show (k:Int)=whFrom t 0 Pl from hs)
      clear hs he
      go_wp2
      go_quiet (fail)
      all_goals go_wp2
      all_goals go_ret
      rw[←HS.out]
      exact⟨rfl,hb.trans ((belowN _).mono hzz)⟩
  · have hd1:decide ((k:Int)<(m2:Int))=false:=by simp;omega
    rw[List.drop_of_length_le (by omega)]at hs
    have HS:=Lib.hid (show (-1:Int)=whFrom t 0 Pl from hs)
    clear hs
    go_wp2
    go_ret
    rw[←HS.out]
    exact⟨rfl,hb⟩
end Go.Proofs.YtcalkfgibflbnaaGreat
/- The walks of recs' zeroState, zero, without. -/
namespace Go.Proofs.YtcalkfgibflbnaaGreat
set_option maxHeartbeats 8000000
set_option maxRecDepth 100000
set_option linter.unusedVariables false
open Go.RowKit Fl
attribute [local go_sem] run_store_float
def Stt.zeroB (s:Stt):Bool:=(s.r.id==0)&&(s.r.ep==0)&&((s.r.lo:Int)==0)&&((s.r.hi:Int)==0)&&s.f.zero&&s.c.zero&&((s.h.length:Int)==0)&&((s.p.length:Int)==0)
theorem zeroState_any (s:Stt) (A1 A2:Option Addr) (n1 n2 c1 c2:Nat) (w:World) (h1:s.h.length=n1) (h2:s.p.length=n2):
 Calls Tryz.prog 223 #[.agg (s.arr (.slice A1 n1 c1) (.slice A2 n2 c2))] w fun e w'=>e=.returned (.bool s.zeroB)∧Below w.heap.size w w':=by
 have z1:=fun w=>zero_run s.f w
 have z2:=fun w=>zero_run s.c w
 have HZ:=Lib.hid (show s.zeroB=((s.r.id==0)&&(s.r.ep==0)&&((s.r.lo:Int)==0)&&((s.r.hi:Int)==0)&&s.f.zero&&s.c.zero&&((n1:Int)==0)&&((n2:Int)==0)) by unfold Stt.zeroB;rw[h1,h2])
 clear h1 h2
 generalize s.f.zero=b1 at*
 generalize s.c.zero=b2 at*
 go_enter Tryz.func223,Tryz.ntmps223
 go_wp2
 all_goals go_ret
 all_goals refine⟨ret_bool ?_,by go_grown⟩
 all_goals rw[HZ.out]
 all_goals simp_all
def Rc.zeroB (r:Rc):Bool:=decide (r.t=⟨0,0,0⟩)&&r.s.zero&&r.pv.zero&& !r.cm&&(r.n==0)&&((r.pt:Int)==0)&&((r.rd.length:Int)==0)&&((r.wr.length:Int)==0)&&((r.ps.length:Int)==0)&&((r.pr.length:Int)==0)&&r.st.zeroB
theorem zero_any (r:Rc) (h:Hds) (w:World) (h1:r.rd.length=h.a.n) (h2:r.wr.length=h.b.n) (h3:r.ps.length=h.c.n) (h4:r.pr.length=h.d.n) (h5:r.st.h.length=h.e.n) (h6:r.st.p.length=h.f.n):
 Calls Tryz.prog 198 #[.agg (r.vals h)] w fun e w'=>e=.returned (.bool r.zeroB)∧Below w.heap.size w w':=by
 have z0:=fun w=>txn_run r.t ⟨0,0,0⟩ w
 have z1:=fun w=>zero_run r.s w
 have z2:=fun w=>zero_run r.pv w
 have hS:=fun w=>zeroState_any r.st h.e.A h.f.A h.e.n h.f.n h.e.c h.f.c w h5 h6
 have HZ:=Lib.hid (show r.zeroB=(decide (r.t=⟨0,0,0⟩)&&r.s.zero&&r.pv.zero&& !r.cm&&(r.n==0)&&((r.pt:Int)==0)&&((h.a.n:Int)==0)&&((h.b.n:Int)==0)&&((h.c.n:Int)==0)&&((h.d.n:Int)==0)&&r.st.zeroB) by unfold Rc.zeroB;rw[h1,h2,h3,h4])
 clear h1 h2 h3 h4 h5 h6
 generalize decide (r.t=⟨0,0,0⟩)=b0 at*
 generalize r.s.zero=b1 at*
 generalize r.pv.zero=b2 at*
 generalize r.st.zeroB=b3 at*
 have hX:Below w.heap.size w (w.alloc (.cells (r.vals h) 69)):=by go_grown
 go_enter Tryz.func198,Tryz.ntmps198
 go_wp2_with ((with_reducible refine(hS _).mono ?_);rintro e w1 ⟨rfl,hb1⟩)
 all_goals go_ret
 all_goals refine⟨ret_bool ?_,by first|exact hX|exact hX.trans (hb1.mono hX.size)⟩
 all_goals rw[HZ.out]
 all_goals simp_all
def zeroS:Stt:=⟨⟨0,0,0,0⟩,⟨0,0,0⟩,⟨0,0,0⟩,[],[]⟩
def wipe (r:Rc):Rc:=
 if r.k=1 then {r with st:=zeroS} else
 if r.k=2 then {r with n:=0} else
 if r.k=3 then {r with t:=⟨0,0,0⟩,s:=⟨0,0,0⟩,rd:=[],wr:=[],ps:=[]} else
 if r.k=4 then {r with t:=⟨0,0,0⟩,cm:=false,s:=⟨0,0,0⟩} else
 if r.k=5 then {r with s:=⟨0,0,0⟩} else
 if r.k=6 then {r with pt:=0,n:=0,s:=⟨0,0,0⟩} else
 if r.k=7 then {r with n:=0} else
 if r.k=8 then {r with n:=0} else
 if r.k=9 then {r with t:=⟨0,0,0⟩,s:=⟨0,0,0⟩,ps:=[]} else
 if r.k=10 then {r with t:=⟨0,0,0⟩} else
 if r.k=11 then {r with pv:=⟨0,0,0⟩,s:=⟨0,0,0⟩,t:=⟨0,0,0⟩,wr:=[]} else
 if r.k=12 then {r with s:=⟨0,0,0⟩,pr:=[]} else
 r
def wipeH (k:Int) (h:Hds):Hds:=
 if k=1 then {h with e:=Hd.nil,f:=Hd.nil} else
 if k=3 then {h with a:=Hd.nil,b:=Hd.nil,c:=Hd.nil} else
 if k=9 then {h with c:=Hd.nil} else
 if k=11 then {h with b:=Hd.nil} else
 if k=12 then {h with d:=Hd.nil} else
 h
theorem wpList_store_second {P:Program} {ops:Array Oper} {rest:List Oper} {o:Oper} {a:Act} {w:World} {Q:Exit→Act→World→Prop} (hgd:o.guard=none) (ty:TypeId) (x y:Operand) (ho:o.op=.store ty x y)
 (cells:Array Value) (hx:a.eval x=.pointer (some ⟨w.heap.size+1,0,none⟩)) (hy:a.eval y=.agg cells)
 (t:TypeId) (old:Array Value) (ob:Obj) (hi:(P.info? ty).map (·.size)=some cells.size)
 (hold:old.size=cells.size) (h1:cells.all (·.oneCell')=true)
 (h:wpList P ops Q rest (a.put o.dst undef) ((w.alloc ob).alloc (.cells cells t))):wpList P ops Q (o::rest) a ((w.alloc ob).alloc (.cells old t)):=by
 have hs:(w.alloc ob).heap.size=w.heap.size+1:=by simp
 exact wpList_store_new hgd ty x y ho cells (by rw[hs];exact hx) hy t old hi hold h1 h
def kindB (k:Int):Bool:=decide (1≤k∧k≤12)
theorem without_1 (r:Rc) (h:Hds) (w:World) (hk:r.k=1):
 Calls Tryz.prog 197 #[.agg (r.vals h)] w fun e w'=>e=.returned (.tuple #[.agg (({r with st:=zeroS}:Rc).vals {h with e:=Hd.nil,f:=Hd.nil}),.bool true])∧Below w.heap.size w w':=by
 obtain⟨k,t,s,pv,cm,n,pt,rd,wr,ps,pr,st⟩:=r
 change k=1 at hk
 subst hk
 go_enter Tryz.func197,Tryz.ntmps197
 go_upto_region 25 with fail
 go_wp2_with (first
  |(refine wpList_load_row rfl 69 _ rfl _ rfl _ _ (0,0) _ ((Blk.new _ _ _).alloc _) rfl rfl (by kernel_rfl) ?_)
  |(refine wpList_store_second rfl 69 _ _ rfl _ rfl rfl _ _ _ (by kernel_rfl) (by kernel_rfl) (by kernel_rfl) ?_))
 refine post_cell_tmp rfl (by rfl) (Blk.new' (g:=w.heap.size+1) _ _ (by simp)) rfl rfl (by kernel_rfl) ?_
 exact⟨rfl,by go_grown⟩
theorem without_2 (r:Rc) (h:Hds) (w:World) (hk:r.k=2):
 Calls Tryz.prog 197 #[.agg (r.vals h)] w fun e w'=>e=.returned (.tuple #[.agg (({r with n:=0}:Rc).vals h),.bool true])∧Below w.heap.size w w':=by
 obtain⟨k,t,s,pv,cm,n,pt,rd,wr,ps,pr,st⟩:=r
 change k=2 at hk
 subst hk
 go_enter Tryz.func197,Tryz.ntmps197
 go_upto_region 25 with fail
 go_wp2_with (first
  |(refine wpList_load_row rfl 69 _ rfl _ rfl _ _ (0,0) _ ((Blk.new _ _ _).alloc _) rfl rfl (by kernel_rfl) ?_)
  |(refine wpList_store_second rfl 69 _ _ rfl _ rfl rfl _ _ _ (by kernel_rfl) (by kernel_rfl) (by kernel_rfl) ?_))
 refine post_cell_tmp rfl (by rfl) (Blk.new' (g:=w.heap.size+1) _ _ (by simp)) rfl rfl (by kernel_rfl) ?_
 exact⟨rfl,by go_grown⟩
theorem without_3 (r:Rc) (h:Hds) (w:World) (hk:r.k=3):
 Calls Tryz.prog 197 #[.agg (r.vals h)] w fun e w'=>e=.returned (.tuple #[.agg (({r with t:=⟨0,0,0⟩,s:=⟨0,0,0⟩,rd:=[],wr:=[],ps:=[]}:Rc).vals {h with a:=Hd.nil,b:=Hd.nil,c:=Hd.nil}),.bool true])∧Below w.heap.size w w':=by
 obtain⟨k,t,s,pv,cm,n,pt,rd,wr,ps,pr,st⟩:=r
 change k=3 at hk
 subst hk
 go_enter Tryz.func197,Tryz.ntmps197
 go_upto_region 25 with fail
 go_wp2_with (first
  |(refine wpList_load_row rfl 69 _ rfl _ rfl _ _ (0,0) _ ((Blk.new _ _ _).alloc _) rfl rfl (by kernel_rfl) ?_)
  |(refine wpList_store_second rfl 69 _ _ rfl _ rfl rfl _ _ _ (by kernel_rfl) (by kernel_rfl) (by kernel_rfl) ?_))
 refine post_cell_tmp rfl (by rfl) (Blk.new' (g:=w.heap.size+1) _ _ (by simp)) rfl rfl (by kernel_rfl) ?_
 exact⟨rfl,by go_grown⟩
theorem without_4 (r:Rc) (h:Hds) (w:World) (hk:r.k=4):
 Calls Tryz.prog 197 #[.agg (r.vals h)] w fun e w'=>e=.returned (.tuple #[.agg (({r with t:=⟨0,0,0⟩,cm:=false,s:=⟨0,0,0⟩}:Rc).vals h),.bool true])∧Below w.heap.size w w':=by
 obtain⟨k,t,s,pv,cm,n,pt,rd,wr,ps,pr,st⟩:=r
 change k=4 at hk
 subst hk
 go_enter Tryz.func197,Tryz.ntmps197
 go_upto_region 25 with fail
 go_wp2_with (first
  |(refine wpList_load_row rfl 69 _ rfl _ rfl _ _ (0,0) _ ((Blk.new _ _ _).alloc _) rfl rfl (by kernel_rfl) ?_)
  |(refine wpList_store_second rfl 69 _ _ rfl _ rfl rfl _ _ _ (by kernel_rfl) (by kernel_rfl) (by kernel_rfl) ?_))
 refine post_cell_tmp rfl (by rfl) (Blk.new' (g:=w.heap.size+1) _ _ (by simp)) rfl rfl (by kernel_rfl) ?_
 exact⟨rfl,by go_grown⟩
theorem without_5 (r:Rc) (h:Hds) (w:World) (hk:r.k=5):
 Calls Tryz.prog 197 #[.agg (r.vals h)] w fun e w'=>e=.returned (.tuple #[.agg (({r with s:=⟨0,0,0⟩}:Rc).vals h),.bool true])∧Below w.heap.size w w':=by
 obtain⟨k,t,s,pv,cm,n,pt,rd,wr,ps,pr,st⟩:=r
 change k=5 at hk
 subst hk
 go_enter Tryz.func197,Tryz.ntmps197
 go_upto_region 25 with fail
 go_wp2_with (first
  |(refine wpList_load_row rfl 69 _ rfl _ rfl _ _ (0,0) _ ((Blk.new _ _ _).alloc _) rfl rfl (by kernel_rfl) ?_)
  |(refine wpList_store_second rfl 69 _ _ rfl _ rfl rfl _ _ _ (by kernel_rfl) (by kernel_rfl) (by kernel_rfl) ?_))
 refine post_cell_tmp rfl (by rfl) (Blk.new' (g:=w.heap.size+1) _ _ (by simp)) rfl rfl (by kernel_rfl) ?_
 exact⟨rfl,by go_grown⟩
theorem without_6 (r:Rc) (h:Hds) (w:World) (hk:r.k=6):
 Calls Tryz.prog 197 #[.agg (r.vals h)] w fun e w'=>e=.returned (.tuple #[.agg (({r with pt:=0,n:=0,s:=⟨0,0,0⟩}:Rc).vals h),.bool true])∧Below w.heap.size w w':=by
 obtain⟨k,t,s,pv,cm,n,pt,rd,wr,ps,pr,st⟩:=r
 change k=6 at hk
 subst hk
 go_enter Tryz.func197,Tryz.ntmps197
 go_upto_region 25 with fail
 go_wp2_with (first
  |(refine wpList_load_row rfl 69 _ rfl _ rfl _ _ (0,0) _ ((Blk.new _ _ _).alloc _) rfl rfl (by kernel_rfl) ?_)
  |(refine wpList_store_second rfl 69 _ _ rfl _ rfl rfl _ _ _ (by kernel_rfl) (by kernel_rfl) (by kernel_rfl) ?_))
 refine post_cell_tmp rfl (by rfl) (Blk.new' (g:=w.heap.size+1) _ _ (by simp)) rfl rfl (by kernel_rfl) ?_
 exact⟨rfl,by go_grown⟩
theorem without_7 (r:Rc) (h:Hds) (w:World) (hk:r.k=7):
 Calls Tryz.prog 197 #[.agg (r.vals h)] w fun e w'=>e=.returned (.tuple #[.agg (({r with n:=0}:Rc).vals h),.bool true])∧Below w.heap.size w w':=by
 obtain⟨k,t,s,pv,cm,n,pt,rd,wr,ps,pr,st⟩:=r
 change k=7 at hk
 subst hk
 go_enter Tryz.func197,Tryz.ntmps197
 go_upto_region 25 with fail
 go_wp2_with (first
  |(refine wpList_load_row rfl 69 _ rfl _ rfl _ _ (0,0) _ ((Blk.new _ _ _).alloc _) rfl rfl (by kernel_rfl) ?_)
  |(refine wpList_store_second rfl 69 _ _ rfl _ rfl rfl _ _ _ (by kernel_rfl) (by kernel_rfl) (by kernel_rfl) ?_))
 refine post_cell_tmp rfl (by rfl) (Blk.new' (g:=w.heap.size+1) _ _ (by simp)) rfl rfl (by kernel_rfl) ?_
 exact⟨rfl,by go_grown⟩
theorem without_8 (r:Rc) (h:Hds) (w:World) (hk:r.k=8):
 Calls Tryz.prog 197 #[.agg (r.vals h)] w fun e w'=>e=.returned (.tuple #[.agg (({r with n:=0}:Rc).vals h),.bool true])∧Below w.heap.size w w':=by
 obtain⟨k,t,s,pv,cm,n,pt,rd,wr,ps,pr,st⟩:=r
 change k=8 at hk
 subst hk
 go_enter Tryz.func197,Tryz.ntmps197
 go_upto_region 25 with fail
 go_wp2_with (first
  |(refine wpList_load_row rfl 69 _ rfl _ rfl _ _ (0,0) _ ((Blk.new _ _ _).alloc _) rfl rfl (by kernel_rfl) ?_)
  |(refine wpList_store_second rfl 69 _ _ rfl _ rfl rfl _ _ _ (by kernel_rfl) (by kernel_rfl) (by kernel_rfl) ?_))
 refine post_cell_tmp rfl (by rfl) (Blk.new' (g:=w.heap.size+1) _ _ (by simp)) rfl rfl (by kernel_rfl) ?_
 exact⟨rfl,by go_grown⟩
theorem without_9 (r:Rc) (h:Hds) (w:World) (hk:r.k=9):
 Calls Tryz.prog 197 #[.agg (r.vals h)] w fun e w'=>e=.returned (.tuple #[.agg (({r with t:=⟨0,0,0⟩,s:=⟨0,0,0⟩,ps:=[]}:Rc).vals {h with c:=Hd.nil}),.bool true])∧Below w.heap.size w w':=by
 obtain⟨k,t,s,pv,cm,n,pt,rd,wr,ps,pr,st⟩:=r
 change k=9 at hk
 subst hk
 go_enter Tryz.func197,Tryz.ntmps197
 go_upto_region 25 with fail
 go_wp2_with (first
  |(refine wpList_load_row rfl 69 _ rfl _ rfl _ _ (0,0) _ ((Blk.new _ _ _).alloc _) rfl rfl (by kernel_rfl) ?_)
  |(refine wpList_store_second rfl 69 _ _ rfl _ rfl rfl _ _ _ (by kernel_rfl) (by kernel_rfl) (by kernel_rfl) ?_))
 refine post_cell_tmp rfl (by rfl) (Blk.new' (g:=w.heap.size+1) _ _ (by simp)) rfl rfl (by kernel_rfl) ?_
 exact⟨rfl,by go_grown⟩
theorem without_10 (r:Rc) (h:Hds) (w:World) (hk:r.k=10):
 Calls Tryz.prog 197 #[.agg (r.vals h)] w fun e w'=>e=.returned (.tuple #[.agg (({r with t:=⟨0,0,0⟩}:Rc).vals h),.bool true])∧Below w.heap.size w w':=by
 obtain⟨k,t,s,pv,cm,n,pt,rd,wr,ps,pr,st⟩:=r
 change k=10 at hk
 subst hk
 go_enter Tryz.func197,Tryz.ntmps197
 go_upto_region 25 with fail
 go_wp2_with (first
  |(refine wpList_load_row rfl 69 _ rfl _ rfl _ _ (0,0) _ ((Blk.new _ _ _).alloc _) rfl rfl (by kernel_rfl) ?_)
  |(refine wpList_store_second rfl 69 _ _ rfl _ rfl rfl _ _ _ (by kernel_rfl) (by kernel_rfl) (by kernel_rfl) ?_))
 refine post_cell_tmp rfl (by rfl) (Blk.new' (g:=w.heap.size+1) _ _ (by simp)) rfl rfl (by kernel_rfl) ?_
 exact⟨rfl,by go_grown⟩
theorem without_11 (r:Rc) (h:Hds) (w:World) (hk:r.k=11):
 Calls Tryz.prog 197 #[.agg (r.vals h)] w fun e w'=>e=.returned (.tuple #[.agg (({r with pv:=⟨0,0,0⟩,s:=⟨0,0,0⟩,t:=⟨0,0,0⟩,wr:=[]}:Rc).vals {h with b:=Hd.nil}),.bool true])∧Below w.heap.size w w':=by
 obtain⟨k,t,s,pv,cm,n,pt,rd,wr,ps,pr,st⟩:=r
 change k=11 at hk
 subst hk
 go_enter Tryz.func197,Tryz.ntmps197
 go_upto_region 25 with fail
 go_wp2_with (first
  |(refine wpList_load_row rfl 69 _ rfl _ rfl _ _ (0,0) _ ((Blk.new _ _ _).alloc _) rfl rfl (by kernel_rfl) ?_)
  |(refine wpList_store_second rfl 69 _ _ rfl _ rfl rfl _ _ _ (by kernel_rfl) (by kernel_rfl) (by kernel_rfl) ?_))
 refine post_cell_tmp rfl (by rfl) (Blk.new' (g:=w.heap.size+1) _ _ (by simp)) rfl rfl (by kernel_rfl) ?_
 exact⟨rfl,by go_grown⟩
theorem without_12 (r:Rc) (h:Hds) (w:World) (hk:r.k=12):
 Calls Tryz.prog 197 #[.agg (r.vals h)] w fun e w'=>e=.returned (.tuple #[.agg (({r with s:=⟨0,0,0⟩,pr:=[]}:Rc).vals {h with d:=Hd.nil}),.bool true])∧Below w.heap.size w w':=by
 obtain⟨k,t,s,pv,cm,n,pt,rd,wr,ps,pr,st⟩:=r
 change k=12 at hk
 subst hk
 go_enter Tryz.func197,Tryz.ntmps197
 go_upto_region 25 with fail
 go_wp2_with (first
  |(refine wpList_load_row rfl 69 _ rfl _ rfl _ _ (0,0) _ ((Blk.new _ _ _).alloc _) rfl rfl (by kernel_rfl) ?_)
  |(refine wpList_store_second rfl 69 _ _ rfl _ rfl rfl _ _ _ (by kernel_rfl) (by kernel_rfl) (by kernel_rfl) ?_))
 refine post_cell_tmp rfl (by rfl) (Blk.new' (g:=w.heap.size+1) _ _ (by simp)) rfl rfl (by kernel_rfl) ?_
 exact⟨rfl,by go_grown⟩
theorem without_0 (r:Rc) (h:Hds) (w:World) (hk:kindB r.k=false):
 Calls Tryz.prog 197 #[.agg (r.vals h)] w fun e w'=>e=.returned (.tuple #[.agg (r.vals h),.bool false])∧Below w.heap.size w w':=by
 obtain⟨k,t,s,pv,cm,n,pt,rd,wr,ps,pr,st⟩:=r
 change kindB k=false at hk
 unfold kindB at hk
 rw[decide_eq_false_iff_not]at hk
 have e1:(k==1)=false:=by simp;omega
 have e2:(k==2)=false:=by simp;omega
 have e3:(k==3)=false:=by simp;omega
 have e4:(k==4)=false:=by simp;omega
 have e5:(k==5)=false:=by simp;omega
 have e6:(k==6)=false:=by simp;omega
 have e7:(k==7)=false:=by simp;omega
 have e8:(k==8)=false:=by simp;omega
 have e9:(k==9)=false:=by simp;omega
 have e10:(k==10)=false:=by simp;omega
 have e11:(k==11)=false:=by simp;omega
 have e12:(k==12)=false:=by simp;omega
 clear hk
 go_enter Tryz.func197,Tryz.ntmps197
 go_upto_region 2 with fail
 go_wp2_with (first
  |(refine wpList_load_row rfl 69 _ rfl _ rfl _ _ (0,0) _ ((Blk.new _ _ _).alloc _) rfl rfl (by kernel_rfl) ?_)
  |(refine wpList_store_second rfl 69 _ _ rfl _ rfl rfl _ _ _ (by kernel_rfl) (by kernel_rfl) (by kernel_rfl) ?_))
 refine post_cell_tmp rfl (by rfl) (Blk.new' (g:=w.heap.size+1) _ _ (by simp)) rfl rfl (by kernel_rfl) ?_
 exact⟨rfl,by go_grown⟩
theorem without_any (r:Rc) (h:Hds) (w:World):
 Calls Tryz.prog 197 #[.agg (r.vals h)] w fun e w'=>e=.returned (.tuple #[.agg ((wipe r).vals (wipeH r.k h)),.bool (kindB r.k)])∧Below w.heap.size w w':=by
 cases hk:kindB r.k
 · have hk':=hk
   unfold kindB at hk'
   rw[decide_eq_false_iff_not]at hk'
   have e1:wipe r=r:=by unfold wipe;repeat (rw[if_neg (by omega)])
   have e2:wipeH r.k h=h:=by unfold wipeH;repeat (rw[if_neg (by omega)])
   rw[e1,e2]
   exact without_0 r h w hk
 · unfold kindB at hk
   rw[decide_eq_true_eq]at hk
   have hc:r.k=1∨r.k=2∨r.k=3∨r.k=4∨r.k=5∨r.k=6∨r.k=7∨r.k=8∨r.k=9∨r.k=10∨r.k=11∨r.k=12:=by omega
   rcases hc with e|e|e|e|e|e|e|e|e|e|e|e
   · have e1:wipe r={r with st:=zeroS}:=by unfold wipe;simp[e]
     have e2:wipeH r.k h={h with e:=Hd.nil,f:=Hd.nil}:=by unfold wipeH;simp[e]
     rw[e1,e2];exact without_1 r h w e
   · have e1:wipe r={r with n:=0}:=by unfold wipe;simp[e]
     have e2:wipeH r.k h=h:=by unfold wipeH;simp[e]
     rw[e1,e2];exact without_2 r h w e
   · have e1:wipe r={r with t:=⟨0,0,0⟩,s:=⟨0,0,0⟩,rd:=[],wr:=[],ps:=[]}:=by unfold wipe;simp[e]
     have e2:wipeH r.k h={h with a:=Hd.nil,b:=Hd.nil,c:=Hd.nil}:=by unfold wipeH;simp[e]
     rw[e1,e2];exact without_3 r h w e
   · have e1:wipe r={r with t:=⟨0,0,0⟩,cm:=false,s:=⟨0,0,0⟩}:=by unfold wipe;simp[e]
     have e2:wipeH r.k h=h:=by unfold wipeH;simp[e]
     rw[e1,e2];exact without_4 r h w e
   · have e1:wipe r={r with s:=⟨0,0,0⟩}:=by unfold wipe;simp[e]
     have e2:wipeH r.k h=h:=by unfold wipeH;simp[e]
     rw[e1,e2];exact without_5 r h w e
   · have e1:wipe r={r with pt:=0,n:=0,s:=⟨0,0,0⟩}:=by unfold wipe;simp[e]
     have e2:wipeH r.k h=h:=by unfold wipeH;simp[e]
     rw[e1,e2];exact without_6 r h w e
   · have e1:wipe r={r with n:=0}:=by unfold wipe;simp[e]
     have e2:wipeH r.k h=h:=by unfold wipeH;simp[e]
     rw[e1,e2];exact without_7 r h w e
   · have e1:wipe r={r with n:=0}:=by unfold wipe;simp[e]
     have e2:wipeH r.k h=h:=by unfold wipeH;simp[e]
     rw[e1,e2];exact without_8 r h w e
   · have e1:wipe r={r with t:=⟨0,0,0⟩,s:=⟨0,0,0⟩,ps:=[]}:=by unfold wipe;simp[e]
     have e2:wipeH r.k h={h with c:=Hd.nil}:=by unfold wipeH;simp[e]
     rw[e1,e2];exact without_9 r h w e
   · have e1:wipe r={r with t:=⟨0,0,0⟩}:=by unfold wipe;simp[e]
     have e2:wipeH r.k h=h:=by unfold wipeH;simp[e]
     rw[e1,e2];exact without_10 r h w e
   · have e1:wipe r={r with pv:=⟨0,0,0⟩,s:=⟨0,0,0⟩,t:=⟨0,0,0⟩,wr:=[]}:=by unfold wipe;simp[e]
     have e2:wipeH r.k h={h with b:=Hd.nil}:=by unfold wipeH;simp[e]
     rw[e1,e2];exact without_11 r h w e
   · have e1:wipe r={r with s:=⟨0,0,0⟩,pr:=[]}:=by unfold wipe;simp[e]
     have e2:wipeH r.k h={h with d:=Hd.nil}:=by unfold wipeH;simp[e]
     rw[e1,e2];exact without_12 r h w e
end Go.Proofs.YtcalkfgibflbnaaGreat
/- The walks of the document's upto (of all), Newest, old. -/
namespace Go.Proofs.YtcalkfgibflbnaaGreat
set_option maxHeartbeats 8000000
set_option maxRecDepth 100000
set_option linter.unusedVariables false
open Go.RowKit Fl
attribute [local go_sem] run_store_float
def rvers (key:ByteArray) (l:List Hs):List Vn:=match l.find? fun h=>h.key.toList==key.toList with|some h=>h.vs|none=>[]
theorem at_find (key:ByteArray):∀(l:List Hs) (k:Nat),(atFrom key k l<0∧(l.find? fun h=>h.key.toList==key.toList)=none)∨∃(i:Nat) (h:Hs),atFrom key k l=((k+i:Nat):Int)∧l[i]?=some h∧(l.find? fun h=>h.key.toList==key.toList)=some h:=by
 intro l
 induction l with
 |nil=>intro k;exact .inl ⟨by show (-1:Int)<0;omega,rfl⟩
 |cons a l ih=>
  intro k
  by_cases he:(a.key.toList==key.toList)=true
  · refine .inr ⟨0,a,?_,rfl,?_⟩
    · show (if a.key.toList==key.toList then (k:Int) else _)=_;rw[if_pos he];simp
    · rw[List.find?_cons,he]
  · have e1:atFrom key k (a::l)=atFrom key (k+1) l:=by show (if a.key.toList==key.toList then (k:Int) else _)=_;rw[if_neg he]
    have e2:(a.key.toList==key.toList)=false:=by simpa using he
    rw[e1,List.find?_cons,e2]
    rcases ih (k+1) with ⟨h1,h2⟩|⟨i,h,h1,h2,h3⟩
    · exact .inl ⟨h1,h2⟩
    · exact .inr ⟨i+1,h,by rw[h1];omega,h2,h3⟩
theorem at_vers (key:ByteArray) (l:List Hs):(atFrom key 0 l<0∧rvers key l=[])∨∃(i:Nat) (h:Hs),atFrom key 0 l=(i:Int)∧l[i]?=some h∧rvers key l=h.vs:=by
 unfold rvers
 rcases at_find key l 0 with ⟨h1,h2⟩|⟨i,h,h1,h2,h3⟩
 · exact .inl ⟨h1,by rw[h2]⟩
 · exact .inr ⟨i,h,by rw[h1];omega,h2,by rw[h3]⟩
theorem rupto_any (g:Nat) (B1 B2:Option Addr) (m1 d1 m2 d2:Nat) (L:Sp) (Hl:List Hs) (Pl:List Pn) (key:ByteArray) (s:Sp) (w:World) (h:RSt w g B1 m1 d1 B2 m2 d2 L Hl Pl):
 Calls Tryz.prog 233 #[.pointer (some ⟨g,0,none⟩),.string key,s.val,.bool true] w fun e w'=>e=.returned (.agg (seenArr key (lastV (rvers key Hl))))∧Below w.heap.size w w':=by
 have hm:=h.m1
 unfold maxLen at hm
 have hl:=h.hs.1
 have hX:Below w.heap.size w (((w.alloc (.cells s.arr 26)).alloc (.cells (seenArr ⟨#[]⟩ zeroVn) 104)).alloc (.cells (seenArr key zeroVn) 104)):=by go_grown
 have i8:Blk (((w.alloc (.cells s.arr 26)).alloc (.cells (seenArr ⟨#[]⟩ zeroVn) 104)).alloc (.cells (seenArr key zeroVn) 104)) (w.heap.size+1) 104 (seenArr ⟨#[]⟩ zeroVn):=(Blk.new' _ _ (by simp)).alloc _
 have i9:Blk (((w.alloc (.cells s.arr 26)).alloc (.cells (seenArr ⟨#[]⟩ zeroVn) 104)).alloc (.cells (seenArr key zeroVn) 104)) (w.heap.size+1+1) 104 (seenArr key zeroVn):=Blk.new' _ _ (by simp)
 have hA:=rat_any g B1 B2 m1 d1 m2 d2 L Hl Pl key _ (h.below hX)
 rcases at_vers key Hl with ⟨hneg,hv⟩|⟨i,hh,hat,hi,hv⟩
 · have HV:=Lib.hid hv
   clear hv hl
   generalize atFrom key 0 Hl=z at*
   have hz:decide (z<0)=true:=by simp;omega
   go_enter Tryz.func233,Tryz.ntmps233
   go_wp2_with (go_at_call 214;fail)
   refine hA.mono ?_
   rintro e w1 ⟨rfl,hb1⟩
   have b8:=i8.below hb1 i8.lt
   have b9:=i9.below hb1 i9.lt
   have hb:=hX.trans (hb1.mono hX.size)
   obtain⟨g9,x0,x1,x2,x3,x4,x5,x6⟩:=b9.sevenC
   have l8:=b8.lt
   go_wp2_with (refine wpList_store_row rfl 104 _ _ rfl _ _ rfl rfl _ _ b8 (by kernel_rfl) (by kernel_rfl) (by kernel_rfl) ?_)
   refine post_cell rfl (by rfl) (b8.setRow _) rfl rfl (by kernel_rfl) ?_
   rw[HV.out]
   exact⟨rfl,below_setRow hb (by omega) _⟩
 · have HV:=Lib.hid hv
   have hilt:i<m1:=by have:=(List.getElem?_eq_some_iff.1 hi).1;omega
   rw[hat]at hA
   have HI:=Lib.hid hi
   have hz:decide ((i:Int)<0)=false:=by simp
   have hi0:(0:Int)≤(i:Int):=by omega
   have hi1:(i:Int)<(m1:Int):=by omega
   clear hv hl hat hi
   go_enter Tryz.func233,Tryz.ntmps233
   go_wp2_with (go_at_call 214;fail)
   refine hA.mono ?_
   rintro e w1 ⟨rfl,hb1⟩
   have b8:=i8.below hb1 i8.lt
   have b9:=i9.below hb1 i9.lt
   have hb0:=hX.trans (hb1.mono hX.size)
   clear hb1 i8 i9 hX hA
   go_wp2
   go_loopw [11] (fun j wr=>NewestRel key hh.vs w j wr) (fun j _=>hh.vs.length-(intOf j).toNat)
   case atStart=>exact⟨0,by omega,rfl,b8,b9,hb0⟩
   case round=>
    clear b8 b9 hb0
    obtain⟨k,hk',rfl,b8,b9,hb⟩:=hrel
    have hzz:=hb.size
    have hr:=h.below hb
    obtain⟨gl,k0,k1',-,-,-⟩:=hr.blk.fiveC
    obtain⟨ad,a1,A',n',c',rfl,ha1,hbk,hok,d0,d1',hn',hc',hsv⟩:=hr.hist.hs hilt
    obtain rfl:hh=a1:=Option.some.inj (HI.out.symm.trans ha1)
    have hll:=hsv.1
    have hge:n'≤hh.vs.length:=by omega
    have hle:hh.vs.length≤n':=by omega
    unfold maxLen at hc'
    clear hll ha1
    by_cases hlt:k<n'
    · obtain⟨bd,a,rfl,ha,hbk2,hok2,c0,c1,c2,c3,c4,c5⟩:=hsv.vn hlt
      have hd1:decide ((k:Int)<(n':Int))=true:=by simp;omega
      have hk0:(0:Int)≤(k:Int):=by omega
      have hk1:(k:Int)<(n':Int):=by omega
      have HS:=Lib.hid (lastV_take ha)
      have b11:=Blk.new wr 160 #[.int .i64 a.s.w,.int .i64 a.s.l,.int .i64 a.s.n,.int .i64 a.v.k,.float .f64 a.v.n,.string a.v.t]
      have b9':=b9.alloc (.cells #[.int .i64 a.s.w,.int .i64 a.s.l,.int .i64 a.s.n,.int .i64 a.v.k,.float .f64 a.v.n,.string a.v.t] 160)
      have b8':=b8.alloc (.cells #[.int .i64 a.s.w,.int .i64 a.s.l,.int .i64 a.s.n,.int .i64 a.v.k,.float .f64 a.v.n,.string a.v.t] 160)
      have hb':=hb.alloc hzz (.cells #[.int .i64 a.s.w,.int .i64 a.s.l,.int .i64 a.s.n,.int .i64 a.v.k,.float .f64 a.v.n,.string a.v.t] 160)
      clear ha
      go_wp2
      generalize hg11:wr.heap.size=g11 at*
      generalize (wr.alloc (.cells #[.int .i64 a.s.w,.int .i64 a.s.l,.int .i64 a.s.n,.int .i64 a.v.k,.float .f64 a.v.n,.string a.v.t] 160))=wz at*
      obtain⟨l11,x0,x1,x2,x3,x4,x5⟩:=b11.six
      obtain⟨g9,y0,y1,y2,y3,y4,y5,y6⟩:=b9'.sevenC
      have ne9:g11≠w.heap.size+1+1:=by have:=b9.lt;omega
      have ne10:¬w.heap.size+1+1=g11:=fun e=>ne9 e.symm
      clear c0 c1 c2 c3 c4 c5
      refine wp_region_held_drew (S:=fun w'=>Blk w' g11 160 #[.int .i64 a.s.w,.int .i64 a.s.l,.int .i64 a.s.n,.int .i64 a.v.k,.float .f64 a.v.n,.string a.v.t]) (by kernel_rfl) b11 (fun hHeld=>?_)
      refine tk 0 53 (v:=.pointer (some ⟨g11,3,none⟩)) rfl (Or.inl ⟨by kernel_rfl,fun w hSw=>by clear hSw;go_simp⟩) hHeld ?_
      go_frame
      refine wpAnyH_take (i:=1) (oi:=⟨some 54,_,_,_,_,_⟩) rfl (by kernel_rfl) (by kernel_rfl) (by kernel_rfl) (fun _ _ _ h=>h) (yieldsIf_load_mid (by kernel_rfl) _ _ rfl g11 3 rfl [.int .i64 a.v.k,.float .f64 a.v.n,.string a.v.t] _ (fun w h=>h.range 3 _ (three_of rfl rfl rfl)) rfl rfl (by kernel_rfl)) hHeld ?_
      go_frame
      refine tk 2 55 (v:=.pointer (some ⟨g11,0,none⟩)) rfl (Or.inl ⟨by kernel_rfl,fun w hSw=>by clear hSw;go_simp⟩) hHeld ?_
      go_frame
      refine wpAnyH_take (i:=3) (oi:=⟨some 56,_,_,_,_,_⟩) rfl (by kernel_rfl) (by kernel_rfl) (by kernel_rfl) (fun _ _ _ h=>h) (yieldsIf_load_mid (by kernel_rfl) _ _ rfl g11 0 rfl [.int .i64 a.s.w,.int .i64 a.s.l,.int .i64 a.s.n] _ (fun w h=>h.range 0 _ (three_of rfl rfl rfl)) rfl rfl (by kernel_rfl)) hHeld ?_
      go_frame
      refine tk 4 57 (v:=.pointer (some ⟨w.heap.size+1+1,1,none⟩)) rfl (Or.inl ⟨by kernel_rfl,fun w hSw=>by clear hSw;go_simp⟩) hHeld ?_
      go_frame
      have b9a:=b9'.drew.setCells3 (x:=.int .i64 a.v.k) (y:=.float .f64 a.v.n) (z:=.string a.v.t)
      have b11a:=b11.drew.setCells3_far (o:=1) (x:=.int .i64 a.v.k) (y:=.float .f64 a.v.n) (z:=.string a.v.t) ne9
      have b8a:=b8'.drew.setCells3_far (b:=w.heap.size+1+1) (o:=1) (x:=.int .i64 a.v.k) (y:=.float .f64 a.v.n) (z:=.string a.v.t) (by omega)
      have hba:=below_setCells3 (b:=w.heap.size+1+1) (o:=1) (x:=.int .i64 a.v.k) (y:=.float .f64 a.v.n) (z:=.string a.v.t) hb'.drew (by omega)
      refine wpAnyH_store_mid (i:=5) (by kernel_rfl) rfl rfl _ _ _ rfl (w.heap.size+1+1) 1 #[.int .i64 a.v.k,.float .f64 a.v.n,.string a.v.t] rfl rfl (b9'.drew.there 1 3 (by simp)) (by kernel_rfl) (by kernel_rfl) b11a ?_
      go_frame
      generalize (wz.drew.setCells (w.heap.size+1+1) 1 [.int .i64 a.v.k,.float .f64 a.v.n,.string a.v.t])=wq at*
      refine tk 6 58 (v:=.pointer (some ⟨w.heap.size+1+1,4,none⟩)) rfl (Or.inl ⟨by kernel_rfl,fun w hSw=>by clear hSw;go_simp⟩) b11a ?_
      go_frame
      have b9c:=b9a.setCells3' (x:=.int .i64 a.s.w) (y:=.int .i64 a.s.l) (z:=.int .i64 a.s.n)
      have b11c:=b11a.setCells3_far (b:=w.heap.size+1+1) (o:=4) (x:=.int .i64 a.s.w) (y:=.int .i64 a.s.l) (z:=.int .i64 a.s.n) ne9
      have b8c:=b8a.setCells3_far (b:=w.heap.size+1+1) (o:=4) (x:=.int .i64 a.s.w) (y:=.int .i64 a.s.l) (z:=.int .i64 a.s.n) (by omega)
      have hbc:=below_setCells3 (b:=w.heap.size+1+1) (o:=4) (x:=.int .i64 a.s.w) (y:=.int .i64 a.s.l) (z:=.int .i64 a.s.n) hba (by omega)
      refine wpAnyH_store_mid (i:=7) (by kernel_rfl) rfl rfl _ _ _ rfl (w.heap.size+1+1) 4 #[.int .i64 a.s.w,.int .i64 a.s.l,.int .i64 a.s.n] rfl rfl (b9a.there 4 3 (by simp)) (by kernel_rfl) (by kernel_rfl) b11c ?_
      generalize (wq.setCells (w.heap.size+1+1) 4 [.int .i64 a.s.w,.int .i64 a.s.l,.int .i64 a.s.n])=wp at*
      refine td ?_
      go_frame
      go_wp2
      go_roundw
      case rel=>
       refine⟨k+1,by omega,by go_num,b8c,?_,hbc⟩
       rw[HS.out]
       exact b9c
      case measure=>simp[intOf];omega
    · have hd1:decide ((k:Int)<(n':Int))=false:=by simp;omega
      rw[List.take_of_length_le (by omega)]at b9
      obtain⟨g9,x0,x1,x2,x3,x4,x5,x6⟩:=b9.sevenC
      have l8:=b8.lt
      go_wp2_with (refine wpList_store_row rfl 104 _ _ rfl _ _ rfl rfl _ _ b8 (by kernel_rfl) (by kernel_rfl) (by kernel_rfl) ?_)
      refine post_cell rfl (by rfl) (b8.setRow _) rfl rfl (by kernel_rfl) ?_
      rw[HV.out]
      exact⟨rfl,below_setRow hb (by omega) _⟩
theorem rnewest_any (g:Nat) (B1 B2:Option Addr) (m1 d1 m2 d2:Nat) (L:Sp) (Hl:List Hs) (Pl:List Pn) (key:ByteArray) (w:World) (h:RSt w g B1 m1 d1 B2 m2 d2 L Hl Pl):
 Calls Tryz.prog 213 #[.pointer (some ⟨g,0,none⟩),.string key] w fun e w'=>e=.returned (.agg (seenArr key (lastV (rvers key Hl))))∧Below w.heap.size w w':=by
 have hX:Below w.heap.size w (w.alloc (.cells (seenArr ⟨#[]⟩ zeroVn) 104)):=by go_grown
 have i4:=Blk.new w 104 (seenArr ⟨#[]⟩ zeroVn)
 have hN:=rupto_any g B1 B2 m1 d1 m2 d2 L Hl Pl key ⟨0,0,0⟩ _ (h.below hX)
 go_enter Tryz.func213,Tryz.ntmps213
 go_wp2_with (go_at_call 233;fail)
 refine hN.mono ?_
 rintro e w1 ⟨rfl,hb⟩
 have j4:=i4.below hb i4.lt
 go_wp2_with (refine wpList_store_row rfl 104 _ _ rfl _ _ rfl rfl _ _ j4 (by kernel_rfl) (by kernel_rfl) (by kernel_rfl) ?_)
 refine post_cell rfl (by rfl) (j4.setRow _) rfl rfl (by kernel_rfl) ?_
 exact⟨rfl,below_setRow (hX.trans (hb.mono hX.size)) (by omega) _⟩
end Go.Proofs.YtcalkfgibflbnaaGreat
/- The walk of raceref's State against a state that is nothing. -/
namespace Go.Proofs.YtcalkfgibflbnaaGreat
set_option maxHeartbeats 4000000
set_option maxRecDepth 100000
set_option linter.unusedVariables false
open Go.RowKit Fl
attribute [local go_sem] run_store_float
theorem hists_nil (A:Option Addr) (n c:Nat) (w:World):Calls Tryz.prog 79 #[.slice A n c,.slice none 0 0] w fun e w'=>e=.returned (.bool ((n:Int)==0))∧w=w':=by
 by_cases hn:n=0
 · subst hn
   go_enter Tryz.func79,Tryz.ntmps79
   go_wp2
   go_loopw [5] (fun i wr=>i=.int .i64 0∧w=wr) (fun _ _=>0)
   case atStart=>exact⟨rfl,rfl⟩
   case round=>
    obtain⟨rfl,rfl⟩:=hrel
    go_wp2
    go_ret
    exact⟨rfl,rfl⟩
 · have hb0:((n:Int) !=(0:Int))=true:=by simp;omega
   have hb1:((n:Int)==(0:Int))=false:=by simp;omega
   rw[hb1]
   go_enter Tryz.func79,Tryz.ntmps79
   go_wp2
   go_ret
   exact⟨rfl,rfl⟩
theorem pends_nil (A:Option Addr) (n c:Nat) (w:World):Calls Tryz.prog 80 #[.slice A n c,.slice none 0 0] w fun e w'=>e=.returned (.bool ((n:Int)==0))∧w=w':=by
 by_cases hn:n=0
 · subst hn
   go_enter Tryz.func80,Tryz.ntmps80
   go_wp2
   go_loopw [5] (fun i wr=>i=.int .i64 0∧w=wr) (fun _ _=>0)
   case atStart=>exact⟨rfl,rfl⟩
   case round=>
    obtain⟨rfl,rfl⟩:=hrel
    go_wp2
    go_ret
    exact⟨rfl,rfl⟩
 · have hb0:((n:Int) !=(0:Int))=true:=by simp;omega
   have hb1:((n:Int)==(0:Int))=false:=by simp;omega
   rw[hb1]
   go_enter Tryz.func80,Tryz.ntmps80
   go_wp2
   go_ret
   exact⟨rfl,rfl⟩
theorem stateZ_any (s:Stt) (A1 A2:Option Addr) (n1 n2 c1 c2:Nat) (w:World) (h1:s.h.length=n1) (h2:s.p.length=n2):
 Calls Tryz.prog 40 #[.agg (s.arr (.slice A1 n1 c1) (.slice A2 n2 c2)),.agg (zeroCells)] w fun e w'=>e=.returned (.bool s.zeroB)∧Below w.heap.size w w':=by
 have hR:=fun w=>range_any s.r ⟨0,0,0,0⟩ w
 have z1:=fun w=>zero_run s.f w
 have z2:=fun w=>zero_run s.c w
 have hH:=fun w=>hists_nil A1 n1 c1 w
 have hP:=fun w=>pends_nil A2 n2 c2 w
 have HZ:=Lib.hid (show s.zeroB=(s.r.same ⟨0,0,0,0⟩&&s.f.zero&&s.c.zero&&((n1:Int)==0)&&((n2:Int)==0)) by unfold Stt.zeroB;rw[h1,h2];rfl)
 clear h1 h2
 have hX:Below w.heap.size w ((w.alloc (.cells (s.arr (.slice A1 n1 c1) (.slice A2 n2 c2)) 39)).alloc (.cells (zeroCells) 39)):=by go_grown
 have i2:Blk ((w.alloc (.cells (s.arr (.slice A1 n1 c1) (.slice A2 n2 c2)) 39)).alloc (.cells (zeroCells) 39)) w.heap.size 39 (s.arr (.slice A1 n1 c1) (.slice A2 n2 c2)):=(Blk.new _ _ _).alloc _
 have i3:Blk ((w.alloc (.cells (s.arr (.slice A1 n1 c1) (.slice A2 n2 c2)) 39)).alloc (.cells (zeroCells) 39)) (w.heap.size+1) 39 (zeroCells):=Blk.new' _ _ (by simp)
 generalize s.r.same ⟨0,0,0,0⟩=b0 at*
 generalize s.f.zero=b1 at*
 generalize s.c.zero=b2 at*
 go_enter Tryz.func40,Tryz.ntmps40
 go_wp2_with (first
  |((with_reducible refine(hR _).mono ?_);rintro e w3 ⟨rfl,hb3⟩
    have j2:=i2.below hb3 i2.lt
    have j3:=i3.below hb3 i3.lt
    have hY:=hX.trans (hb3.mono hX.size)
    obtain⟨l2,x0,x1,x2,x3,x4,x5,x6,x7,x8,x9,x10,x11⟩:=dozenC j2
    obtain⟨l3,y0,y1,y2,y3,y4,y5,y6,y7,y8,y9,y10,y11⟩:=dozenC j3)
  |((with_reducible refine(hH _).mono ?_);rintro e w4 ⟨rfl,rfl⟩)
  |((with_reducible refine(hP _).mono ?_);rintro e w5 ⟨rfl,rfl⟩))
 all_goals go_ret
 all_goals refine⟨ret_bool ?_,hY⟩
 all_goals rw[HZ.out]
 all_goals simp_all
end Go.Proofs.YtcalkfgibflbnaaGreat
/- The walk of raceref.Rec. -/
namespace Go.Proofs.YtcalkfgibflbnaaGreat
set_option linter.unusedVariables false
open Go.RowKit Fl
attribute [local go_sem] run_store_float
theorem sp_run (a t:Sp) (w:World):(Op.equalIn 10000 26 (.agg #[.int .i64 a.w,.int .i64 a.l,.int .i64 a.n]) (.agg #[.int .i64 t.w,.int .i64 t.l,.int .i64 t.n])).run Tryz.prog w=.ok (decide (a=t)) w:=by
 have e:decide (a=t)=((a.w==t.w)&&(a.l==t.l)&&(a.n==t.n)):=by
  obtain⟨a1,a2,a3⟩:=a
  obtain⟨b1,b2,b3⟩:=t
  rw[Bool.eq_iff_iff]
  simp[and_assoc]
 rw[e]
 cases h1:(a.w==t.w)<;>cases h2:(a.l==t.l)<;>cases h3:(a.n==t.n)
 all_goals simp[go_sem,h1,h2,h3]
def recSame (a b:Rc) (sb:Bool):Bool:=(a.k==b.k)&&decide (a.t=b.t)&&decide (a.s=b.s)&&decide (a.pv=b.pv)&&(a.cm==b.cm)&&(a.n==b.n)&&((a.pt:Int)==b.pt)&&
 sameL (fun x y=>x.toList==y.toList) a.rd b.rd&&sameL Wt.same a.wr b.wr&&sameL (fun x y=>x==y) a.ps b.ps&&sameL Wt.same a.pr b.pr&&sb
set_option maxRecDepth 100000 in
set_option maxHeartbeats 8000000 in
theorem rec_any (a b:Rc) (h g:Hds) (sb:Bool) (w:World) (i:RcIn w a h) (j:RcIn w b g)
 (hS:∀w',Below w.heap.size w w'→Calls Tryz.prog 40 #[.agg (a.st.arr (.slice h.e.A h.e.n h.e.c) (.slice h.f.A h.f.n h.f.c)),.agg (b.st.arr (.slice g.e.A g.e.n g.e.c) (.slice g.f.A g.f.n g.f.c))] w' fun e w''=>e=.returned (.bool sb)∧Below w'.heap.size w' w''):
 Calls Tryz.prog 78 #[.agg (a.vals h),.agg (b.vals g)] w fun e w'=>e=.returned (.bool (recSame a b sb))∧Below w.heap.size w w':=by
 have z0:=fun w=>txn_run a.t b.t w
 have z1:=fun w=>sp_run a.s b.s w
 have z2:=fun w=>sp_run a.pv b.pv w
 have hB:=fun w=>rbits a.pt b.pt w
 have hT:=fun w' (hb:Below w.heap.size w w')=>texts_any h.a.A g.a.A h.a.n g.a.n h.a.c g.a.c a.rd b.rd w' (i.below hb).rd (j.below hb).rd i.na j.na
 have hW:=fun w' (hb:Below w.heap.size w w')=>wts_any h.b.A g.b.A h.b.n g.b.n h.b.c g.b.c a.wr b.wr w' (i.below hb).wr (j.below hb).wr i.nb j.nb
 have hN:=fun w' (hb:Below w.heap.size w w')=>intsS_any h.c.A g.c.A h.c.n g.c.n h.c.c g.c.c a.ps b.ps w' (i.below hb).ps (j.below hb).ps i.nc j.nc
 have hP:=fun w' (hb:Below w.heap.size w w')=>prsS_any h.d.A g.d.A h.d.n g.d.n h.d.c g.d.c a.pr b.pr w' (i.below hb).pr (j.below hb).pr i.nd j.nd
 have HZ:=Lib.hid (show recSame a b sb=((a.k==b.k)&&decide (a.t=b.t)&&decide (a.s=b.s)&&decide (a.pv=b.pv)&&(a.cm==b.cm)&&(a.n==b.n)&&((a.pt:Int)==b.pt)&&
  sameL (fun x y=>x.toList==y.toList) a.rd b.rd&&sameL Wt.same a.wr b.wr&&sameL (fun x y=>x==y) a.ps b.ps&&sameL Wt.same a.pr b.pr&&sb) from rfl)
 clear i j
 have hX:Below w.heap.size w ((w.alloc (.cells (a.vals h) 69)).alloc (.cells (b.vals g) 69)):=by go_grown
 have B0:Blk ((w.alloc (.cells (a.vals h) 69)).alloc (.cells (b.vals g) 69)) w.heap.size 69 (a.vals h):=(Blk.new _ _ _).alloc _
 have B1:Blk ((w.alloc (.cells (a.vals h) 69)).alloc (.cells (b.vals g) 69)) (w.heap.size+1) 69 (b.vals g):=Blk.new' _ _ (by simp)
 generalize decide (a.t=b.t)=b0 at*
 generalize decide (a.s=b.s)=b1 at*
 generalize decide (a.pv=b.pv)=b2 at*
 generalize sameL (fun x y=>x.toList==y.toList) a.rd b.rd=b3 at*
 generalize sameL Wt.same a.wr b.wr=b4 at*
 generalize sameL (fun x y=>x==y) a.ps b.ps=b5 at*
 generalize sameL Wt.same a.pr b.pr=b6 at*
 go_enter Tryz.func78,Tryz.ntmps78
 go_wp2_with (first
  |((with_reducible refine(hB _).mono ?_);rintro e w0 ⟨rfl,rfl⟩)
  |((with_reducible refine(hT _ hX).mono ?_);rintro e w1 ⟨rfl,hb1⟩
    have hY1:=hX.trans (hb1.mono hX.size)
    have C1:=B0.below hb1 B0.lt
    have lC1:=C1.lt
    have xC1_14:=C1.cell 14
    have D1:=B1.below hb1 B1.lt
    have lD1:=D1.lt
    have xD1_14:=D1.cell 14
    simp only[List.getElem?_toArray,List.getElem?_cons_succ,List.getElem?_cons_zero]at xC1_14 xD1_14)
  |((with_reducible refine(hW _ hY1).mono ?_);rintro e w2 ⟨rfl,hb2⟩
    have hY2:=hY1.trans (hb2.mono hY1.size)
    have C2:=C1.below hb2 C1.lt
    have lC2:=C2.lt
    have xC2_15:=C2.cell 15
    have D2:=D1.below hb2 D1.lt
    have lD2:=D2.lt
    have xD2_15:=D2.cell 15
    simp only[List.getElem?_toArray,List.getElem?_cons_succ,List.getElem?_cons_zero]at xC2_15 xD2_15)
  |((with_reducible refine(hN _ hY2).mono ?_);rintro e w3 ⟨rfl,hb3⟩
    have hY3:=hY2.trans (hb3.mono hY2.size)
    have C3:=C2.below hb3 C2.lt
    have lC3:=C3.lt
    have xC3_16:=C3.cell 16
    have D3:=D2.below hb3 D2.lt
    have lD3:=D3.lt
    have xD3_16:=D3.cell 16
    simp only[List.getElem?_toArray,List.getElem?_cons_succ,List.getElem?_cons_zero]at xC3_16 xD3_16)
  |((with_reducible refine(hP _ hY3).mono ?_);rintro e w4 ⟨rfl,hb4⟩
    have hY4:=hY3.trans (hb4.mono hY3.size)
    have C4:=C3.below hb4 C3.lt
    have lC4:=C4.lt
    have xC4_17:=C4.cell 17
    have xC4_18:=C4.cell 18
    have xC4_19:=C4.cell 19
    have xC4_20:=C4.cell 20
    have xC4_21:=C4.cell 21
    have xC4_22:=C4.cell 22
    have xC4_23:=C4.cell 23
    have xC4_24:=C4.cell 24
    have xC4_25:=C4.cell 25
    have xC4_26:=C4.cell 26
    have xC4_27:=C4.cell 27
    have xC4_28:=C4.cell 28
    have D4:=D3.below hb4 D3.lt
    have lD4:=D4.lt
    have xD4_17:=D4.cell 17
    have xD4_18:=D4.cell 18
    have xD4_19:=D4.cell 19
    have xD4_20:=D4.cell 20
    have xD4_21:=D4.cell 21
    have xD4_22:=D4.cell 22
    have xD4_23:=D4.cell 23
    have xD4_24:=D4.cell 24
    have xD4_25:=D4.cell 25
    have xD4_26:=D4.cell 26
    have xD4_27:=D4.cell 27
    have xD4_28:=D4.cell 28
    simp only[List.getElem?_toArray,List.getElem?_cons_succ,List.getElem?_cons_zero]at xC4_17 xC4_18 xC4_19 xC4_20 xC4_21 xC4_22 xC4_23 xC4_24 xC4_25 xC4_26 xC4_27 xC4_28 xD4_17 xD4_18 xD4_19 xD4_20 xD4_21 xD4_22 xD4_23 xD4_24 xD4_25 xD4_26 xD4_27 xD4_28)
  |((with_reducible refine(hS _ hY4).mono ?_);rintro e w5 ⟨rfl,hb5⟩))
 all_goals go_ret
 all_goals refine⟨ret_bool ?_,by first|exact hY4.trans (hb5.mono hY4.size)|exact hY4|exact hY3|exact hY2|exact hY1|exact hX⟩
 all_goals rw[HZ.out]
 all_goals simp_all
end Go.Proofs.YtcalkfgibflbnaaGreat
