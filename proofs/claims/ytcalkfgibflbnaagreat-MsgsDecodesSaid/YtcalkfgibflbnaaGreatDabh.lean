/- The walk of the document's clash. -/
import Derived.Test.YtcalkfgibflbnaaGreatDaag
import Derived.Test.YtcalkfgibflbnaaGreatDabe
import Derived.Test.YtcalkfgibflbnaaGreatDabi
namespace Go.Proofs.YtcalkfgibflbnaaGreat
set_option linter.unusedVariables false
open Go.RowKit Fl
attribute [local go_sem] run_store_float
theorem any_dropE {α:Type} {f:α→Bool} {l:List α} {k:Nat} {a:α} (h:l[k]?=some a):(l.drop k).any f=(f a||(l.drop (k+1)).any f):=by
 have h1:=List.getElem?_eq_some_iff.1 h
 rw[List.drop_eq_getElem_cons h1.1,h1.2];rfl
def ClashRel {α:Type} (f:α→Bool) (l:List α) (p q:Pn) (A1 A2 A3 A4:Value) (w:World) (i:Value) (wr:World):Prop:=
 ∃k:Nat,k≤l.length∧i=.int .i64 (k:Int)∧(l.drop k).any f=l.any f∧Below w.heap.size w wr∧Blk wr w.heap.size 162 (p.arr A1 A2)∧Blk wr (w.heap.size+1) 162 (q.arr A3 A4)
set_option maxRecDepth 100000 in
set_option maxHeartbeats 8000000 in
theorem rclash_any (p q:Pn) (A1 A2 A3 A4:Option Addr) (n1 n2 n3 n4 c1 c2 c3 c4:Nat) (w:World) (h1:Sl KyRel 1 w w.heap.size A1 n1 p.r) (h2:Sl WtRel 4 w w.heap.size A2 n2 p.w) (h3:Sl KyRel 1 w w.heap.size A3 n3 q.r) (h4:Sl WtRel 4 w w.heap.size A4 n4 q.w)
 (hn1:n1≤maxLen) (hn2:n2≤maxLen) (hn3:n3≤maxLen) (hn4:n4≤maxLen):
 Calls Tryz.prog 178 #[p.val (.slice A1 n1 c1) (.slice A2 n2 c2),q.val (.slice A3 n3 c3) (.slice A4 n4 c4)] w fun e w'=>e=.returned (.bool (clashB q p))∧Below w.heap.size w w':=by
 have hcl:clashB q p=(p.w.any (fun a=>wrL a.key q.w||inL a.key q.r)||p.r.any (fun k=>wrL k q.w)):=rfl
 generalize clashB q p=B at*
 have HW:=Lib.hid (fun (x:ByteArray) w' (hb:Below w.heap.size w w')=>rwrites_any q A3 n3 c3 x A4 n4 c4 w' ((h4.below WtRel.kept hb).more WtRel.kept hb.size) hn4)
 have HR:=Lib.hid (fun (x:ByteArray) w' (hb:Below w.heap.size w w')=>rreads_any q A4 n4 c4 x A3 n3 c3 w' ((h3.below KyRel.kept hb).more KyRel.kept hb.size) hn3)
 unfold maxLen at hn1 hn2
 have hl1:=h1.1
 have hl2:=h2.1
 have hge1:n1≤p.r.length:=by omega
 have hle1:p.r.length≤n1:=by omega
 have hge2:n2≤p.w.length:=by omega
 have hle2:p.w.length≤n2:=by omega
 clear hl1 hl2
 go_enter Tryz.func178,Tryz.ntmps178
 go_wp2
 go_loopw [5] (fun i wr=>ClashRel (fun a:Wt=>wrL a.key q.w||inL a.key q.r) p.w p q (.slice A1 n1 c1) (.slice A2 n2 c2) (.slice A3 n3 c3) (.slice A4 n4 c4) w i wr) (fun i _=>n2-(intOf i).toNat)
 case atStart=>exact⟨0,by omega,rfl,rfl,by go_grown,(Blk.new _ _ _).alloc _,Blk.new' _ _ (by simp)⟩
 case round=>
  obtain⟨k,hk,rfl,hs,hb,b2,b3⟩:=hrel
  have hzz:=hb.size
  obtain⟨l2,x0,x1,x2,x3,x4,x5,x6,z⟩:=b2.eight
  obtain⟨l3,y0,y1,y2,y3,y4,y5,y6,y7⟩:=b3.eight
  by_cases hlt:k<n2
  · obtain⟨ad,a,rfl,ha,hbk,hok,e0,-,-,-⟩:=((h2.below WtRel.kept hb).more WtRel.kept hb.size).wt hlt
    have hd1:decide ((k:Int)<(n2:Int))=true:=by simp;omega
    have hk0:(0:Int)≤(k:Int):=by omega
    have hk1:(k:Int)<(n2:Int):=by omega
    have hcw:=fun w' (hx:Below wr.heap.size wr w')=>HW.out a.key w' (hb.trans (hx.mono hzz))
    have hcr:=fun w' (hx:Below wr.heap.size wr w')=>HR.out a.key w' (hb.trans (hx.mono hzz))
    rw[any_dropE ha]at hs
    clear ha x0 x1 x2 x3 x4 x5 x6
    cases hw:wrL a.key q.w
    · rw[hw]at hcw hs
      cases hr:inL a.key q.r
      · rw[rdL_in,hr]at hcr
        rw[hr]at hs
        have HS:=Lib.hid (show (p.w.drop (k+1)).any (fun a:Wt=>wrL a.key q.w||inL a.key q.r)=p.w.any (fun a:Wt=>wrL a.key q.w||inL a.key q.r) from hs)
        clear hs hw hr
        go_wp2
        refine wp_region_held_drew (S:=fun w'=>w'.cell? ⟨w.heap.size+1,0,none⟩=some (.int .i64 q.t.c)∧w'.cell? ⟨w.heap.size+1,1,none⟩=some (.int .i64 q.t.l)∧w'.cell? ⟨w.heap.size+1,2,none⟩=some (.int .i64 q.t.s)∧w'.cell? ⟨w.heap.size+1,3,none⟩=some (.int .i64 q.s.w)∧w'.cell? ⟨w.heap.size+1,4,none⟩=some (.int .i64 q.s.l)∧w'.cell? ⟨w.heap.size+1,5,none⟩=some (.int .i64 q.s.n)∧w'.cell? ⟨w.heap.size+1,6,none⟩=some (.slice A3 n3 c3)∧w'.cell? ⟨w.heap.size+1,7,none⟩=some (.slice A4 n4 c4)∧w'.cell? ⟨w.heap.size,7,none⟩=some (.slice (some ad) n2 c2)∧w'.cell? (ad.add (k*4))=some (.string a.key)) (by kernel_rfl) ⟨y0,y1,y2,y3,y4,y5,y6,y7,z,e0⟩ (fun hHeld=>?_)
        refine t0 0 14 ?_
        go_frame
        refine t0 1 15 ?_
        go_frame
        refine t0 2 16 ?_
        go_frame
        refine t0 3 17 ?_
        go_frame
        refine t0 4 18 ?_
        go_frame
        refine t0 5 19 ?_
        go_frame
        refine t0 6 20 ?_
        go_frame
        refine tr 7 rfl fun K hK=>?_
        go_simp
        (with_reducible refine(hcw _ (Below.refl _ _).drew).mono ?_)
        rintro e w5 ⟨rfl,hb5⟩
        have hb9:Below wr.heap.size wr w5:=(Below.refl wr.heap.size wr).drew.trans hb5
        refine hK.out _ _ ⟨(hb9.cell (by exact l3)).trans y0,(hb9.cell (by exact l3)).trans y1,(hb9.cell (by exact l3)).trans y2,(hb9.cell (by exact l3)).trans y3,(hb9.cell (by exact l3)).trans y4,(hb9.cell (by exact l3)).trans y5,(hb9.cell (by exact l3)).trans y6,(hb9.cell (by exact l3)).trans y7,(hb9.cell (by exact l2)).trans z,(hb9.cell (by exact hbk)).trans e0⟩ (fun hHeld=>?_)
        clear hK K
        try go_frame
        refine t0 8 22 ?_
        go_frame
        refine t0 9 23 ?_
        go_frame
        refine t0 10 24 ?_
        go_frame
        refine t0 11 25 ?_
        go_frame
        refine t0 12 26 ?_
        go_frame
        refine t0 13 27 ?_
        go_frame
        refine t0 14 28 ?_
        go_frame
        refine t0 15 29 ?_
        go_frame
        refine tr 16 rfl fun K hK=>?_
        go_simp
        (with_reducible refine(hcr _ hb9).mono ?_)
        rintro e w6 ⟨rfl,hb6⟩
        have hb8:Below wr.heap.size wr w6:=hb9.trans (hb6.mono hb9.size)
        refine hK.out _ _ ⟨(hb8.cell (by exact l3)).trans y0,(hb8.cell (by exact l3)).trans y1,(hb8.cell (by exact l3)).trans y2,(hb8.cell (by exact l3)).trans y3,(hb8.cell (by exact l3)).trans y4,(hb8.cell (by exact l3)).trans y5,(hb8.cell (by exact l3)).trans y6,(hb8.cell (by exact l3)).trans y7,(hb8.cell (by exact l2)).trans z,(hb8.cell (by exact hbk)).trans e0⟩ (fun hHeld=>?_)
        clear hK K
        try go_frame
        refine t0 17 31 ?_
        go_frame
        refine td ?_
        go_wp2
        go_roundw
        case rel=>exact⟨k+1,by omega,by go_num,HS.out,hb.trans (hb8.mono hzz),b2.below hb8 l2,b3.below hb8 l3⟩
        case measure=>simp[intOf];omega
      · rw[rdL_in,hr]at hcr
        rw[hr]at hs
        have HF:=Lib.hid (show B=true by rw[hcl,←hs];rfl)
        clear hs hw hr
        go_wp2
        refine wp_region_held_drew (S:=fun w'=>w'.cell? ⟨w.heap.size+1,0,none⟩=some (.int .i64 q.t.c)∧w'.cell? ⟨w.heap.size+1,1,none⟩=some (.int .i64 q.t.l)∧w'.cell? ⟨w.heap.size+1,2,none⟩=some (.int .i64 q.t.s)∧w'.cell? ⟨w.heap.size+1,3,none⟩=some (.int .i64 q.s.w)∧w'.cell? ⟨w.heap.size+1,4,none⟩=some (.int .i64 q.s.l)∧w'.cell? ⟨w.heap.size+1,5,none⟩=some (.int .i64 q.s.n)∧w'.cell? ⟨w.heap.size+1,6,none⟩=some (.slice A3 n3 c3)∧w'.cell? ⟨w.heap.size+1,7,none⟩=some (.slice A4 n4 c4)∧w'.cell? ⟨w.heap.size,7,none⟩=some (.slice (some ad) n2 c2)∧w'.cell? (ad.add (k*4))=some (.string a.key)) (by kernel_rfl) ⟨y0,y1,y2,y3,y4,y5,y6,y7,z,e0⟩ (fun hHeld=>?_)
        refine t0 0 14 ?_
        go_frame
        refine t0 1 15 ?_
        go_frame
        refine t0 2 16 ?_
        go_frame
        refine t0 3 17 ?_
        go_frame
        refine t0 4 18 ?_
        go_frame
        refine t0 5 19 ?_
        go_frame
        refine t0 6 20 ?_
        go_frame
        refine tr 7 rfl fun K hK=>?_
        go_simp
        (with_reducible refine(hcw _ (Below.refl _ _).drew).mono ?_)
        rintro e w5 ⟨rfl,hb5⟩
        have hb9:Below wr.heap.size wr w5:=(Below.refl wr.heap.size wr).drew.trans hb5
        refine hK.out _ _ ⟨(hb9.cell (by exact l3)).trans y0,(hb9.cell (by exact l3)).trans y1,(hb9.cell (by exact l3)).trans y2,(hb9.cell (by exact l3)).trans y3,(hb9.cell (by exact l3)).trans y4,(hb9.cell (by exact l3)).trans y5,(hb9.cell (by exact l3)).trans y6,(hb9.cell (by exact l3)).trans y7,(hb9.cell (by exact l2)).trans z,(hb9.cell (by exact hbk)).trans e0⟩ (fun hHeld=>?_)
        clear hK K
        try go_frame
        refine t0 8 22 ?_
        go_frame
        refine t0 9 23 ?_
        go_frame
        refine t0 10 24 ?_
        go_frame
        refine t0 11 25 ?_
        go_frame
        refine t0 12 26 ?_
        go_frame
        refine t0 13 27 ?_
        go_frame
        refine t0 14 28 ?_
        go_frame
        refine t0 15 29 ?_
        go_frame
        refine tr 16 rfl fun K hK=>?_
        go_simp
        (with_reducible refine(hcr _ hb9).mono ?_)
        rintro e w6 ⟨rfl,hb6⟩
        have hb8:Below wr.heap.size wr w6:=hb9.trans (hb6.mono hb9.size)
        refine hK.out _ _ ⟨(hb8.cell (by exact l3)).trans y0,(hb8.cell (by exact l3)).trans y1,(hb8.cell (by exact l3)).trans y2,(hb8.cell (by exact l3)).trans y3,(hb8.cell (by exact l3)).trans y4,(hb8.cell (by exact l3)).trans y5,(hb8.cell (by exact l3)).trans y6,(hb8.cell (by exact l3)).trans y7,(hb8.cell (by exact l2)).trans z,(hb8.cell (by exact hbk)).trans e0⟩ (fun hHeld=>?_)
        clear hK K
        try go_frame
        refine t0 17 31 ?_
        go_frame
        refine td ?_
        go_wp2
        go_ret
        rw[HF.out]
        exact⟨rfl,hb.trans (hb8.mono hzz)⟩
    · rw[hw]at hcw hs
      have HF:=Lib.hid (show B=true by rw[hcl,←hs];rfl)
      clear hs hw
      go_wp2
      refine wp_region_held_drew (S:=fun w'=>w'.cell? ⟨w.heap.size+1,0,none⟩=some (.int .i64 q.t.c)∧w'.cell? ⟨w.heap.size+1,1,none⟩=some (.int .i64 q.t.l)∧w'.cell? ⟨w.heap.size+1,2,none⟩=some (.int .i64 q.t.s)∧w'.cell? ⟨w.heap.size+1,3,none⟩=some (.int .i64 q.s.w)∧w'.cell? ⟨w.heap.size+1,4,none⟩=some (.int .i64 q.s.l)∧w'.cell? ⟨w.heap.size+1,5,none⟩=some (.int .i64 q.s.n)∧w'.cell? ⟨w.heap.size+1,6,none⟩=some (.slice A3 n3 c3)∧w'.cell? ⟨w.heap.size+1,7,none⟩=some (.slice A4 n4 c4)∧w'.cell? ⟨w.heap.size,7,none⟩=some (.slice (some ad) n2 c2)∧w'.cell? (ad.add (k*4))=some (.string a.key)) (by kernel_rfl) ⟨y0,y1,y2,y3,y4,y5,y6,y7,z,e0⟩ (fun hHeld=>?_)
      refine t0 0 14 ?_
      go_frame
      refine t0 1 15 ?_
      go_frame
      refine t0 2 16 ?_
      go_frame
      refine t0 3 17 ?_
      go_frame
      refine t0 4 18 ?_
      go_frame
      refine t0 5 19 ?_
      go_frame
      refine t0 6 20 ?_
      go_frame
      refine tr 7 rfl fun K hK=>?_
      go_simp
      (with_reducible refine(hcw _ (Below.refl _ _).drew).mono ?_)
      rintro e w5 ⟨rfl,hb5⟩
      have hb9:Below wr.heap.size wr w5:=(Below.refl wr.heap.size wr).drew.trans hb5
      refine hK.out _ _ ⟨(hb9.cell (by exact l3)).trans y0,(hb9.cell (by exact l3)).trans y1,(hb9.cell (by exact l3)).trans y2,(hb9.cell (by exact l3)).trans y3,(hb9.cell (by exact l3)).trans y4,(hb9.cell (by exact l3)).trans y5,(hb9.cell (by exact l3)).trans y6,(hb9.cell (by exact l3)).trans y7,(hb9.cell (by exact l2)).trans z,(hb9.cell (by exact hbk)).trans e0⟩ (fun hHeld=>?_)
      clear hK K
      try go_frame
      refine t0 8 22 ?_
      go_frame
      refine tn 9 23 ?_
      go_frame
      refine tn 10 24 ?_
      go_frame
      refine tn 11 25 ?_
      go_frame
      refine tn 12 26 ?_
      go_frame
      refine tn 13 27 ?_
      go_frame
      refine tn 14 28 ?_
      go_frame
      refine tn 15 29 ?_
      go_frame
      refine tn 16 30 ?_
      go_frame
      refine t0 17 31 ?_
      go_frame
      refine td ?_
      go_wp2
      go_ret
      rw[HF.out]
      exact⟨rfl,hb.trans (hb9.mono hzz)⟩
  · have hd1:decide ((k:Int)<(n2:Int))=false:=by simp;omega
    have hcl2:B=p.r.any (fun k=>wrL k q.w):=by rw[hcl,←hs,List.drop_of_length_le (by omega)];rfl
    clear hs hcl
    go_wp2
    obtain⟨w1,rfl⟩:∃w1,w1=wr:=⟨_,rfl⟩
    clear x0 x1 x2 x3 x4 x5 x6 z y0 y1 y2 y3 y4 y5 y6 y7 l2 l3
    go_loopw [6] (fun i wr=>ClashRel (fun a:ByteArray=>wrL a q.w) p.r p q (.slice A1 n1 c1) (.slice A2 n2 c2) (.slice A3 n3 c3) (.slice A4 n4 c4) w i wr) (fun i _=>n1-(intOf i).toNat)
    case atStart=>exact⟨0,by omega,rfl,rfl,hb,b2,b3⟩
    case round=>
        clear hb b2 b3 hzz
        obtain⟨k,hk,rfl,hs,hb,b2,b3⟩:=hrel
        have hzz:=hb.size
        obtain⟨l2,x0,x1,x2,x3,x4,x5,z,x7⟩:=b2.eight
        obtain⟨l3,y0,y1,y2,y3,y4,y5,y6,y7⟩:=b3.eight
        by_cases hlt:k<n1
        · obtain⟨ad,a,rfl,ha,hbk,hok,e0⟩:=((h1.below KyRel.kept hb).more KyRel.kept hb.size).ky hlt
          have hd1:decide ((k:Int)<(n1:Int))=true:=by simp;omega
          have hk0:(0:Int)≤(k:Int):=by omega
          have hk1:(k:Int)<(n1:Int):=by omega
          have hcw:=fun w' (hx:Below wr.heap.size wr w')=>HW.out a w' (hb.trans (hx.mono hzz))
          rw[any_dropE ha]at hs
          clear ha x0 x1 x2 x3 x4 x5 x7
          cases hw:wrL a q.w
          · rw[hw]at hcw hs
            have HS:=Lib.hid (show (p.r.drop (k+1)).any (fun a:ByteArray=>wrL a q.w)=p.r.any (fun a:ByteArray=>wrL a q.w) from hs)
            clear hs hw
            go_wp2
            refine wp_region_held_drew (S:=fun w'=>w'.cell? ⟨w.heap.size+1,0,none⟩=some (.int .i64 q.t.c)∧w'.cell? ⟨w.heap.size+1,1,none⟩=some (.int .i64 q.t.l)∧w'.cell? ⟨w.heap.size+1,2,none⟩=some (.int .i64 q.t.s)∧w'.cell? ⟨w.heap.size+1,3,none⟩=some (.int .i64 q.s.w)∧w'.cell? ⟨w.heap.size+1,4,none⟩=some (.int .i64 q.s.l)∧w'.cell? ⟨w.heap.size+1,5,none⟩=some (.int .i64 q.s.n)∧w'.cell? ⟨w.heap.size+1,6,none⟩=some (.slice A3 n3 c3)∧w'.cell? ⟨w.heap.size+1,7,none⟩=some (.slice A4 n4 c4)∧w'.cell? ⟨w.heap.size,6,none⟩=some (.slice (some ad) n1 c1)∧w'.cell? (ad.add k)=some (.string a)) (by kernel_rfl) ⟨y0,y1,y2,y3,y4,y5,y6,y7,z,e0⟩ (fun hHeld=>?_)
            refine t0 0 39 ?_
            go_frame
            refine t0 1 40 ?_
            go_frame
            refine t0 2 41 ?_
            go_frame
            refine t0 3 42 ?_
            go_frame
            refine t0 4 43 ?_
            go_frame
            refine t0 5 44 ?_
            go_frame
            refine tr 6 rfl fun K hK=>?_
            go_simp
            (with_reducible refine(hcw _ (Below.refl _ _).drew).mono ?_)
            rintro e w5 ⟨rfl,hb5⟩
            have hb9:Below wr.heap.size wr w5:=(Below.refl wr.heap.size wr).drew.trans hb5
            refine hK.out _ _ ⟨(hb9.cell (by exact l3)).trans y0,(hb9.cell (by exact l3)).trans y1,(hb9.cell (by exact l3)).trans y2,(hb9.cell (by exact l3)).trans y3,(hb9.cell (by exact l3)).trans y4,(hb9.cell (by exact l3)).trans y5,(hb9.cell (by exact l3)).trans y6,(hb9.cell (by exact l3)).trans y7,(hb9.cell (by exact l2)).trans z,(hb9.cell (by exact hbk)).trans e0⟩ (fun hHeld=>?_)
            clear hK K
            try go_frame
            refine td ?_
            go_wp2
            go_roundw
            case rel=>exact⟨k+1,by omega,by go_num,HS.out,hb.trans (hb9.mono hzz),b2.below hb9 l2,b3.below hb9 l3⟩
            case measure=>simp[intOf];omega
          · rw[hw]at hcw hs
            have HF:=Lib.hid (show B=true by rw[hcl2,←hs];rfl)
            clear hs hw
            go_wp2
            refine wp_region_held_drew (S:=fun w'=>w'.cell? ⟨w.heap.size+1,0,none⟩=some (.int .i64 q.t.c)∧w'.cell? ⟨w.heap.size+1,1,none⟩=some (.int .i64 q.t.l)∧w'.cell? ⟨w.heap.size+1,2,none⟩=some (.int .i64 q.t.s)∧w'.cell? ⟨w.heap.size+1,3,none⟩=some (.int .i64 q.s.w)∧w'.cell? ⟨w.heap.size+1,4,none⟩=some (.int .i64 q.s.l)∧w'.cell? ⟨w.heap.size+1,5,none⟩=some (.int .i64 q.s.n)∧w'.cell? ⟨w.heap.size+1,6,none⟩=some (.slice A3 n3 c3)∧w'.cell? ⟨w.heap.size+1,7,none⟩=some (.slice A4 n4 c4)∧w'.cell? ⟨w.heap.size,6,none⟩=some (.slice (some ad) n1 c1)∧w'.cell? (ad.add k)=some (.string a)) (by kernel_rfl) ⟨y0,y1,y2,y3,y4,y5,y6,y7,z,e0⟩ (fun hHeld=>?_)
            refine t0 0 39 ?_
            go_frame
            refine t0 1 40 ?_
            go_frame
            refine t0 2 41 ?_
            go_frame
            refine t0 3 42 ?_
            go_frame
            refine t0 4 43 ?_
            go_frame
            refine t0 5 44 ?_
            go_frame
            refine tr 6 rfl fun K hK=>?_
            go_simp
            (with_reducible refine(hcw _ (Below.refl _ _).drew).mono ?_)
            rintro e w5 ⟨rfl,hb5⟩
            have hb9:Below wr.heap.size wr w5:=(Below.refl wr.heap.size wr).drew.trans hb5
            refine hK.out _ _ ⟨(hb9.cell (by exact l3)).trans y0,(hb9.cell (by exact l3)).trans y1,(hb9.cell (by exact l3)).trans y2,(hb9.cell (by exact l3)).trans y3,(hb9.cell (by exact l3)).trans y4,(hb9.cell (by exact l3)).trans y5,(hb9.cell (by exact l3)).trans y6,(hb9.cell (by exact l3)).trans y7,(hb9.cell (by exact l2)).trans z,(hb9.cell (by exact hbk)).trans e0⟩ (fun hHeld=>?_)
            clear hK K
            try go_frame
            refine td ?_
            go_wp2
            go_ret
            rw[HF.out]
            exact⟨rfl,hb.trans (hb9.mono hzz)⟩
        · have hd1:decide ((k:Int)<(n1:Int))=false:=by simp;omega
          have HF:=Lib.hid (show B=false by rw[hcl2,←hs,List.drop_of_length_le (by omega)];rfl)
          clear hs hcl2
          go_wp2
          go_ret
          rw[HF.out]
          exact⟨rfl,hb⟩
theorem wpList_store_newC {P:Program} {ops:Array Oper} {rest:List Oper} {o:Oper} {a:Act} {w:World} {Q:Exit→Act→World→Prop} (hgd:o.guard=none) (ty:TypeId) (x y:Operand) (ho:o.op=.store ty x y)
 (cells:Array Value) (hx:a.eval x=.pointer (some ⟨w.heap.size,0,none⟩)) (hy:a.eval y=.agg cells)
 (t:TypeId) (old:Array Value) (hi:(P.info? ty).map (·.size)=some cells.size)
 (hold:old.size=cells.size) (h1:cells.all (·.oneCell')=true)
 (h:wpList P ops Q rest (a.put o.dst undef) (w.alloc (.cells cells t))):wpList P ops Q (o::rest) a (w.alloc (.cells old t)):=by
 refine wpList_store_row hgd ty x y ho _ cells hx hy t old (Blk.new w t old) hi hold h1 ?_
 have e:(w.alloc (.cells old t)).setRow w.heap.size cells=w.alloc (.cells cells t):=by
  unfold World.setRow World.alloc
  congr 1
  apply Array.ext_getElem?
  intro i
  simp only[Array.getElem?_modify,Array.getElem?_push]
  by_cases h:i=w.heap.size
  · subst h;simp
  · have h':w.heap.size≠i:=fun e=>h e.symm
    simp[h,h']
 rw[e];exact h
def roldF (H:List Hs) (s:Sp) (a:Wt):Bool:=decide (0≤atFrom a.key 0 H)&&decide (0≤(lastV (rvers a.key H)).s.cmp s)
def roldB (H:List Hs) (p:Pn):Bool:=p.w.any (roldF H p.s)
def OldRel (f:Wt→Bool) (l:List Wt) (p:Pn) (A1 A2:Value) (w:World) (i:Value) (wr:World):Prop:=
 ∃k:Nat,k≤l.length∧i=.int .i64 (k:Int)∧(l.drop k).any f=l.any f∧Below w.heap.size w wr∧Blk wr w.heap.size 162 (p.arr A1 A2)
set_option maxRecDepth 100000 in
set_option maxHeartbeats 4000000 in
theorem rold_any (g:Nat) (B1 B2:Option Addr) (m1 d1 m2 d2:Nat) (L:Sp) (Hl:List Hs) (Pl:List Pn) (p:Pn) (A1 A2:Option Addr) (n1 n2 c1 c2:Nat) (w:World) (h:RSt w g B1 m1 d1 B2 m2 d2 L Hl Pl) (hw:Sl WtRel 4 w w.heap.size A2 n2 p.w) (hn2:n2≤maxLen):
 Calls Tryz.prog 179 #[.pointer (some ⟨g,0,none⟩),p.val (.slice A1 n1 c1) (.slice A2 n2 c2)] w fun e w'=>e=.returned (.bool (roldB Hl p))∧Below w.heap.size w w':=by
 unfold maxLen at hn2
 have hl:=hw.1
 have hge:n2≤p.w.length:=by omega
 have hle:p.w.length≤n2:=by omega
 clear hl
 have hO:roldB Hl p=p.w.any (roldF Hl p.s):=rfl
 generalize roldB Hl p=B at*
 go_enter Tryz.func179,Tryz.ntmps179
 go_wp2
 go_loopw [5] (fun i wr=>OldRel (roldF Hl p.s) p.w p (.slice A1 n1 c1) (.slice A2 n2 c2) w i wr) (fun i _=>n2-(intOf i).toNat)
 case atStart=>exact⟨0,by omega,rfl,rfl,by go_grown,Blk.new _ _ _⟩
 case round=>
  obtain⟨k,hk,rfl,hs,hb,b3⟩:=hrel
  have hzz:=hb.size
  obtain⟨l3,y0,y1,y2,y3,y4,y5,y6,y7⟩:=b3.eight
  by_cases hlt:k<n2
  · obtain⟨ad,a,rfl,ha,hbk,hok,e0,-,-,-⟩:=((hw.below WtRel.kept hb).more WtRel.kept hb.size).wt hlt
    have hd1:decide ((k:Int)<(n2:Int))=true:=by simp;omega
    have hk0:(0:Int)≤(k:Int):=by omega
    have hk1:(k:Int)<(n2:Int):=by omega
    rw[any_dropE ha]at hs
    have hf:roldF Hl p.s a=(decide (0≤atFrom a.key 0 Hl)&&decide (0≤(lastV (rvers a.key Hl)).s.cmp p.s)):=rfl
    have hN:=rnewest_any g B1 B2 m1 d1 m2 d2 L Hl Pl a.key wr (h.below hb)
    have HAT:=Lib.hid (fun w' (hx:Below wr.heap.size wr w')=>rat_any g B1 B2 m1 d1 m2 d2 L Hl Pl a.key w' (h.below (hb.trans (hx.mono hzz))))
    have HC:=Lib.hid (fun w'=>rcmp_any (lastV (rvers a.key Hl)).s p.s w')
    clear ha
    generalize roldF Hl p.s a=F at*
    generalize lastV (rvers a.key Hl)=V at*
    generalize atFrom a.key 0 Hl=Z at*
    generalize V.s.cmp p.s=Cm at*
    have HF:=Lib.hid hf
    have HS:=Lib.hid hs
    clear hf hs
    go_wp2_with (go_at_call 213;fail)
    refine hN.mono ?_
    rintro e w1 ⟨rfl,hb1⟩
    have b31:=b3.below hb1 l3
    have e01:=(hb1.cell (by exact hbk)).trans e0
    have l31:=b31.lt
    have l32:w.heap.size<w1.heap.size+1:=by omega
    obtain⟨-,x0,x1,x2,x3,x4,x5,x6,x7⟩:=b31.eight
    have hbk1:(ad.add (k*4)).block<w1.heap.size+1:=by have:=hb1.size;omega
    clear y0 y1 y2 y3 y4 y5 y6 y7 hN
    have hX:Below wr.heap.size wr (w1.alloc (.cells (seenArr a.key V) 104)):=hb1.alloc hb1.size _
    have e02:(w1.alloc (.cells (seenArr a.key V) 104)).cell? (ad.add (k*4))=some (.string a.key):=(hX.cell hbk).trans e0
    have i6:=Blk.new w1 104 (seenArr a.key V)
    have b32:=b31.alloc (.cells (seenArr a.key V) 104)
    by_cases hZ:(0:Int)≤Z
    · have hz1:decide ((0:Int)≤Z)=true:=by simp[hZ]
      have hA:=HAT.out _ hX
      go_wp2_with (first
       |(refine wpList_store_newC rfl 104 _ _ rfl _ rfl rfl _ _ (by kernel_rfl) (by kernel_rfl) (by kernel_rfl) ?_)
       |(go_at_call 214;fail))
      refine hA.mono ?_
      rintro e w2 ⟨rfl,hb2⟩
      have i62:=i6.below hb2 i6.lt
      have b33:=b32.below hb2 b32.lt
      have hY:Below wr.heap.size wr w2:=hX.trans (hb2.mono hX.size)
      obtain⟨j6,z0,z1,z2,z3,z4,z5,z6⟩:=i62.sevenC
      obtain⟨j3,q0,q1,q2,q3,q4,q5,q6,q7⟩:=b33.eight
      by_cases hC:(0:Int)≤Cm
      · have hc1:decide ((0:Int)≤Cm)=true:=by simp[hC]
        have HB:=Lib.hid (show B=true by rw[hO,←HS.out,HF.out,hz1,hc1];rfl)
        go_wp2_with ((with_reducible refine(HC.out _).mono ?_);rintro e w4 ⟨rfl,hb4⟩)
        go_ret
        rw[HB.out]
        exact⟨rfl,hb.trans ((hY.trans (hb4.mono hY.size)).mono hzz)⟩
      · have hc1:decide ((0:Int)≤Cm)=false:=by simp;omega
        have HT:=Lib.hid (show (p.w.drop (k+1)).any (roldF Hl p.s)=p.w.any (roldF Hl p.s) by rw[←HS.out,HF.out,hz1,hc1];rfl)
        go_wp2_with ((with_reducible refine(HC.out _).mono ?_);rintro e w4 ⟨rfl,hb4⟩)
        have hQ:=hY.trans (hb4.mono hY.size)
        go_roundw
        case rel=>exact⟨k+1,by omega,by go_num,HT.out,hb.trans (hQ.mono hzz),b3.below hQ l3⟩
        case measure=>simp[intOf];omega
    · have hz1:decide ((0:Int)≤Z)=false:=by simp;omega
      have hA:=HAT.out _ hX
      have HT:=Lib.hid (show (p.w.drop (k+1)).any (roldF Hl p.s)=p.w.any (roldF Hl p.s) by rw[←HS.out,HF.out,hz1];rfl)
      go_wp2_with (first
       |(refine wpList_store_newC rfl 104 _ _ rfl _ rfl rfl _ _ (by kernel_rfl) (by kernel_rfl) (by kernel_rfl) ?_)
       |(go_at_call 214;fail))
      refine hA.mono ?_
      rintro e w2 ⟨rfl,hb2⟩
      have hY:Below wr.heap.size wr w2:=hX.trans (hb2.mono hX.size)
      go_wp2
      go_roundw
      case rel=>exact⟨k+1,by omega,by go_num,HT.out,hb.trans (hY.mono hzz),b3.below hY l3⟩
      case measure=>simp[intOf];omega
  · have hd1:decide ((k:Int)<(n2:Int))=false:=by simp;omega
    have HB:=Lib.hid (show B=false by rw[hO,←hs,List.drop_of_length_le (by omega)];rfl)
    clear hs
    go_wp2
    go_ret
    rw[HB.out]
    exact⟨rfl,hb⟩
theorem flatten_len (k:Nat):∀css:List (List Value),(∀cs∈css,cs.length=k)→css.flatten.length=css.length*k:=by
 intro css
 induction css with
 |nil=>intro _;simp
 |cons cs css ih=>
  intro h
  rw[List.flatten_cons,List.length_append,h cs (List.mem_cons_self ..),ih (fun c hc=>h c (List.mem_cons_of_mem _ hc)),List.length_cons,Nat.succ_mul]
  omega
theorem Sl.css {α:Type} {R:Rel α} {size n B:Nat} {w:World} {A:Option Addr} {l:List α} (hsz:0<size) (h:Sl R size w B A n l):
 ∃css:List (List Value),css.length=n∧(∀cs∈css,cs.length=size)∧Reads w B size A n css.flatten∧∀(i:Nat) (cs:List Value) (a:α),css[i]?=some cs→l[i]?=some a→R w B cs a:=by
 have hall:∀i,i<n→∃cs:List Value,cs.length=size∧(∃ad,A=some ad∧ad.block<B∧∀j u,cs[j]?=some u→w.cell? (ad.add (i*size+j))=some u)∧∀a,l[i]?=some a→R w B cs a:=fun i hi=>by
  obtain⟨ad,cs,a,e,hl,hb,hlen,hc,hr⟩:=h.at_ hi
  exact⟨cs,hlen,⟨ad,e,hb,hc⟩,fun b hb=>by rw[hl]at hb;injection hb with hb;rw[←hb];exact hr⟩
 obtain⟨f,hf⟩:=Go.Deep.choose_lt hall
 have hget:∀(i:Nat) (cs:List Value),((List.range n).map f)[i]?=some cs→i<n∧cs=f i:=fun i cs hi=>by
  have hin:i<n:=by have:=(List.getElem?_eq_some_iff.1 hi).1;simpa using this
  rw[List.getElem?_map,List.getElem?_range hin]at hi
  exact⟨hin,(Option.some.inj hi).symm⟩
 have hlen:∀cs∈(List.range n).map f,cs.length=size:=fun cs hcs=>by
  obtain⟨i,hi,rfl⟩:=List.mem_map.1 hcs
  exact(hf i (List.mem_range.1 hi)).1
 refine⟨(List.range n).map f,by simp,hlen,⟨by rw[flatten_len size _ hlen];simp,fun hn=>?_⟩,fun i cs a h1 h2=>?_⟩
 · obtain⟨_,⟨ad,e,hb,_⟩,_⟩:=hf 0 hn
   refine⟨ad,e,hb,fun j u hj=>?_⟩
   have e2:j=j/size*size+j%size:=(Nat.div_add_mod' j size).symm
   rw[e2,flatten_get size _ _ _ hlen (Nat.mod_lt _ hsz)]at hj
   cases hl:((List.range n).map f)[j/size]? with
   |none=>rw[hl]at hj;cases hj
   |some cs=>
    rw[hl]at hj
    obtain⟨hin,rfl⟩:=hget _ _ hl
    obtain⟨_,⟨ad',e3,_,hc⟩,_⟩:=hf _ hin
    rw[e]at e3
    injection e3 with e3
    subst e3
    rw[e2]
    exact hc _ u hj
 · obtain⟨hin,rfl⟩:=hget i cs h1
   exact(hf i hin).2.2 a h2
def gB (g size:Nat) (v:Value):Nat→Bool:=fun k=>decide (k<size)&&decide (k≠g)&&decide (v.ownBlock≠some k)
theorem gB_iff {g size k:Nat} {v:Value}:gB g size v k=true↔k<size∧k≠g∧v.ownBlock≠some k:=by
 unfold gB
 simp only[Bool.and_eq_true,decide_eq_true_eq,and_assoc]
section
variable {α:Type} {R:Rel α} {E size base g:Nat} {w w':World} {v:Value} {l:List α}
theorem RowR.keepG (hR:R.Kept) (hRm:R.Mono) (h:RowR R E size base (gB g w.heap.size v) w v l) (hg:g<base) (hs:w.heap.size≤w'.heap.size) (hb:∀k,k<w.heap.size→k≠g→w'.heap[k]?=w.heap[k]?):RowR R E size base (gB g w'.heap.size v) w' v l:=by
 obtain⟨css,ho,hlen,hl,hc⟩:=h
 refine⟨css,owns_same ho (fun k h1 h2=>hb k h2 (by omega)),hlen,hl,fun i cs a h1 h2=>((hc i cs a h1 h2).keep hR (fun k hk=>?_) hs).wider hRm fun k hk=>?_⟩
 · rw[gB_iff]at hk;exact hb k hk.1 hk.2.1
 · rw[gB_iff]at*;exact⟨by omega,hk.2⟩
theorem RowR.ownG (hR:R.Kept) (hRm:R.Mono) (h:RowR R E size base (gB g w.heap.size v) w v l) (hgb:g<base):∃xs,w.ownsRow base E size v l.length xs∧
 ∀(ds:List (List Value)) (es:List α) (w':World) (v':Value),ds.length=es.length→(∀cs∈ds,cs.length=size)→(∀(i:Nat) (cs:List Value) (a:α),ds[i]?=some cs→es[i]?=some a→Inn R (gB g w.heap.size v) w cs a)→w'.ownsRow base E size v' (l.length+es.length) (xs++ds.flatten)→w.grownBy w' v.ownBlock→(v'.ownBlock=v.ownBlock∨v'.ownBlock=some w.heap.size)→
  RowR R E size base (gB g w'.heap.size v') w' v' (l++es):=by
 obtain⟨css,ho,hlen,hl,hc⟩:=h
 refine⟨css.flatten,ho,fun ds es w' v' hds hdl hin hown hg hat=>?_⟩
 have hK:∀k,gB g w.heap.size v k=true→gB g w'.heap.size v' k=true:=fun k hk=>by
  rw[gB_iff]at*
  have:=hg.size
  refine⟨by omega,hk.2.1,fun e=>?_⟩
  rcases hat with e2|e2
  · rw[e2]at e;exact hk.2.2 e
  · rw[e2]at e;injection e with e;omega
 have hB:∀k,gB g w.heap.size v k=true→w'.heap[k]?=w.heap[k]?:=fun k hk=>by
  rw[gB_iff]at hk
  exact hg.block k hk.1 (fun e=>hk.2.2 e.symm)
 have up:∀{cs:List Value} {a:α},Inn R (gB g w.heap.size v) w cs a→Inn R (gB g w'.heap.size v') w' cs a:=fun hi=>(hi.keep hR hB hg.size).wider hRm hK
 refine⟨css++ds,?_,by simp[hlen,hds],?_,?_⟩
 · rw[List.length_append,List.flatten_append];exact hown
 · intro c hc'
   rcases List.mem_append.1 hc' with h1|h1
   · exact hl c h1
   · exact hdl c h1
 · intro i c b h1 h2
   by_cases hi:i<l.length
   · rw[List.getElem?_append_left (by omega)]at h1 h2
     exact up (hc i c b h1 h2)
   · rw[List.getElem?_append_right (by omega)]at h1 h2
     rw[hlen]at h1
     exact up (hin _ c b h1 h2)
end
def putL (l:List Pn) (p:Pn):List Pn:=l.takeWhile (fun x=>x.t.less p.t)++p::l.dropWhile fun x=>x.t.less p.t
theorem putL_at {l:List Pn} {p:Pn} {k:Nat} (hk:k≤l.length) (hall:∀x∈l.take k,x.t.less p.t=true) (hend:∀a,l[k]?=some a→a.t.less p.t=false):putL l p=l.take k++p::l.drop k:=by
 have h1:l.takeWhile (fun x=>x.t.less p.t)=l.take k∧l.dropWhile (fun x=>x.t.less p.t)=l.drop k:=by
  induction l generalizing k with
  |nil=>simp
  |cons a l ih=>
   cases k with
   |zero=>
    have:=hend a rfl
    simp[this]
   |succ k=>
    have ha:=hall a (by simp)
    obtain⟨e1,e2⟩:=ih (k:=k) (by simpa using hk) (fun x hx=>hall x (by simp[hx])) (fun b hb=>hend b (by simpa using hb))
    simp[ha,e1,e2]
 unfold putL
 rw[h1.1,h1.2]
theorem Reads.monoC {w w':World} {B size n:Nat} {A:Option Addr} {xs:List Value} (h:Reads w B size A n xs) (hk:∀p u,p.block<B→w.cell? p=some u→w'.cell? p=some u):Reads w' B size A n xs:=
 ⟨h.1,fun hn=>by
  obtain⟨ad,e,hb,hc⟩:=h.2 hn
  exact⟨ad,e,hb,fun j u hu=>hk _ _ (by rw[block_of_add];exact hb) (hc j u hu)⟩⟩
theorem pn_cells_one {w:World} {B:Nat} {cs:List Value} {p:Pn} (h:PnRel w B cs p):∀u∈cs,u.oneCell'=true:=by
 obtain⟨r,q,rfl,-,-,⟨A1,n1,c1,rfl,-⟩,⟨A2,n2,c2,rfl,-⟩⟩:=h
 exact pn_one p _ _ _ _ _ _
theorem drop_flat (k:Nat):∀(css:List (List Value)) (m:Nat),(∀cs∈css,cs.length=k)→css.flatten.drop (m*k)=(css.drop m).flatten:=by
 intro css
 induction css with
 |nil=>intro m _;simp
 |cons cs css ih=>
  intro m h
  cases m with
  |zero=>simp
  |succ m=>
   have h0:=h cs (List.mem_cons_self ..)
   have e:(m+1)*k=cs.length+m*k:=by rw[Nat.succ_mul,h0];omega
   rw[List.flatten_cons,e,List.drop_append,List.drop_of_length_le (by omega),List.nil_append,Nat.add_sub_cancel_left,List.drop_succ_cons]
   exact ih m fun c hc=>h c (List.mem_cons_of_mem _ hc)
def PutRel (p:Pn) (A1 A2:Value) (g:Nat) (l:List Pn) (w:World) (v i:Value) (wr:World):Prop:=
 ∃k:Nat,k≤l.length∧i=.int .i64 (k:Int)∧(∀x∈l.take k,x.t.less p.t=true)∧RowR PnRel 162 8 (w.heap.size+1) (gB g wr.heap.size v) wr v (l.take k)∧Blk wr w.heap.size 162 (p.arr A1 A2)∧Below w.heap.size w wr
def PutPost (w:World) (g:Nat) (B1:Option Addr) (m1 d1:Nat) (L:Sp) (Hl:List Hs) (Pl:List Pn):Ending→World→Prop:=fun e w'=>∃B2 m2 d2,e=.returned (.tuple #[])∧RSt w' g B1 m1 d1 B2 m2 d2 L Hl Pl∧w.grownBy w' (some g)
theorem RSt.put_end {w w9:World} {g:Nat} {B1 B2 A9:Option Addr} {m1 d1 m2 d2 n9 q9:Nat} {L:Sp} {Hl:List Hs} {Pl l9:List Pn} (h:RSt w g B1 m1 d1 B2 m2 d2 L Hl Pl) (hb:Below w.heap.size w w9)
 (hblk:Blk w9 g 241 #[.slice B1 m1 d1,.slice B2 m2 d2,.int .i64 L.w,.int .i64 L.l,.int .i64 L.n]) (hr:RowR PnRel 162 8 (w.heap.size+1) (gB g w9.heap.size (.slice A9 n9 q9)) w9 (.slice A9 n9 q9) l9):
 RSt (w9.setCell ⟨g,1,none⟩ (.slice A9 n9 q9)) g B1 m1 d1 A9 n9 q9 L Hl l9∧w.grownBy (w9.setCell ⟨g,1,none⟩ (.slice A9 n9 q9)) (some g):=by
 have hs:(w9.setCell ⟨g,1,none⟩ (.slice A9 n9 q9)).heap.size=w9.heap.size:=by simp[World.setCell]
 have hbl:∀k,k≠g→(w9.setCell ⟨g,1,none⟩ (.slice A9 n9 q9)).heap[k]?=w9.heap[k]?:=fun k hk=>Below.heap_setCell _ _ _ _ hk
 have hg:g<w.heap.size:=h.blk.lt
 have hcell:∀p:Addr,(only (nb g) (w9.setCell ⟨g,1,none⟩ (.slice A9 n9 q9))).cell? p=(only (nb g) w9).cell? p:=fun p=>by
  cases hn:nb g p.block
  · rw[only_cell_out hn,only_cell_out hn]
  · rw[only_cell_in hn,only_cell_in hn];exact World.cell?_of_block (hbl _ (nb_iff.1 hn))
 have hcell2:∀p:Addr,p.block<w.heap.size→(only (nb g) (w9.setCell ⟨g,1,none⟩ (.slice A9 n9 q9))).cell? p=(only (nb g) w).cell? p:=fun p hp=>by
  rw[hcell]
  cases hn:nb g p.block
  · rw[only_cell_out hn,only_cell_out hn]
  · rw[only_cell_in hn,only_cell_in hn];exact hb.cell hp
 obtain⟨A,n,c,e,h1,h2,h3⟩:=hr.held (K':=nb g) PnRel.mono (by omega) (fun k hk=>nb_iff.2 (gB_iff.1 hk).2.1) (fun k hk=>nb_iff.2 (by have:=(hr.lt k hk).1;omega))
 injection e with e1 e2 e3
 subst e1 e2 e3
 refine⟨⟨hblk.set_ 1 _,(h.hs.keep HsRel.kept hcell2).more HsRel.kept (by rw[hs];exact hb.size),?_,h1,h2,h.m1,Nat.le_trans h1 h2⟩,?_⟩
 · rw[hs];exact h3.keep PnRel.kept fun p _=>hcell p
 · exact⟨hb.os,hb.tape,hb.output,by rw[hs];exact hb.size,fun k hk hne=>by rw[hbl k (fun e=>hne (by rw[e]))];exact hb.block k hk⟩
set_option maxRecDepth 100000 in
set_option maxHeartbeats 8000000 in
theorem rput_any (g:Nat) (B1 B2:Option Addr) (m1 d1 m2 d2:Nat) (L:Sp) (Hl:List Hs) (Pl:List Pn) (p:Pn) (A1 A2:Option Addr) (n1 n2 c1 c2:Nat) (w:World) (h:RSt w g B1 m1 d1 B2 m2 d2 L Hl Pl) (hP:Pl.length≤1000000) (hpt:p.t.ok) (hps:p.s.ok)
 (hr:Sl KyRel 1 w w.heap.size A1 n1 p.r) (hw:Sl WtRel 4 w w.heap.size A2 n2 p.w) (hn1:n1≤1000000) (hn2:n2≤1000000):
 Calls Tryz.prog 180 #[.pointer (some ⟨g,0,none⟩),p.val (.slice A1 n1 c1) (.slice A2 n2 c2)] w (PutPost w g B1 m1 d1 L Hl (putL Pl p)):=by
 obtain⟨i1,hi1,iz0,iz1,iz2⟩:=info_parts pn_info
 have hm:=h.m2
 have hd2m:=h.d2m
 have hle2:=h.le2
 unfold maxLen at hm
 have hl:=h.ps.1
 have hge:m2≤Pl.length:=by omega
 have hle:Pl.length≤m2:=by omega
 have hgw0:g<w.heap.size:=h.blk.lt
 have hgw:g<w.heap.size+1:=by omega
 have HH0:=Lib.hid h
 clear hl
 go_enter Tryz.func180,Tryz.ntmps180
 go_wp2
 go_loopw [4,5] (fun v i wr=>PutRel p (.slice A1 n1 c1) (.slice A2 n2 c2) g Pl w v i wr) (fun _ i _=>m2-(intOf i).toNat)
 case atStart=>exact⟨0,by omega,rfl,fun x hx=>by simp at hx,RowR.nil _,Blk.new _ _ _,by go_grown⟩
 case round=>
  obtain⟨k,hk,rfl,hall,hrow,b3,hb⟩:=hrel
  have hzz:=hb.size
  have hst:=h.below hb
  obtain⟨gl,k0,k1,-,-,-⟩:=hst.blk.fiveC
  obtain⟨l3,y0,y1,y2,y3,y4,y5,y6,y7⟩:=b3.eight
  obtain⟨Av,qv,rfl,hqv,hqvm⟩:=hrow.form
  have hlen:(Pl.take k).length≤1000000:=Nat.le_trans (List.length_take_le _ _) (by omega)
  by_cases hgo:∃a,Pl[k]?=some a∧a.t.less p.t=true
  · obtain⟨a,ha,hless⟩:=hgo
    have hlt:k<m2:=by have:=(List.getElem?_eq_some_iff.1 ha).1;omega
    obtain⟨ad,a',A3,n3,c3,A4,n4,c4,rfl,ha',hbk,hxt,hxs,e0,e1,e2,e3,e4,e5,e6,e7,hn3,hc3,hs3,hn4,hc4,hs4⟩:=hst.pend.pn hlt
    obtain rfl:a=a':=Option.some.inj (ha.symm.trans ha')
    obtain⟨ad2,a2,A3',n3',c3',A4',n4',c4',ex,ha2,hbk2,-,-,-,-,-,-,-,-,f6,f7,hn3',hc3',ks3,hn4',hc4',ks4⟩:=h.ps.pn hlt
    injection ex with ex
    subst ex
    obtain rfl:a=a2:=Option.some.inj (ha.symm.trans ha2)
    have f6:=(hb.cell (by exact hbk2)).trans (only_cell f6).2
    have f7:=(hb.cell (by exact hbk2)).trans (only_cell f7).2
    rw[e6]at f6
    rw[e7]at f7
    obtain⟨rfl,rfl,rfl⟩:A3=A3'∧n3=n3'∧c3=c3':=by simpa using f6
    obtain⟨rfl,rfl,rfl⟩:A4=A4'∧n4=n4'∧c4=c4':=by simpa using f7
    have hd1:decide ((k:Int)<(m2:Int))=true:=by simp;omega
    have hk0:(0:Int)≤(k:Int):=by omega
    have hk1:(k:Int)<(m2:Int):=by omega
    have hL:=fun w=>rtxnLess_any a.t p.t w
    rw[hless]at hL
    have hpn:PnRel (only (nb g) w) w.heap.size (a.cs (.slice A3 n3 c3) (.slice A4 n4 c4)) a:=⟨_,_,rfl,hxt,hxs,⟨_,_,_,rfl,hn3,hc3,ks3⟩,⟨_,_,_,rfl,hn4,hc4,ks4⟩⟩
    have HS:=Lib.hid (show Pl.take (k+1)=Pl.take k++[a] by rw[List.take_add_one,ha];rfl)
    have hall2:∀x∈Pl.take k++[a],x.t.less p.t=true:=fun x hx=>by
        rcases List.mem_append.1 hx with h1|h1
        · exact hall x h1
        · simp only[List.mem_cons,List.not_mem_nil,or_false]at h1
          rw[h1];exact hless
    have HA:=Lib.hid hall2
    clear hall hall2 ha ha' ha2 hless f6 f7
    generalize Pl.take k=T1 at*
    go_wp2
    go_region_held3 (fun w'=>w'.cell? ⟨g,1,none⟩=some (.slice (some ad) m2 d2)∧w'.cell? (ad.add (k*8))=some (.int .i64 a.t.c)∧w'.cell? ⟨(ad.add (k*8)).block,(ad.add (k*8)).off+1,none⟩=some (.int .i64 a.t.l)∧w'.cell? ⟨(ad.add (k*8)).block,(ad.add (k*8)).off+2,none⟩=some (.int .i64 a.t.s)∧w'.cell? ⟨w.heap.size,0,none⟩=some (.int .i64 p.t.c)∧w'.cell? ⟨w.heap.size,1,none⟩=some (.int .i64 p.t.l)∧w'.cell? ⟨w.heap.size,2,none⟩=some (.int .i64 p.t.s))
        (first|exact⟨k1,e0,e1,e2,y0,y1,y2⟩|exact⟨(hb9.cell (by exact gl)).trans k1,(hb9.cell (by exact hbk)).trans e0,(hb9.cell (by exact hbk)).trans e1,(hb9.cell (by exact hbk)).trans e2,(hb9.cell (by exact l3)).trans y0,(hb9.cell (by exact l3)).trans y1,(hb9.cell (by exact l3)).trans y2⟩)
        (first|((with_reducible refine(hL _).mono ?_);rintro e w5 ⟨rfl,hb5⟩;have hb9:Below wr.heap.size wr w5:=(Below.refl wr.heap.size wr).drew.trans hb5))
    have b35:=b3.below hb9 l3
    have k15:=(hb9.cell (p:=⟨g,1,none⟩) gl).trans k1
    have E:=fun j (v:Value) (hc:wr.cell? ⟨(ad.add (k*8)).block,(ad.add (k*8)).off+j,none⟩=some v)=>(hb9.cell (p:=⟨(ad.add (k*8)).block,(ad.add (k*8)).off+j,none⟩) hbk).trans hc
    have q0:=(hb9.cell (by exact hbk)).trans e0
    have q1:=E 1 _ e1
    have q2:=E 2 _ e2
    have q3:=E 3 _ e3
    have q4:=E 4 _ e4
    have q5:=E 5 _ e5
    have q6:=E 6 _ e6
    have q7:=E 7 _ e7
    have gl5:g<w5.heap.size:=Nat.lt_of_lt_of_le gl hb9.size
    have hX:Below wr.heap.size wr (w5.alloc (.cells (a.arr (.slice A3 n3 c3) (.slice A4 n4 c4)) 162)):=hb9.alloc hb9.size _
    have hwX:Below w.heap.size w (w5.alloc (.cells (a.arr (.slice A3 n3 c3) (.slice A4 n4 c4)) 162)):=hb.trans (hX.mono hzz)
    have hrX:=hrow.keepG PnRel.kept PnRel.mono hgw (w':=w5.alloc (.cells (a.arr (.slice A3 n3 c3) (.slice A4 n4 c4)) 162)) hX.size (fun k hk _=>hX.block k hk)
    have hlt5:=hrow.lt
    have hin:Inn PnRel (gB g (w5.alloc (.cells (a.arr (.slice A3 n3 c3) (.slice A4 n4 c4)) 162)).heap.size (.slice Av T1.length qv)) (w5.alloc (.cells (a.arr (.slice A3 n3 c3) (.slice A4 n4 c4)) 162)) (a.cs (.slice A3 n3 c3) (.slice A4 n4 c4)) a:=
        PnRel.kept.2 _ _ _ _ _ (PnRel.mono _ _ _ _ _ hpn fun p u hp hc=>by
         obtain⟨hk,hc⟩:=only_cell hc
         rw[nb_iff]at hk
         rw[only_cell_in (gB_iff.2 ⟨by have:=hwX.size;omega,hk,fun e=>by have:=(hlt5 _ e).1;omega⟩)]
         exact(hwX.cell hp).trans hc) hwX.size
    obtain⟨xs,hown0,hpush⟩:=hrX.ownG PnRel.kept PnRel.mono hgw
    have HI:=Lib.hid hin
    have HPu:=Lib.hid hpush
    have hrd0:=reads_new' w5 162 (a.cs (.slice A3 n3 c3) (.slice A4 n4 c4)) 8 rfl
    clear hpush hin e0 e1 e2 e3 e4 e5 e6 e7 k0 k1 y0 y1 y2 y3 y4 y5 y6 y7 E hpn
    have h5z:=hb9.size
    go_wp2_with (first
        |(at_builtin
          refine wpList_append_any _ rfl (.tmp 26) (.tmp 34) _ rfl (w.heap.size+1) 162 i1 _ 8 96 Tryz.underlying37 hi1 iz0 iz1 iz2 rfl (by omega) (.slice Av T1.length qv) _ xs (by rfl) hown0 _ (some ⟨w5.heap.size,0,none⟩) 1 1 (a.cs (.slice A3 n3 c3) (.slice A4 n4 c4)) (by rfl)
           hrd0 (pn_one a _ _ _ _ _ _) (by unfold maxLen;omega) (by omega) (by simp;omega) ?_
          intro v3 w3 hown3 hg3 hat3
          obtain⟨A9,q9,rfl,hq9,hq9m⟩:=own_form hown3))
    have hrn:=HPu.out [a.cs (.slice A3 n3 c3) (.slice A4 n4 c4)] [a] w3 _ rfl (fun cs hcs=>by simp only[List.mem_cons,List.not_mem_nil,or_false]at hcs;rw[hcs];rfl) (fun i cs b h1 h2=>by
        cases i with
        |zero=>simp only[List.getElem?_cons_zero,Option.some.injEq]at h1 h2;subst h1 h2;exact HI.out
        |succ i=>simp at h1) (by simpa using hown3) hg3 hat3
    have hbw:=hwX.grown hg3 hwX.size (fun q hq=>by have:=(hown0.lt q hq).1;omega)
    have b37:=(b35.alloc (.cells (a.arr (.slice A3 n3 c3) (.slice A4 n4 c4)) 162)).grown hg3 (fun e=>by have:=(hlt5 _ e.symm).1;omega)
    go_roundw
    case rel=>
        refine⟨k+1,by omega,by go_num,?_,?_,b37,hbw⟩
        · rw[HS.out];exact HA.out
        · rw[HS.out];exact hrn
    case measure=>simp[intOf];omega
  · have hend:∀a,Pl[k]?=some a→a.t.less p.t=false:=fun a ha=>by
        cases hx:a.t.less p.t
        · rfl
        · exact absurd ⟨a,ha,hx⟩ hgo
    have HP:=Lib.hid (putL_at hk hall hend)
    have HD:=Lib.hid (show Pl.drop k=Pl.drop k from rfl)
    clear hgo hall
    generalize Pl.take k=T1 at*
    by_cases hlt:k<m2
    · obtain⟨ad,a,A3,n3,c3,A4,n4,c4,rfl,ha',hbk,hxt,hxs,e0,e1,e2,e3,e4,e5,e6,e7,hn3,hc3,hs3,hn4,hc4,hs4⟩:=hst.pend.pn hlt
      have hd1:decide ((k:Int)<(m2:Int))=true:=by simp;omega
      have hk0:(0:Int)≤(k:Int):=by omega
      have hk1:(k:Int)<(m2:Int):=by omega
      have hL:=fun w=>rtxnLess_any a.t p.t w
      rw[hend a ha']at hL
      clear ha' hend
      go_wp2
      go_region_held3 (fun w'=>w'.cell? ⟨g,1,none⟩=some (.slice (some ad) m2 d2)∧w'.cell? (ad.add (k*8))=some (.int .i64 a.t.c)∧w'.cell? ⟨(ad.add (k*8)).block,(ad.add (k*8)).off+1,none⟩=some (.int .i64 a.t.l)∧w'.cell? ⟨(ad.add (k*8)).block,(ad.add (k*8)).off+2,none⟩=some (.int .i64 a.t.s)∧w'.cell? ⟨w.heap.size,0,none⟩=some (.int .i64 p.t.c)∧w'.cell? ⟨w.heap.size,1,none⟩=some (.int .i64 p.t.l)∧w'.cell? ⟨w.heap.size,2,none⟩=some (.int .i64 p.t.s))
       (first|exact⟨k1,e0,e1,e2,y0,y1,y2⟩|exact⟨(hb9.cell (by exact gl)).trans k1,(hb9.cell (by exact hbk)).trans e0,(hb9.cell (by exact hbk)).trans e1,(hb9.cell (by exact hbk)).trans e2,(hb9.cell (by exact l3)).trans y0,(hb9.cell (by exact l3)).trans y1,(hb9.cell (by exact l3)).trans y2⟩)
       (first|((with_reducible refine(hL _).mono ?_);rintro e w5 ⟨rfl,hb5⟩;have hb9:Below wr.heap.size wr w5:=(Below.refl wr.heap.size wr).drew.trans hb5))
      have hbW:=hb9
      obtain⟨WW,hWW⟩:∃WW,WW=w5:=⟨_,rfl⟩
      rw[←hWW]at hbW ⊢
      clear hWW hb9 hb5
      have hbk3:=b3.below hbW l3
      obtain⟨l3',y0,y1,y2,y3,y4,y5,y6,y7⟩:=hbk3.eight
      have hwW:Below w.heap.size w WW:=hb.trans (hbW.mono hzz)
      have hWz:=hbW.size
      have HK1:=Lib.hid (fun k hk=>Sl.all_ok hr k hk:∀k∈p.r,k.size≤140737488351232)
      have HK2:=Lib.hid (fun k hk=>Sl.all_ok hw k hk:∀k∈p.w,Wt.ok k)
      go_wp2_with (go_at_call 100;fail)
      refine(copyP_any p A1 A2 n1 n2 c1 c2 WW ((hr.below KyRel.kept hwW).more KyRel.kept hwW.size) ((hw.below WtRel.kept hwW).more WtRel.kept hwW.size) hn1 hn2).mono ?_
      rintro e w6 ⟨r1,u1,rfl,o1,o2,hb6⟩
      obtain⟨D1,f1,rfl,hf1,hf1m⟩:=o1.form
      obtain⟨D2,f2,rfl,hf2,hf2m⟩:=o2.form
      have h6z:=hb6.size
      have hX6:Below w6.heap.size w6 (w6.alloc (.cells (p.arr (.slice D1 p.r.length f1) (.slice D2 p.w.length f2)) 162)):=(Below.refl _ _).alloc (Nat.le_refl _) _
      have hX:Below wr.heap.size wr (w6.alloc (.cells (p.arr (.slice D1 p.r.length f1) (.slice D2 p.w.length f2)) 162)):=(hbW.trans (hb6.mono hWz)).trans (hX6.mono (by omega))
      have hwX:Below w.heap.size w (w6.alloc (.cells (p.arr (.slice D1 p.r.length f1) (.slice D2 p.w.length f2)) 162)):=hb.trans (hX.mono hzz)
      have hrX:=hrow.keepG PnRel.kept PnRel.mono hgw (w':=w6.alloc (.cells (p.arr (.slice D1 p.r.length f1) (.slice D2 p.w.length f2)) 162)) hX.size (fun k hk _=>hX.block k hk)
      have hlt5:=hrow.lt
      have hd1o:=World.ownsRow.lt o1
      have hd2o:=World.ownsRow.lt o2
      have hXs:(w6.alloc (.cells (p.arr (.slice D1 p.r.length f1) (.slice D2 p.w.length f2)) 162)).heap.size=w6.heap.size+1:=by simp
      have hin:Inn PnRel (gB g (w6.alloc (.cells (p.arr (.slice D1 p.r.length f1) (.slice D2 p.w.length f2)) 162)).heap.size (.slice Av T1.length qv)) (w6.alloc (.cells (p.arr (.slice D1 p.r.length f1) (.slice D2 p.w.length f2)) 162)) (p.cs (.slice D1 p.r.length f1) (.slice D2 p.w.length f2)) p:=
       ⟨_,_,rfl,hpt,hps,OwnL.inn2 (by omega) ky_len (o1.below hX6) HK1.out (fun k e=>gB_iff.2 ⟨by have:=hd1o k e;omega,by have:=hd1o k e;omega,fun e9=>by have:=hd1o k e;have:=hlt5 k e9;omega⟩),
        OwnL.inn2 (by omega) wt_len (o2.below hX6) HK2.out (fun k e=>gB_iff.2 ⟨by have:=hd2o k e;omega,by have:=hd2o k e;omega,fun e9=>by have:=hd2o k e;have:=hlt5 k e9;omega⟩)⟩
      have HI:=Lib.hid hin
      obtain⟨xs,hown0,hpush⟩:=hrX.ownG PnRel.kept PnRel.mono hgw
      have HPu:=Lib.hid hpush
      have HXs:=Lib.hid hXs
      have hrd0:=reads_new' w6 162 (p.cs (.slice D1 p.r.length f1) (.slice D2 p.w.length f2)) 8 rfl
      have hgX:=((h.below hwX).blk)
      clear hpush hin hXs y0 y1 y2 y3 y4 y5 y6 y7 k0 k1
      have hkm:(k:Int)≤(m2:Int):=by omega
      have hkn:(0:Int)≤(k:Int):=by omega
      obtain⟨cssP,hcl,hcsz,hcr,hcp⟩:=h.ps.css (by omega)
      have HCR:=Lib.hid hcr
      have HCP:=Lib.hid hcp
      have HCZ:=Lib.hid hcsz
      clear hcr hcp hcsz
      go_upto_region 7 with (first
       |(at_builtin
         refine wpList_append_any _ rfl (.tmp 38) (.tmp 41) _ rfl (w.heap.size+1) 162 i1 _ 8 96 Tryz.underlying37 hi1 iz0 iz1 iz2 rfl (by omega) (.slice Av T1.length qv) _ xs (by rfl) hown0 _ (some ⟨w6.heap.size,0,none⟩) 1 1 (p.cs (.slice D1 p.r.length f1) (.slice D2 p.w.length f2)) (by rfl)
            hrd0 (pn_one p _ _ _ _ _ _) (by unfold maxLen;omega) (by omega) (by simp;omega) ?_
         intro v7 w7 hown7 hg7 hat7))
      have hrow7:=HPu.out [p.cs (.slice D1 p.r.length f1) (.slice D2 p.w.length f2)] [p] w7 _ rfl (fun cs hcs=>by simp only[List.mem_cons,List.not_mem_nil,or_false]at hcs;rw[hcs];rfl) (fun i cs b h1 h2=>by
       cases i with
       |zero=>simp only[List.getElem?_cons_zero,Option.some.injEq]at h1 h2;subst h1 h2;exact HI.out
       |succ i=>simp at h1) (by simpa using hown7) hg7 hat7
      have hgb:=hgX.grown hg7 (fun e=>by have:=(hlt5 _ e.symm).1;omega)
      have hw7:=hwX.grown hg7 hwX.size (fun q hq=>by have:=(hown0.lt q hq).1;omega)
      have hcell:∀q u,q.block<w.heap.size→(only (nb g) w).cell? q=some u→w7.cell? q=some u:=fun q u hq hc=>(hw7.cell hq).trans (only_cell hc).2
      have z1:=hgb.cell 1
      simp only[List.getElem?_toArray,List.getElem?_cons_succ,List.getElem?_cons_zero]at z1
      have zf:=hgb.frozen 1
      have zl:=hgb.lt
      have hX7:=hg7.size
      rw[World.size_alloc]at hX7
      have hXs:=HXs.out
      obtain⟨T2,hT2⟩:∃T2,T2=T1++[p]:=⟨_,rfl⟩
      rw[←hT2]at hrow7
      have HT2:=Lib.hid hT2
      have hT2l:T2.length≤1000001:=by rw[hT2];simp;omega
      clear hT2
      obtain⟨A7,q7,rfl,hq7,hq7m⟩:=hrow7.form
      have hlt7:=hrow7.lt
      obtain⟨xs7,hown8,hpush8⟩:=hrow7.ownG PnRel.kept PnRel.mono hgw
      have HPu8:=Lib.hid hpush8
      have hrdP:=(HCR.out.monoC hcell).cut (k:=k) (cap:=d2) (by omega) hle2
      rw[drop_flat 8 _ _ HCZ.out]at hrdP
      have hone:∀u∈(cssP.drop k).flatten,u.oneCell'=true:=fun u hu=>by
       obtain⟨cs,hcs,hu⟩:=List.mem_flatten.1 hu
       obtain⟨i,hi⟩:=List.getElem?_of_mem (List.mem_of_mem_drop hcs)
       have hil:i<Pl.length:=by have:=(List.getElem?_eq_some_iff.1 hi).1;omega
       exact pn_cells_one (HCP.out i cs _ hi (List.getElem?_eq_getElem hil)) u hu
      have HON:=Lib.hid hone
      have hw7z:=hw7.size
      have hle7:w.heap.size+1≤w7.heap.size:=by omega
      clear hpush8 hown7 hown0 hone
      rw[if_neg (show ¬d2=k by omega)]at hrdP
      go_wp2_with (first
       |(at_builtin
         refine wpList_append_any _ rfl (.tmp 44) (.tmp 50) _ rfl (w.heap.size+1) 162 i1 _ 8 96 Tryz.underlying37 hi1 iz0 iz1 iz2 rfl (by omega) (.slice A7 T2.length q7) _ xs7 (by rfl) hown8 _ _ (m2-k) (d2-k) _ (by rfl) hrdP HON.out (by unfold maxLen;omega) (by omega) (by omega) ?_
         intro v9 w9 hown9 hg9 hat9
         have hgc:=hgb.grown hg9 (fun e=>by have:=(hlt7 _ e.symm).1;omega)
         have z9:=hgc.cell 1
         simp only[List.getElem?_toArray,List.getElem?_cons_succ,List.getElem?_cons_zero]at z9
         have f9:=hgc.frozen 1
         have l9:=hgc.lt
         obtain⟨A9,q9,rfl,hq9,hq9m⟩:=own_form hown9))
      all_goals go_end0
      all_goals
       have hrow9:=HPu8.out (cssP.drop k) (Pl.drop k) w9 (.slice A9 (T2.length+(m2-k)) q9) (by simp only[List.length_drop];omega) (fun cs hcs=>HCZ.out cs (List.mem_of_mem_drop hcs)) (fun i cs b h1 h2=>by
        rw[List.getElem?_drop]at h1 h2
        exact PnRel.kept.2 _ _ _ _ _ (PnRel.mono _ _ _ _ _ (HCP.out _ cs b h1 h2) fun q u hq hc=>by
         obtain⟨hk9,hc⟩:=only_cell hc
         rw[nb_iff]at hk9
         rw[only_cell_in (gB_iff.2 ⟨by omega,hk9,fun e=>by have:=(hlt7 _ e).1;omega⟩)]
         exact(hw7.cell hq).trans hc) hw7z) (by rw[show (Pl.drop k).length=m2-k by simp only[List.length_drop];omega];exact hown9) hg9 hat9
       obtain⟨o1,o2⟩:=HH0.out.put_end (hw7.grown hg9 hw7z (fun q hq=>by have:=(hlt7 q hq).1;omega)) hgc hrow9
       rw[HP.out]
       refine⟨A9,T2.length+(m2-k),q9,rfl,?_,o2⟩
       have e9:T2++Pl.drop k=T1++p::Pl.drop k:=by rw[HT2.out,List.append_assoc];rfl
       rw[←e9]
       exact o1
    · have hd1:decide ((k:Int)<(m2:Int))=false:=by simp;omega
      go_wp2
      go_quiet (fail)
      have hbW:Below wr.heap.size wr (wr.drewN nq):=belowN nq
      obtain⟨WW,hWW⟩:∃WW,WW=wr.drewN nq:=⟨_,rfl⟩
      rw[←hWW]at hbW ⊢
      clear hWW
      have hbk3:=b3.below hbW l3
      obtain⟨l3',y0,y1,y2,y3,y4,y5,y6,y7⟩:=hbk3.eight
      have hwW:Below w.heap.size w WW:=hb.trans (hbW.mono hzz)
      have hWz:=hbW.size
      have HK1:=Lib.hid (fun k hk=>Sl.all_ok hr k hk:∀k∈p.r,k.size≤140737488351232)
      have HK2:=Lib.hid (fun k hk=>Sl.all_ok hw k hk:∀k∈p.w,Wt.ok k)
      go_wp2_with (go_at_call 100;fail)
      refine(copyP_any p A1 A2 n1 n2 c1 c2 WW ((hr.below KyRel.kept hwW).more KyRel.kept hwW.size) ((hw.below WtRel.kept hwW).more WtRel.kept hwW.size) hn1 hn2).mono ?_
      rintro e w6 ⟨r1,u1,rfl,o1,o2,hb6⟩
      obtain⟨D1,f1,rfl,hf1,hf1m⟩:=o1.form
      obtain⟨D2,f2,rfl,hf2,hf2m⟩:=o2.form
      have h6z:=hb6.size
      have hX6:Below w6.heap.size w6 (w6.alloc (.cells (p.arr (.slice D1 p.r.length f1) (.slice D2 p.w.length f2)) 162)):=(Below.refl _ _).alloc (Nat.le_refl _) _
      have hX:Below wr.heap.size wr (w6.alloc (.cells (p.arr (.slice D1 p.r.length f1) (.slice D2 p.w.length f2)) 162)):=(hbW.trans (hb6.mono hWz)).trans (hX6.mono (by omega))
      have hwX:Below w.heap.size w (w6.alloc (.cells (p.arr (.slice D1 p.r.length f1) (.slice D2 p.w.length f2)) 162)):=hb.trans (hX.mono hzz)
      have hrX:=hrow.keepG PnRel.kept PnRel.mono hgw (w':=w6.alloc (.cells (p.arr (.slice D1 p.r.length f1) (.slice D2 p.w.length f2)) 162)) hX.size (fun k hk _=>hX.block k hk)
      have hlt5:=hrow.lt
      have hd1o:=World.ownsRow.lt o1
      have hd2o:=World.ownsRow.lt o2
      have hXs:(w6.alloc (.cells (p.arr (.slice D1 p.r.length f1) (.slice D2 p.w.length f2)) 162)).heap.size=w6.heap.size+1:=by simp
      have hin:Inn PnRel (gB g (w6.alloc (.cells (p.arr (.slice D1 p.r.length f1) (.slice D2 p.w.length f2)) 162)).heap.size (.slice Av T1.length qv)) (w6.alloc (.cells (p.arr (.slice D1 p.r.length f1) (.slice D2 p.w.length f2)) 162)) (p.cs (.slice D1 p.r.length f1) (.slice D2 p.w.length f2)) p:=
       ⟨_,_,rfl,hpt,hps,OwnL.inn2 (by omega) ky_len (o1.below hX6) HK1.out (fun k e=>gB_iff.2 ⟨by have:=hd1o k e;omega,by have:=hd1o k e;omega,fun e9=>by have:=hd1o k e;have:=hlt5 k e9;omega⟩),
        OwnL.inn2 (by omega) wt_len (o2.below hX6) HK2.out (fun k e=>gB_iff.2 ⟨by have:=hd2o k e;omega,by have:=hd2o k e;omega,fun e9=>by have:=hd2o k e;have:=hlt5 k e9;omega⟩)⟩
      have HI:=Lib.hid hin
      obtain⟨xs,hown0,hpush⟩:=hrX.ownG PnRel.kept PnRel.mono hgw
      have HPu:=Lib.hid hpush
      have HXs:=Lib.hid hXs
      have hrd0:=reads_new' w6 162 (p.cs (.slice D1 p.r.length f1) (.slice D2 p.w.length f2)) 8 rfl
      have hgX:=((h.below hwX).blk)
      clear hpush hin hXs y0 y1 y2 y3 y4 y5 y6 y7 k0 k1
      have hkm:(k:Int)≤(m2:Int):=by omega
      have hkn:(0:Int)≤(k:Int):=by omega
      obtain⟨cssP,hcl,hcsz,hcr,hcp⟩:=h.ps.css (by omega)
      have HCR:=Lib.hid hcr
      have HCP:=Lib.hid hcp
      have HCZ:=Lib.hid hcsz
      clear hcr hcp hcsz
      go_upto_region 7 with (first
       |(at_builtin
         refine wpList_append_any _ rfl (.tmp 38) (.tmp 41) _ rfl (w.heap.size+1) 162 i1 _ 8 96 Tryz.underlying37 hi1 iz0 iz1 iz2 rfl (by omega) (.slice Av T1.length qv) _ xs (by rfl) hown0 _ (some ⟨w6.heap.size,0,none⟩) 1 1 (p.cs (.slice D1 p.r.length f1) (.slice D2 p.w.length f2)) (by rfl)
          hrd0 (pn_one p _ _ _ _ _ _) (by unfold maxLen;omega) (by omega) (by simp;omega) ?_
         intro v7 w7 hown7 hg7 hat7))
      have hrow7:=HPu.out [p.cs (.slice D1 p.r.length f1) (.slice D2 p.w.length f2)] [p] w7 _ rfl (fun cs hcs=>by simp only[List.mem_cons,List.not_mem_nil,or_false]at hcs;rw[hcs];rfl) (fun i cs b h1 h2=>by
       cases i with
       |zero=>simp only[List.getElem?_cons_zero,Option.some.injEq]at h1 h2;subst h1 h2;exact HI.out
       |succ i=>simp at h1) (by simpa using hown7) hg7 hat7
      have hgb:=hgX.grown hg7 (fun e=>by have:=(hlt5 _ e.symm).1;omega)
      have hw7:=hwX.grown hg7 hwX.size (fun q hq=>by have:=(hown0.lt q hq).1;omega)
      have hcell:∀q u,q.block<w.heap.size→(only (nb g) w).cell? q=some u→w7.cell? q=some u:=fun q u hq hc=>(hw7.cell hq).trans (only_cell hc).2
      have z1:=hgb.cell 1
      simp only[List.getElem?_toArray,List.getElem?_cons_succ,List.getElem?_cons_zero]at z1
      have zf:=hgb.frozen 1
      have zl:=hgb.lt
      have hX7:=hg7.size
      rw[World.size_alloc]at hX7
      have hXs:=HXs.out
      obtain⟨T2,hT2⟩:∃T2,T2=T1++[p]:=⟨_,rfl⟩
      rw[←hT2]at hrow7
      have HT2:=Lib.hid hT2
      have hT2l:T2.length≤1000001:=by rw[hT2];simp;omega
      clear hT2
      obtain⟨A7,q7,rfl,hq7,hq7m⟩:=hrow7.form
      have hlt7:=hrow7.lt
      obtain⟨xs7,hown8,hpush8⟩:=hrow7.ownG PnRel.kept PnRel.mono hgw
      have HPu8:=Lib.hid hpush8
      have hrdP:=(HCR.out.monoC hcell).cut (k:=k) (cap:=d2) (by omega) hle2
      rw[drop_flat 8 _ _ HCZ.out]at hrdP
      have hone:∀u∈(cssP.drop k).flatten,u.oneCell'=true:=fun u hu=>by
       obtain⟨cs,hcs,hu⟩:=List.mem_flatten.1 hu
       obtain⟨i,hi⟩:=List.getElem?_of_mem (List.mem_of_mem_drop hcs)
       have hil:i<Pl.length:=by have:=(List.getElem?_eq_some_iff.1 hi).1;omega
       exact pn_cells_one (HCP.out i cs _ hi (List.getElem?_eq_getElem hil)) u hu
      have HON:=Lib.hid hone
      have hw7z:=hw7.size
      have hle7:w.heap.size+1≤w7.heap.size:=by omega
      clear hpush8 hown7 hown0 hone
      skip
      go_wp2_with (first
       |(at_builtin
         refine wpList_append_any _ rfl (.tmp 44) (.tmp 50) _ rfl (w.heap.size+1) 162 i1 _ 8 96 Tryz.underlying37 hi1 iz0 iz1 iz2 rfl (by omega) (.slice A7 T2.length q7) _ xs7 (by rfl) hown8 _ _ (m2-k) (d2-k) _ (by rfl) hrdP HON.out (by unfold maxLen;omega) (by omega) (by omega) ?_
         intro v9 w9 hown9 hg9 hat9
         have hgc:=hgb.grown hg9 (fun e=>by have:=(hlt7 _ e.symm).1;omega)
         have z9:=hgc.cell 1
         simp only[List.getElem?_toArray,List.getElem?_cons_succ,List.getElem?_cons_zero]at z9
         have f9:=hgc.frozen 1
         have l9:=hgc.lt
         obtain⟨A9,q9,rfl,hq9,hq9m⟩:=own_form hown9))
      all_goals go_end0
      all_goals
       have hrow9:=HPu8.out (cssP.drop k) (Pl.drop k) w9 (.slice A9 (T2.length+(m2-k)) q9) (by simp only[List.length_drop];omega) (fun cs hcs=>HCZ.out cs (List.mem_of_mem_drop hcs)) (fun i cs b h1 h2=>by
        rw[List.getElem?_drop]at h1 h2
        exact PnRel.kept.2 _ _ _ _ _ (PnRel.mono _ _ _ _ _ (HCP.out _ cs b h1 h2) fun q u hq hc=>by
         obtain⟨hk9,hc⟩:=only_cell hc
         rw[nb_iff]at hk9
         rw[only_cell_in (gB_iff.2 ⟨by omega,hk9,fun e=>by have:=(hlt7 _ e).1;omega⟩)]
         exact(hw7.cell hq).trans hc) hw7z) (by rw[show (Pl.drop k).length=m2-k by simp only[List.length_drop];omega];exact hown9) hg9 hat9
       obtain⟨o1,o2⟩:=HH0.out.put_end (hw7.grown hg9 hw7z (fun q hq=>by have:=(hlt7 q hq).1;omega)) hgc hrow9
       rw[HP.out]
       refine⟨A9,T2.length+(m2-k),q9,rfl,?_,o2⟩
       have e9:T2++Pl.drop k=T1++p::Pl.drop k:=by rw[HT2.out,List.append_assoc];rfl
       rw[←e9]
       exact o1
end Go.Proofs.YtcalkfgibflbnaaGreat
