/- The walk of recs.StateMay. -/
import Derived.BigRegion
import Derived.Sort.Walk0
import Derived.Test.YtcalkfgibflbnaaGreatKaaa
import Derived.Test.YtcalkfgibflbnaaGreatKaac
import Derived.Test.YtcalkfgibflbnaaGreatKaad
namespace Go.Proofs.YtcalkfgibflbnaaGreat
set_option maxHeartbeats 4000000
set_option maxRecDepth 100000
open Go.RowKit Fl
attribute [local go_sem] run_store_float
def inK (r:Rg) (k:ByteArray):Bool:=inR r (ofB k)
theorem inClos (r:Rg) (k:ByteArray) (B:Nat) (w:World) (hk:k.size≤maxLen) (hB:B<w.heap.size) (c0:w.cell? ⟨B,0,none⟩=some (.int .i64 r.id)) (c1:w.cell? ⟨B,1,none⟩=some (.int .i64 r.ep)) (c2:w.cell? ⟨B,2,none⟩=some (.float .f64 r.lo)) (c3:w.cell? ⟨B,3,none⟩=some (.float .f64 r.hi)):
 Calls Tryz.prog 111 #[.string k,.pointer (some ⟨B,0,none⟩)] w fun e w'=>e=.returned (.bool (inK r k))∧Below w.heap.size w w':=by
 have ho:=fun w=>of_any k w hk
 have hi:=fun w=>in_any r (ofB k) w
 go_enter Tryz.func111,Tryz.ntmps111
 go_wp2
 go_region_held3 (fun w'=>w'.cell? ⟨B,0,none⟩=some (.int .i64 r.id)∧w'.cell? ⟨B,1,none⟩=some (.int .i64 r.ep)∧w'.cell? ⟨B,2,none⟩=some (.float .f64 r.lo)∧w'.cell? ⟨B,3,none⟩=some (.float .f64 r.hi))
  (first|exact⟨c0,c1,c2,c3⟩|exact⟨(hb1.cell (p:=⟨_,_,none⟩) hB).trans c0,(hb1.cell (p:=⟨_,_,none⟩) hB).trans c1,(hb1.cell (p:=⟨_,_,none⟩) hB).trans c2,(hb1.cell (p:=⟨_,_,none⟩) hB).trans c3⟩)
  (first|((with_reducible refine(ho _).mono ?_);rintro e w1 ⟨rfl,rfl⟩)|((with_reducible refine(hi _).mono ?_);rintro e w1 ⟨rfl,hw1⟩;have hb1:Below w.heap.size w w1:=by rw[←hw1];exact(Below.refl _ _).drew.alloc (Nat.le_refl _) _))
 go_wp2
 go_ret
 exact⟨rfl,hb1⟩
theorem all_drop {α:Type} {f:α→Bool} {l:List α} {k:Nat} {a:α} (h:l[k]?=some a):(l.drop k).all f=(f a&&(l.drop (k+1)).all f):=by
 have h1:=List.getElem?_eq_some_iff.1 h
 rw[List.drop_eq_getElem_cons h1.1,h1.2]
 rfl
def AllRel {α:Type} (f:α→Bool) (l:List α) (w:World) (i:Value) (wr:World):Prop:=∃k:Nat,k≤l.length∧i=.int .i64 (k:Int)∧(l.drop k).all f=l.all f∧Below w.heap.size w wr
def inH (r:Rg) (h:Hs):Bool:=inK r h.key
def inP (r:Rg) (p:Pn):Bool:=p.r.all (inK r)&&p.w.all fun a=>inK r a.key
def mayS (s:Stt):Bool:=mayR s.r&&s.f.may&&s.c.may&&decide (loadE s.h s.p=0)&&s.h.all (inH s.r)&&s.p.all (inP s.r)
abbrev Stt.arr (s:Stt) (h p:Value):Array Value:=#[.int .i64 s.r.id,.int .i64 s.r.ep,.float .f64 s.r.lo,.float .f64 s.r.hi,.int .i64 s.f.w,.int .i64 s.f.l,.int .i64 s.f.n,.int .i64 s.c.w,.int .i64 s.c.l,.int .i64 s.c.n,h,p]
theorem stateMay_bad (s:Stt) (A1 A2:Option Addr) (n1 n2 c1 c2:Nat) (w:World) (hok:s.r.ok) (hbad:(mayR s.r&&s.f.may&&s.c.may)=false):
 Calls Tryz.prog 62 #[.agg (s.arr (.slice A1 n1 c1) (.slice A2 n2 c2))] w fun e w'=>e=.returned (.bool false)∧Below w.heap.size w w':=by
 have hm:=fun w=>may_any s.r w hok
 have hf:=fun w=>hmay_any s.f w
 have hc:=fun w=>hmay_any s.c w
 have hB0:=Blk.new w 39 (s.arr (.slice A1 n1 c1) (.slice A2 n2 c2))
 cases e1:mayR s.r
 · rw[e1]at hm
   clear hbad e1
   go_enter Tryz.func62,Tryz.ntmps62
   go_wp2_with ((with_reducible refine(hm _).mono ?_);rintro e w1 ⟨rfl,rfl⟩)
   go_ret
   exact⟨rfl,by go_grown⟩
 cases e2:s.f.may
 · rw[e1]at hm
   rw[e2]at hf
   clear hbad e1 e2
   go_enter Tryz.func62,Tryz.ntmps62
   go_wp2_with (first
    |((with_reducible refine(hm _).mono ?_);rintro e w1 ⟨rfl,rfl⟩)
    |((with_reducible refine(hf _).mono ?_);rintro e w1 ⟨rfl,rfl⟩))
   go_ret
   exact⟨rfl,by go_grown⟩
 have e3:s.c.may=false:=by rw[e1,e2]at hbad;simpa using hbad
 rw[e1]at hm
 rw[e2]at hf
 rw[e3]at hc
 clear hbad e1 e2 e3
 go_enter Tryz.func62,Tryz.ntmps62
 go_wp2_with (first
  |((with_reducible refine(hm _).mono ?_);rintro e w1 ⟨rfl,rfl⟩)
  |((with_reducible refine(hf _).mono ?_);rintro e w1 ⟨rfl,rfl⟩)
  |((with_reducible refine(hc _).mono ?_);rintro e w1 ⟨rfl,rfl⟩))
 go_ret
 exact⟨rfl,by go_grown⟩
theorem stateMay_good (s:Stt) (A1 A2:Option Addr) (n1 n2 c1 c2:Nat) (w:World) (hok:s.r.ok) (h1:Sl HsRel 2 w w.heap.size A1 n1 s.h) (h2:Sl PnRel 8 w w.heap.size A2 n2 s.p) (hH:SmallH s.h) (hQ:SmallP s.p)
 (hgood:(mayR s.r&&s.f.may&&s.c.may)=true):
 Calls Tryz.prog 62 #[.agg (s.arr (.slice A1 n1 c1) (.slice A2 n2 c2))] w fun e w'=>e=.returned (.bool (mayS s))∧Below w.heap.size w w':=by
 have hS:mayS s=(decide (loadE s.h s.p=0)&&s.h.all (inH s.r)&&s.p.all (inP s.r)):=by unfold mayS;rw[hgood];simp
 have hl1:=h1.1
 have hl2:=h2.1
 have hge1:n1≤s.h.length:=by omega
 have hle1:s.h.length≤n1:=by omega
 have hge2:n2≤s.p.length:=by omega
 have hle2:s.p.length≤n2:=by omega
 have hn1:n1≤1000000:=Nat.le_trans hge1 hH.1
 have hn2:n2≤1000000:=Nat.le_trans hge2 hQ.1
 clear hl1 hl2
 have hm:=fun w=>may_any s.r w hok
 have hf:=fun w=>hmay_any s.f w
 have hc:=fun w=>hmay_any s.c w
 rw[Bool.and_eq_true,Bool.and_eq_true]at hgood
 obtain⟨⟨e1,e2⟩,e3⟩:=hgood
 rw[e1]at hm
 rw[e2]at hf
 rw[e3]at hc
 clear e1 e2 e3
 have hB0:=Blk.new w 39 (s.arr (.slice A1 n1 c1) (.slice A2 n2 c2))
 go_enter Tryz.func62,Tryz.ntmps62
 go_wp2_with (first
  |((with_reducible refine(hm _).mono ?_);rintro e w1 ⟨rfl,rfl⟩)
  |((with_reducible refine(hf _).mono ?_);rintro e w1 ⟨rfl,rfl⟩)
  |((with_reducible refine(hc _).mono ?_);rintro e w1 ⟨rfl,rfl⟩)
  |(go_at_call 110;fail))
 have hX:Below w.heap.size w ((((w.alloc (.cells (s.arr (.slice A1 n1 c1) (.slice A2 n2 c2)) 39)).alloc (.cells #[.int .i64 s.r.id,.int .i64 s.r.ep,.float .f64 s.r.lo,.float .f64 s.r.hi] 35)).alloc (.cells s.f.arr 26)).alloc (.cells s.c.arr 26)):=by go_grown
 refine(load_any A1 A2 n1 n2 c1 c2 s.h s.p _ ((h1.below HsRel.kept hX).more HsRel.kept hX.size) ((h2.below PnRel.kept hX).more PnRel.kept hX.size) hH hQ).mono ?_
 rintro e w0 ⟨vL,rfl,hb0⟩
 have b0:=(((hB0.alloc (.cells #[.int .i64 s.r.id,.int .i64 s.r.ep,.float .f64 s.r.lo,.float .f64 s.r.hi] 35)).alloc (.cells s.f.arr 26)).alloc (.cells s.c.arr 26))
 have b:=b0.below hb0 b0.lt
 have hw0:Below w.heap.size w w0:=hX.trans (hb0.mono hX.size)
 clear hm hf hc hB0 hX hb0 b0
 have y0:=b.cell 0
 have y1:=b.cell 1
 have y2:=b.cell 2
 have y3:=b.cell 3
 have y10:=b.cell 10
 have y11:=b.cell 11
 simp only[List.getElem?_toArray,List.getElem?_cons_succ,List.getElem?_cons_zero]at y0 y1 y2 y3 y10 y11
 have lb:=b.lt
 by_cases hE:loadE s.h s.p=0
 · have hq:(loadE s.h s.p !=0)=false:=by simp[hE]
   have hS2:mayS s=(s.h.all (inH s.r)&&s.p.all (inP s.r)):=by rw[hS,hE];simp
   clear hS hE
   generalize loadE s.h s.p=ee at*
   go_wp2
   go_loopw [44] (fun i wr=>AllRel (inH s.r) s.h w0 i wr) (fun i _=>n1-(intOf i).toNat)
   case atStart=>exact⟨0,by omega,rfl,rfl,Below.refl _ _⟩
   case round=>
    obtain⟨k,hk,rfl,ha0,hb⟩:=hrel
    have hzz:=hb.size
    have hww:Below w.heap.size w wr:=hw0.trans (hb.mono hw0.size)
    have lbr:w.heap.size<wr.heap.size:=by omega
    have lbr1:w.heap.size<wr.heap.size+1:=by omega
    by_cases hlt:k<n1
    · obtain⟨ad,a,A',n',c',rfl,ha,hbk,hkz,d0,d1,hn',hc',hsv⟩:=((h1.below HsRel.kept hww).more HsRel.kept hww.size).hs hlt
      have hd1:decide ((k:Int)<(n1:Int))=true:=by simp;omega
      have hk0:(0:Int)≤(k:Int):=by omega
      have hk1:(k:Int)<(n1:Int):=by omega
      rw[all_drop ha]at ha0
      have hX:Below w0.heap.size w0 (wr.alloc (.cells #[.string a.key,.slice A' n' c'] 158)):=hb.alloc hzz _
      have hI:=inClos s.r a.key w.heap.size (wr.alloc (.cells #[.string a.key,.slice A' n' c'] 158)) (reach_max hkz) (by simp;omega) ((hX.cell (p:=⟨_,_,none⟩) lb).trans y0) ((hX.cell (p:=⟨_,_,none⟩) lb).trans y1) ((hX.cell (p:=⟨_,_,none⟩) lb).trans y2) ((hX.cell (p:=⟨_,_,none⟩) lb).trans y3)
      by_cases hin:inH s.r a=true
      · have HT:=Lib.hid (show (s.h.drop (k+1)).all (inH s.r)=s.h.all (inH s.r) by rw[←ha0,hin];rfl)
        rw[show inK s.r a.key=true from hin]at hI
        clear ha0 ha hin
        go_wp2_with ((with_reducible refine hI.mono ?_);rintro e w2 ⟨rfl,hb2⟩)
        go_roundw
        case rel=>exact⟨k+1,by omega,by go_num,HT.out,hX.trans (hb2.mono hX.size)⟩
        case measure=>simp[intOf];omega
      · have hif:inH s.r a=false:=by simpa using hin
        have HF:=Lib.hid (show mayS s=false by rw[hS2,←ha0,hif];rfl)
        rw[show inK s.r a.key=false from hif]at hI
        clear ha0 ha hin hif
        go_wp2_with ((with_reducible refine hI.mono ?_);rintro e w2 ⟨rfl,hb2⟩)
        go_ret
        rw[HF.out]
        exact⟨rfl,(hw0.trans (hX.mono hw0.size)).trans (hb2.mono (Nat.le_trans hw0.size hX.size))⟩
    · have hd1:decide ((k:Int)<(n1:Int))=false:=by simp;omega
      have hS3:mayS s=s.p.all (inP s.r):=by rw[hS2,←ha0,List.drop_of_length_le (by omega)];rfl
      have z11:=(hb.cell (p:=⟨w.heap.size,11,none⟩) lb).trans y11
      clear ha0 hS2
      go_wp2
      obtain⟨w1,rfl⟩:∃w1,w1=wr:=⟨_,rfl⟩
      clear lbr lbr1 z11
      go_loopw [57] (fun i wr=>AllRel (inP s.r) s.p w0 i wr) (fun i _=>n2-(intOf i).toNat)
      case atStart=>exact⟨0,by omega,rfl,rfl,hb⟩
      case round=>
       clear hb hzz hww
       obtain⟨k2,hk2,rfl,ha0,hb⟩:=hrel
       have hzz:=hb.size
       have hww:Below w.heap.size w wr:=hw0.trans (hb.mono hw0.size)
       by_cases hlt2:k2<n2
       · obtain⟨ad,x,A3,n3,c3,A4,n4,c4,rfl,ha,hbk,hxt,hxs,d0,d1,d2,d3,d4,d5,d6,d7,hn3,hc3,hs3,hn4,hc4,hs4⟩:=((h2.below PnRel.kept hww).more PnRel.kept hww.size).pn hlt2
         have hd1:decide ((k2:Int)<(n2:Int))=true:=by simp;omega
         have hk0:(0:Int)≤(k2:Int):=by omega
         have hk1:(k2:Int)<(n2:Int):=by omega
         have hsm:=hQ.2 x (List.mem_of_getElem? ha)
         have hl3:=hs3.1
         have hl4:=hs4.1
         rw[all_drop ha]at ha0
         have hX:Below w0.heap.size w0 (wr.alloc (.cells (x.arr (.slice A3 n3 c3) (.slice A4 n4 c4)) 162)):=hb.alloc hzz _
         have hXr:Below wr.heap.size wr (wr.alloc (.cells (x.arr (.slice A3 n3 c3) (.slice A4 n4 c4)) 162)):=by go_grown
         have i9:=Blk.new wr 162 (x.arr (.slice A3 n3 c3) (.slice A4 n4 c4))
         have hr:=(hs3.below KyRel.kept hXr).more KyRel.kept hXr.size
         have hw:=(hs4.below WtRel.kept hXr).more WtRel.kept hXr.size
         clear ha
         go_wp2
         generalize hg9:wr.heap.size=g9 at*
         obtain⟨w3,hw3e⟩:∃w3,w3=wr.alloc (.cells (x.arr (.slice A3 n3 c3) (.slice A4 n4 c4)) 162):=⟨_,rfl⟩
         rw[←hw3e]at hX i9 hr hw ⊢
         clear hw3e hXr d0 d1 d2 d3 d4 d5 d6 d7 hs3 hs4 hg9
         have hl9:=i9.lt
         have hwx:Below w.heap.size w w3:=hw0.trans (hX.mono hw0.size)
         go_loopw [64] (fun i wr=>AllRel (inK s.r) x.r w3 i wr) (fun i _=>n3-(intOf i).toNat)
         case atStart=>exact⟨0,by omega,rfl,rfl,Below.refl _ _⟩
         case round=>
           obtain⟨k3,hk3,rfl,hi0,hb3⟩:=hrel
           have hz3:=hb3.size
           have hX3:Below w0.heap.size w0 wr:=hX.trans (hb3.mono hX.size)
           by_cases hlt3:k3<n3
           · obtain⟨ad3,a,rfl,ha,hbk3,hok3,e0⟩:=((hr.below KyRel.kept hb3).more KyRel.kept hb3.size).ky hlt3
             have hd3:decide ((k3:Int)<(n3:Int))=true:=by simp;omega
             have hk03:(0:Int)≤(k3:Int):=by omega
             have hk13:(k3:Int)<(n3:Int):=by omega
             rw[all_drop ha]at hi0
             have hI:=inClos s.r a w.heap.size wr (reach_max hok3) (by have:=hX3.size;omega) ((hX3.cell (p:=⟨_,_,none⟩) lb).trans y0) ((hX3.cell (p:=⟨_,_,none⟩) lb).trans y1) ((hX3.cell (p:=⟨_,_,none⟩) lb).trans y2) ((hX3.cell (p:=⟨_,_,none⟩) lb).trans y3)
             by_cases hin:inK s.r a=true
             · have HT:=Lib.hid (show (x.r.drop (k3+1)).all (inK s.r)=x.r.all (inK s.r) by rw[←hi0,hin];rfl)
               rw[hin]at hI
               clear hi0 ha hin
               go_wp2_with ((with_reducible refine hI.mono ?_);rintro e w5 ⟨rfl,hb5⟩)
               go_roundw
               case rel=>exact⟨k3+1,by omega,by go_num,HT.out,hb3.trans (hb5.mono hz3)⟩
               case measure=>simp[intOf];omega
             · have hif:inK s.r a=false:=by simpa using hin
               have HF:=Lib.hid (show mayS s=false by
                rw[hS3,←ha0]
                unfold inP
                rw[←hi0,hif]
                rfl)
               rw[hif]at hI
               clear hi0 ha hin hif
               go_wp2_with ((with_reducible refine hI.mono ?_);rintro e w5 ⟨rfl,hb5⟩)
               go_ret
               rw[HF.out]
               exact⟨rfl,(hw0.trans (hX3.mono hw0.size)).trans (hb5.mono (Nat.le_trans hw0.size hX3.size))⟩
           · have hd3:decide ((k3:Int)<(n3:Int))=false:=by simp;omega
             have hrr:x.r.all (inK s.r)=true:=by rw[←hi0,List.drop_of_length_le (by omega)];rfl
             have hip:inP s.r x=x.w.all fun a=>inK s.r a.key:=by unfold inP;rw[hrr];rfl
             have j9:=i9.below hb3 hl9
             have u7:=j9.cell 7
             simp only[List.getElem?_toArray,List.getElem?_cons_succ,List.getElem?_cons_zero]at u7
             have hwb:=(hw.below WtRel.kept hb3).more WtRel.kept hb3.size
             clear hi0 hrr
             go_wp2
             obtain⟨w4,rfl⟩:∃w4,w4=wr:=⟨_,rfl⟩
             clear u7
             go_loopw [76] (fun i wr=>AllRel (fun a:Wt=>inK s.r a.key) x.w w4 i wr) (fun i _=>n4-(intOf i).toNat)
             case atStart=>exact⟨0,by omega,rfl,rfl,Below.refl _ _⟩
             case round=>
              obtain⟨k4,hk4,rfl,hi0,hb4⟩:=hrel
              have hz4:=hb4.size
              have hX4:Below w0.heap.size w0 wr:=hX3.trans (hb4.mono hX3.size)
              by_cases hlt4:k4<n4
              · obtain⟨ad4,a,rfl,ha,hbk4,hok4,e0,e1,e2,e3⟩:=((hwb.below WtRel.kept hb4).more WtRel.kept hb4.size).wt hlt4
                have hd4:decide ((k4:Int)<(n4:Int))=true:=by simp;omega
                have hk04:(0:Int)≤(k4:Int):=by omega
                have hk14:(k4:Int)<(n4:Int):=by omega
                rw[all_drop ha]at hi0
                have hX5:Below w0.heap.size w0 (wr.alloc (.cells #[.string a.key,.int .i64 a.v.k,.float .f64 a.v.n,.string a.v.t] 61)):=hX4.alloc hX4.size _
                have hI:=inClos s.r a.key w.heap.size (wr.alloc (.cells #[.string a.key,.int .i64 a.v.k,.float .f64 a.v.n,.string a.v.t] 61)) (reach_max hok4.1) (by have:=hX5.size;omega) ((hX5.cell (p:=⟨_,_,none⟩) lb).trans y0) ((hX5.cell (p:=⟨_,_,none⟩) lb).trans y1) ((hX5.cell (p:=⟨_,_,none⟩) lb).trans y2) ((hX5.cell (p:=⟨_,_,none⟩) lb).trans y3)
                by_cases hin:inK s.r a.key=true
                · have HT:=Lib.hid (show (x.w.drop (k4+1)).all (fun a:Wt=>inK s.r a.key)=x.w.all (fun a:Wt=>inK s.r a.key) by rw[←hi0,hin];rfl)
                  rw[hin]at hI
                  clear hi0 ha hin
                  go_wp2_with ((with_reducible refine hI.mono ?_);rintro e w5 ⟨rfl,hb5⟩)
                  go_roundw
                  case rel=>exact⟨k4+1,by omega,by go_num,HT.out,(hb4.alloc hz4 _).trans (hb5.mono (by simp;omega))⟩
                  case measure=>simp[intOf];omega
                · have hif:inK s.r a.key=false:=by simpa using hin
                  have HF:=Lib.hid (show mayS s=false by
                   rw[hS3,←ha0,hip,←hi0,hif]
                   rfl)
                  rw[hif]at hI
                  clear hi0 ha hin hif
                  go_wp2_with ((with_reducible refine hI.mono ?_);rintro e w5 ⟨rfl,hb5⟩)
                  go_ret
                  rw[HF.out]
                  exact⟨rfl,(hw0.trans (hX5.mono hw0.size)).trans (hb5.mono (Nat.le_trans hw0.size hX5.size))⟩
              · have hd4:decide ((k4:Int)<(n4:Int))=false:=by simp;omega
                have hpt:inP s.r x=true:=by rw[hip,←hi0,List.drop_of_length_le (by omega)];rfl
                have HT:=Lib.hid (show (s.p.drop (k2+1)).all (inP s.r)=s.p.all (inP s.r) by rw[←ha0,hpt];rfl)
                clear hi0 ha0 hip hpt
                go_wp2
                go_roundw
                case rel=>exact⟨k2+1,by omega,by go_num,HT.out,hX4⟩
                case measure=>simp[intOf];omega
       · have hd1:decide ((k2:Int)<(n2:Int))=false:=by simp;omega
         have HF:=Lib.hid (show mayS s=true by rw[hS3,←ha0,List.drop_of_length_le (by omega)];rfl)
         clear ha0
         go_wp2
         go_ret
         rw[HF.out]
         exact⟨rfl,hww⟩
 · have hq:(loadE s.h s.p !=0)=true:=by simp[hE]
   have HF:=Lib.hid (show mayS s=false by rw[hS];simp[hE])
   clear hS
   go_wp2
   go_ret
   rw[HF.out]
   exact⟨rfl,hw0⟩
theorem stateMay_any (s:Stt) (A1 A2:Option Addr) (n1 n2 c1 c2:Nat) (w:World) (hok:s.r.ok) (h1:Sl HsRel 2 w w.heap.size A1 n1 s.h) (h2:Sl PnRel 8 w w.heap.size A2 n2 s.p) (hH:SmallH s.h) (hQ:SmallP s.p):
 Calls Tryz.prog 62 #[.agg (s.arr (.slice A1 n1 c1) (.slice A2 n2 c2))] w fun e w'=>e=.returned (.bool (mayS s))∧Below w.heap.size w w':=by
 by_cases h:(mayR s.r&&s.f.may&&s.c.may)=true
 · exact stateMay_good s A1 A2 n1 n2 c1 c2 w hok h1 h2 hH hQ h
 · have hb:(mayR s.r&&s.f.may&&s.c.may)=false:=by simpa using h
   have e:mayS s=false:=by unfold mayS;rw[hb];rfl
   rw[e]
   exact stateMay_bad s A1 A2 n1 n2 c1 c2 w hok hb
end Go.Proofs.YtcalkfgibflbnaaGreat
/- Data that came in: stamps, versions, histories, pending ones, states. -/
namespace Go.Proofs.YtcalkfgibflbnaaGreat
set_option maxRecDepth 100000
set_option linter.unusedVariables false
open Go.ChangeShapes Go.WideShapes Go.RowKit
section
variable {H:Type} {enc:TypeId×Value→H} {w:World}
theorem opn_sp {cs:List Value} (h:Opn enc Tryz.prog w 26 cs):∃v:Sp,cs=[.int .i64 v.w,.int .i64 v.l,.int .i64 v.n]∧v.ok:=by
 have hl:=h.len Tryz.underlying26
 rw[show Tryz.prog.cellsOf 26=3 from by kernel_rfl]at hl
 match cs,hl with
 |[c0,c1,c2],_=>
  obtain⟨x0,rfl,h0⟩:=(h.fld 0 1 (ty:=3) (off:=0) (by kernel_rfl) (by kernel_rfl)).int Tryz.underlying3
  obtain⟨x1,rfl,h1⟩:=(h.fld 1 1 (ty:=3) (off:=1) (by kernel_rfl) (by kernel_rfl)).int Tryz.underlying3
  obtain⟨x2,rfl,h2⟩:=(h.fld 2 1 (ty:=3) (off:=2) (by kernel_rfl) (by kernel_rfl)).int Tryz.underlying3
  exact⟨⟨x0,x1,x2⟩,rfl,h0,h1,h2⟩
theorem opn_tx {cs:List Value} (h:Opn enc Tryz.prog w 23 cs):∃v:Tx,cs=[.int .i64 v.c,.int .i64 v.l,.int .i64 v.s]∧v.ok:=by
 have hl:=h.len Tryz.underlying23
 rw[show Tryz.prog.cellsOf 23=3 from by kernel_rfl]at hl
 match cs,hl with
 |[c0,c1,c2],_=>
  obtain⟨x0,rfl,h0⟩:=(h.fld 0 1 (ty:=3) (off:=0) (by kernel_rfl) (by kernel_rfl)).int Tryz.underlying3
  obtain⟨x1,rfl,h1⟩:=(h.fld 1 1 (ty:=3) (off:=1) (by kernel_rfl) (by kernel_rfl)).int Tryz.underlying3
  obtain⟨x2,rfl,h2⟩:=(h.fld 2 1 (ty:=3) (off:=2) (by kernel_rfl) (by kernel_rfl)).int Tryz.underlying3
  exact⟨⟨x0,x1,x2⟩,rfl,h0,h1,h2⟩
theorem opn_rg {cs:List Value} (h:Opn enc Tryz.prog w 35 cs):∃v:Rg,cs=v.cells∧v.ok:=by
 have hl:=h.len Tryz.underlying35
 rw[show Tryz.prog.cellsOf 35=4 from by kernel_rfl]at hl
 match cs,hl with
 |[c0,c1,c2,c3],_=>
  obtain⟨x0,rfl,h0⟩:=(h.fld 0 1 (ty:=3) (off:=0) (by kernel_rfl) (by kernel_rfl)).int Tryz.underlying3
  obtain⟨x1,rfl,h1⟩:=(h.fld 1 1 (ty:=3) (off:=1) (by kernel_rfl) (by kernel_rfl)).int Tryz.underlying3
  obtain⟨x2,rfl,h2⟩:=(h.fld 2 1 (ty:=33) (off:=2) (by kernel_rfl) (by kernel_rfl)).float Tryz.underlying33
  obtain⟨x3,rfl,h3⟩:=(h.fld 3 1 (ty:=33) (off:=3) (by kernel_rfl) (by kernel_rfl)).float Tryz.underlying33
  exact⟨⟨x0,x1,x2,x3⟩,rfl,h0,h1,h2,h3⟩
theorem opn_vn {cs:List Value} (h:Opn enc Tryz.prog w 160 cs):∃v:Vn,cs=v.cells∧v.ok:=by
 have hl:=h.len Tryz.underlying160
 rw[show Tryz.prog.cellsOf 160=6 from by kernel_rfl]at hl
 match cs,hl with
 |[c0,c1,c2,c3,c4,c5],_=>
  obtain⟨x0,e0,h0⟩:=opn_sp (h.fld 0 3 (ty:=26) (off:=0) (by kernel_rfl) (by kernel_rfl))
  obtain⟨x1,e1,h1⟩:=opn_vl (h.fld 1 3 (ty:=59) (off:=3) (by kernel_rfl) (by kernel_rfl))
  refine⟨⟨x0,x1⟩,?_,h0,h1⟩
  change [c0,c1,c2]=_ at e0
  change [c3,c4,c5]=_ at e1
  show [c0,c1,c2]++[c3,c4,c5]=_
  rw[e0,e1];rfl
theorem opn_kys {v:Value} (h:Opn enc Tryz.prog w 27 [v]):∃l,HdRel KyRel 1 w w.heap.size v l:=
 h.slice KyRel 1 (by omega) Tryz.underlying27 (by kernel_rfl) fun cs hl ho=>by
  match cs,hl with
  |[c0],_=>
   obtain⟨s,rfl,hs⟩:=ho.str Tryz.underlying9
   exact⟨s,rfl,hs⟩
theorem opn_vns {v:Value} (h:Opn enc Tryz.prog w 156 [v]):∃l,HdRel VnRel 6 w w.heap.size v l:=
 h.slice VnRel 6 (by omega) Tryz.underlying156 (by kernel_rfl) fun _ _ ho=>opn_vn ho
theorem opn_hs {cs:List Value} (h:Opn enc Tryz.prog w 158 cs):∃x:Hs,HsRel w w.heap.size cs x:=by
 have hl:=h.len Tryz.underlying158
 rw[show Tryz.prog.cellsOf 158=2 from by kernel_rfl]at hl
 match cs,hl with
 |[c0,c1],_=>
  obtain⟨x0,rfl,h0⟩:=(h.fld 0 1 (ty:=9) (off:=0) (by kernel_rfl) (by kernel_rfl)).str Tryz.underlying9
  obtain⟨l,hd⟩:=opn_vns (h.fld 1 1 (ty:=156) (off:=1) (by kernel_rfl) (by kernel_rfl))
  exact⟨⟨x0,l⟩,_,rfl,h0,hd⟩
theorem opn_hss {v:Value} (h:Opn enc Tryz.prog w 36 [v]):∃l,HdRel HsRel 2 w w.heap.size v l:=
 h.slice HsRel 2 (by omega) Tryz.underlying36 (by kernel_rfl) fun _ _ ho=>opn_hs ho
theorem opn_pn {cs:List Value} (h:Opn enc Tryz.prog w 162 cs):∃x:Pn,PnRel w w.heap.size cs x:=by
 have hl:=h.len Tryz.underlying162
 rw[show Tryz.prog.cellsOf 162=8 from by kernel_rfl]at hl
 match cs,hl with
 |[c0,c1,c2,c3,c4,c5,c6,c7],_=>
  obtain⟨x0,e0,h0⟩:=opn_tx (h.fld 0 3 (ty:=23) (off:=0) (by kernel_rfl) (by kernel_rfl))
  obtain⟨x1,e1,h1⟩:=opn_sp (h.fld 1 3 (ty:=26) (off:=3) (by kernel_rfl) (by kernel_rfl))
  obtain⟨l,hr⟩:=opn_kys (h.fld 2 1 (ty:=27) (off:=6) (by kernel_rfl) (by kernel_rfl))
  obtain⟨m,hq⟩:=opn_wts (h.fld 3 1 (ty:=29) (off:=7) (by kernel_rfl) (by kernel_rfl))
  refine⟨⟨x0,x1,l,m⟩,c6,c7,?_,h0,h1,hr,hq⟩
  change [c0,c1,c2]=_ at e0
  change [c3,c4,c5]=_ at e1
  show [c0,c1,c2]++([c3,c4,c5]++[c6,c7])=_
  rw[e0,e1];rfl
theorem opn_pns {v:Value} (h:Opn enc Tryz.prog w 37 [v]):∃l,HdRel PnRel 8 w w.heap.size v l:=
 h.slice PnRel 8 (by omega) Tryz.underlying37 (by kernel_rfl) fun _ _ ho=>opn_pn ho
theorem opn_st {cs:List Value} (h:Opn enc Tryz.prog w 39 cs):∃(s:Stt) (a b:Value),cs=(s.arr a b).toList∧s.r.ok∧s.f.ok∧s.c.ok∧HdRel HsRel 2 w w.heap.size a s.h∧HdRel PnRel 8 w w.heap.size b s.p:=by
 have hl:=h.len Tryz.underlying39
 rw[show Tryz.prog.cellsOf 39=12 from by kernel_rfl]at hl
 match cs,hl with
 |[c0,c1,c2,c3,c4,c5,c6,c7,c8,c9,c10,c11],_=>
  obtain⟨x0,e0,h0⟩:=opn_rg (h.fld 0 4 (ty:=35) (off:=0) (by kernel_rfl) (by kernel_rfl))
  obtain⟨x1,e1,h1⟩:=opn_sp (h.fld 1 3 (ty:=26) (off:=4) (by kernel_rfl) (by kernel_rfl))
  obtain⟨x2,e2,h2⟩:=opn_sp (h.fld 2 3 (ty:=26) (off:=7) (by kernel_rfl) (by kernel_rfl))
  obtain⟨l,hr⟩:=opn_hss (h.fld 3 1 (ty:=36) (off:=10) (by kernel_rfl) (by kernel_rfl))
  obtain⟨m,hq⟩:=opn_pns (h.fld 4 1 (ty:=37) (off:=11) (by kernel_rfl) (by kernel_rfl))
  refine⟨⟨x0,x1,x2,l,m⟩,c10,c11,?_,h0,h1,h2,hr,hq⟩
  change [c0,c1,c2,c3]=_ at e0
  change [c4,c5,c6]=_ at e1
  change [c7,c8,c9]=_ at e2
  show [c0,c1,c2,c3]++([c4,c5,c6]++([c7,c8,c9]++[c10,c11]))=_
  rw[e0,e1,e2];rfl
end
end Go.Proofs.YtcalkfgibflbnaaGreat
/- The walks of raceref's comparisons where both sides read as one: Histories, Pending, Pendings, State. -/
namespace Go.Proofs.YtcalkfgibflbnaaGreat
set_option maxHeartbeats 4000000
set_option maxRecDepth 100000
set_option linter.unusedVariables false
open Go.RowKit Fl
attribute [local go_sem] run_store_float
def AllOf {α:Type} (l:List α) (w:World) (i:Value) (wr:World):Prop:=∃k:Nat,k≤l.length∧i=.int .i64 (k:Int)∧Below w.heap.size w wr
theorem hists_same (A A':Option Addr) (n n' c c':Nat) (l:List Hs) (w:World) (h:Sl HsRel 2 w w.heap.size A n l) (h':Sl HsRel 2 w w.heap.size A' n' l) (hn:n≤maxLen):
 Calls Tryz.prog 79 #[.slice A n c,.slice A' n' c'] w fun e w'=>e=.returned (.bool true)∧Below w.heap.size w w':=by
 unfold maxLen at hn
 obtain rfl:n=n':=h.1.symm.trans h'.1
 have hl:=h.1
 have hge:n≤l.length:=by omega
 have hle:l.length≤n:=by omega
 clear hl
 have hb0:((n:Int) !=(n:Int))=false:=by simp
 go_enter Tryz.func79,Tryz.ntmps79
 go_wp2
 go_loopw [5] (fun i wr=>AllOf l w i wr) (fun i _=>n-(intOf i).toNat)
 case atStart=>exact⟨0,by omega,rfl,Below.refl _ _⟩
 case round=>
  obtain⟨k,hk,rfl,hb⟩:=hrel
  have hzz:=hb.size
  by_cases hlt:k<n
  · obtain⟨ad,a,A1,n1,c1,rfl,ha,hbk,hok,d0,d1,hn1,hc1,hs1⟩:=((h.below HsRel.kept hb).more HsRel.kept hb.size).hs hlt
    obtain⟨ad',a',A2,n2,c2,rfl,ha',hbk',hok',e0,e1,hn2,hc2,hs2⟩:=((h'.below HsRel.kept hb).more HsRel.kept hb.size).hs hlt
    obtain rfl:a=a':=Option.some.inj (ha.symm.trans ha')
    obtain rfl:n1=n2:=hs1.1.symm.trans hs2.1
    have hd1:decide ((k:Int)<(n:Int))=true:=by simp;omega
    have hk0:(0:Int)≤(k:Int):=by omega
    have hk1:(k:Int)<(n:Int):=by omega
    have hb1:((n1:Int) !=(n1:Int))=false:=by simp
    have hb2:(a.key.toList !=a.key.toList)=false:=by simp
    have hl1:=hs1.1
    have hge1:n1≤a.vs.length:=by omega
    have hle1:a.vs.length≤n1:=by omega
    unfold maxLen at hc1
    have HA:=Lib.hid ha
    have HA':=Lib.hid ha'
    clear hl1 ha ha'
    go_wp2
    go_quiet (fail)
    go_wp2
    have hbq:Below w.heap.size w (wr.drewN nq):=hb.trans ((belowN nq).mono hzz)
    clear d0 d1 e0 e1 hs1 hs2 hb hzz
    go_loopw [6] (fun i wr=>AllOf a.vs w i wr) (fun i _=>n1-(intOf i).toNat)
    case atStart=>exact⟨0,by omega,rfl,hbq⟩
    case round=>
        obtain⟨k2,hk2,rfl,hb⟩:=hrel
        have hzz:=hb.size
        obtain⟨ad1,a1,B1,m1,c3,ex,ha1,hbk1,hok1,d0,d1,hm1,hc3,hs1⟩:=((h.below HsRel.kept hb).more HsRel.kept hb.size).hs hlt
        obtain⟨ad2,a2,B2,m2,c4,ey,ha2,hbk2,hok2,e0,e1,hm2,hc4,hs2⟩:=((h'.below HsRel.kept hb).more HsRel.kept hb.size).hs hlt
        injection ex with ex
        injection ey with ey
        subst ex ey
        obtain rfl:a=a1:=Option.some.inj (HA.out.symm.trans ha1)
        obtain rfl:a=a2:=Option.some.inj (HA'.out.symm.trans ha2)
        obtain rfl:n1=m1:=by have:=hs1.1;omega
        obtain rfl:n1=m2:=by have:=hs2.1;omega
        clear ha1 ha2
        by_cases hlt2:k2<n1
        · obtain⟨bd,v,rfl,hv,hvk,hvo,x0,x1,x2,x3,x4,x5⟩:=hs1.vn hlt2
          obtain⟨bd',v',rfl,hv',hvk',hvo',y0,y1,y2,y3,y4,y5⟩:=hs2.vn hlt2
          obtain rfl:v=v':=Option.some.inj (hv.symm.trans hv')
          have hd3:decide ((k2:Int)<(n1:Int))=true:=by simp;omega
          have hk20:(0:Int)≤(k2:Int):=by omega
          have hk21:(k2:Int)<(n1:Int):=by omega
          have hvs:=fun w=>value_any v.v v.v w
          rw[Vl.same_self]at hvs
          clear hv hv'
          go_wp2
          go_region
          go_wp2_with ((with_reducible refine(hvs _).mono ?_);rintro e w3 ⟨rfl,hb3⟩)
          all_goals
           have hb4:Below wr.heap.size wr w3:=Below.trans (by go_grown;done) (hb3.mono (by simp;omega))
           clear hb3
           go_roundw
           case rel=>exact⟨k2+1,by omega,by go_num,hb.trans (hb4.mono hzz)⟩
           case measure=>simp[intOf];omega
        · have hd3:decide ((k2:Int)<(n1:Int))=false:=by simp;omega
          go_wp2
          go_roundw
          case rel=>exact⟨k+1,by omega,by go_num,hb⟩
          case measure=>simp[intOf];omega
  · have hd1:decide ((k:Int)<(n:Int))=false:=by simp;omega
    go_wp2
    go_ret
    exact⟨rfl,hb⟩
theorem pend_same (p:Pn) (A1 A2 B1 B2:Option Addr) (n1 n2 m1 m2 c1 c2 d1 d2:Nat) (w:World) (h1:Sl KyRel 1 w w.heap.size A1 n1 p.r) (h2:Sl WtRel 4 w w.heap.size A2 n2 p.w) (k1:Sl KyRel 1 w w.heap.size B1 m1 p.r) (k2:Sl WtRel 4 w w.heap.size B2 m2 p.w)
 (hn1:n1≤maxLen) (hn2:n2≤maxLen):
 Calls Tryz.prog 126 #[p.val (.slice A1 n1 c1) (.slice A2 n2 c2),p.val (.slice B1 m1 d1) (.slice B2 m2 d2)] w fun e w'=>e=.returned (.bool true)∧Below w.heap.size w w':=by
 obtain rfl:n1=m1:=h1.1.symm.trans k1.1
 obtain rfl:n2=m2:=h2.1.symm.trans k2.1
 have hX:Below w.heap.size w ((w.alloc (.cells (p.arr (.slice A1 n1 c1) (.slice A2 n2 c2)) 162)).alloc (.cells (p.arr (.slice B1 n1 d1) (.slice B2 n2 d2)) 162)):=by go_grown
 have i2:Blk ((w.alloc (.cells (p.arr (.slice A1 n1 c1) (.slice A2 n2 c2)) 162)).alloc (.cells (p.arr (.slice B1 n1 d1) (.slice B2 n2 d2)) 162)) w.heap.size 162 (p.arr (.slice A1 n1 c1) (.slice A2 n2 c2)):=(Blk.new _ _ _).alloc _
 have i3:Blk ((w.alloc (.cells (p.arr (.slice A1 n1 c1) (.slice A2 n2 c2)) 162)).alloc (.cells (p.arr (.slice B1 n1 d1) (.slice B2 n2 d2)) 162)) (w.heap.size+1) 162 (p.arr (.slice B1 n1 d1) (.slice B2 n2 d2)):=Blk.new' _ _ (by simp)
 have hT:=fun w' (hb:Below w.heap.size w w')=>texts_any A1 B1 n1 n1 c1 d1 p.r p.r w' ((h1.below KyRel.kept hb).more KyRel.kept hb.size) ((k1.below KyRel.kept hb).more KyRel.kept hb.size) hn1 hn1
 have hW:=fun w' (hb:Below w.heap.size w w')=>wts_any A2 B2 n2 n2 c2 d2 p.w p.w w' ((h2.below WtRel.kept hb).more WtRel.kept hb.size) ((k2.below WtRel.kept hb).more WtRel.kept hb.size) hn2 hn2
 rw[sameL_self (fun a=>by simp)]at hT
 rw[sameL_self Wt.same_self]at hW
 go_enter Tryz.func126,Tryz.ntmps126
 go_wp2_with (first
  |((with_reducible refine(hT _ hX).mono ?_);rintro e w3 ⟨rfl,hb3⟩
    have j2:=i2.below hb3 i2.lt
    have j3:=i3.below hb3 i3.lt
    have hY:=hX.trans (hb3.mono hX.size)
    obtain⟨l2,x0,x1,x2,x3,x4,x5,x6,x7⟩:=j2.eight
    obtain⟨l3,y0,y1,y2,y3,y4,y5,y6,y7⟩:=j3.eight)
  |((with_reducible refine(hW _ hY).mono ?_);rintro e w4 ⟨rfl,hb4⟩))
 go_ret
 exact⟨rfl,hY.trans (hb4.mono hY.size)⟩
theorem pends_same (A A':Option Addr) (n n' c c':Nat) (l:List Pn) (w:World) (h:Sl PnRel 8 w w.heap.size A n l) (h':Sl PnRel 8 w w.heap.size A' n' l) (hn:n≤maxLen):
 Calls Tryz.prog 80 #[.slice A n c,.slice A' n' c'] w fun e w'=>e=.returned (.bool true)∧Below w.heap.size w w':=by
 unfold maxLen at hn
 obtain rfl:n=n':=h.1.symm.trans h'.1
 have hl:=h.1
 have hge:n≤l.length:=by omega
 have hle:l.length≤n:=by omega
 clear hl
 have hb0:((n:Int) !=(n:Int))=false:=by simp
 go_enter Tryz.func80,Tryz.ntmps80
 go_wp2
 go_loopw [5] (fun i wr=>AllOf l w i wr) (fun i _=>n-(intOf i).toNat)
 case atStart=>exact⟨0,by omega,rfl,Below.refl _ _⟩
 case round=>
  obtain⟨k,hk,rfl,hb⟩:=hrel
  have hzz:=hb.size
  by_cases hlt:k<n
  · obtain⟨ad,a,A1,n1,c1,A2,n2,c2,rfl,ha,hbk,hxt,hxs,d0,d1,d2,d3,d4,d5,d6,d7,hn1,hc1,hs1,hn2,hc2,hs2⟩:=((h.below PnRel.kept hb).more PnRel.kept hb.size).pn hlt
    obtain⟨ad',a',A3,n3,c3,A4,n4,c4,rfl,ha',hbk',hxt',hxs',e0,e1,e2,e3,e4,e5,e6,e7,hn3,hc3,hs3,hn4,hc4,hs4⟩:=((h'.below PnRel.kept hb).more PnRel.kept hb.size).pn hlt
    obtain rfl:a=a':=Option.some.inj (ha.symm.trans ha')
    have hd1:decide ((k:Int)<(n:Int))=true:=by simp;omega
    have hk0:(0:Int)≤(k:Int):=by omega
    have hk1:(k:Int)<(n:Int):=by omega
    have hP:=fun w' (hb:Below wr.heap.size wr w')=>pend_same a A1 A2 A3 A4 n1 n2 n3 n4 c1 c2 c3 c4 w' ((hs1.below KyRel.kept hb).more KyRel.kept hb.size) ((hs2.below WtRel.kept hb).more WtRel.kept hb.size) ((hs3.below KyRel.kept hb).more KyRel.kept hb.size) ((hs4.below WtRel.kept hb).more WtRel.kept hb.size) (by omega) (by omega)
    clear ha ha'
    go_wp2
    go_region_held3 (fun w'=>w'.cell? (ad.add (k*8))=some (.int .i64 a.t.c)∧w'.cell? ⟨(ad.add (k*8)).block,(ad.add (k*8)).off+1,none⟩=some (.int .i64 a.t.l)∧w'.cell? ⟨(ad.add (k*8)).block,(ad.add (k*8)).off+2,none⟩=some (.int .i64 a.t.s)∧w'.cell? ⟨(ad.add (k*8)).block,(ad.add (k*8)).off+3,none⟩=some (.int .i64 a.s.w)∧w'.cell? ⟨(ad.add (k*8)).block,(ad.add (k*8)).off+4,none⟩=some (.int .i64 a.s.l)∧w'.cell? ⟨(ad.add (k*8)).block,(ad.add (k*8)).off+5,none⟩=some (.int .i64 a.s.n)∧w'.cell? ⟨(ad.add (k*8)).block,(ad.add (k*8)).off+6,none⟩=some (.slice A1 n1 c1)∧w'.cell? ⟨(ad.add (k*8)).block,(ad.add (k*8)).off+7,none⟩=some (.slice A2 n2 c2)∧w'.cell? (ad'.add (k*8))=some (.int .i64 a.t.c)∧w'.cell? ⟨(ad'.add (k*8)).block,(ad'.add (k*8)).off+1,none⟩=some (.int .i64 a.t.l)∧w'.cell? ⟨(ad'.add (k*8)).block,(ad'.add (k*8)).off+2,none⟩=some (.int .i64 a.t.s)∧w'.cell? ⟨(ad'.add (k*8)).block,(ad'.add (k*8)).off+3,none⟩=some (.int .i64 a.s.w)∧w'.cell? ⟨(ad'.add (k*8)).block,(ad'.add (k*8)).off+4,none⟩=some (.int .i64 a.s.l)∧w'.cell? ⟨(ad'.add (k*8)).block,(ad'.add (k*8)).off+5,none⟩=some (.int .i64 a.s.n)∧w'.cell? ⟨(ad'.add (k*8)).block,(ad'.add (k*8)).off+6,none⟩=some (.slice A3 n3 c3)∧w'.cell? ⟨(ad'.add (k*8)).block,(ad'.add (k*8)).off+7,none⟩=some (.slice A4 n4 c4))
        (first|exact⟨d0,d1,d2,d3,d4,d5,d6,d7,e0,e1,e2,e3,e4,e5,e6,e7⟩|exact⟨(hb9.cell (by exact hbk)).trans d0,(hb9.cell (by exact hbk)).trans d1,(hb9.cell (by exact hbk)).trans d2,(hb9.cell (by exact hbk)).trans d3,(hb9.cell (by exact hbk)).trans d4,(hb9.cell (by exact hbk)).trans d5,(hb9.cell (by exact hbk)).trans d6,(hb9.cell (by exact hbk)).trans d7,(hb9.cell (by exact hbk')).trans e0,(hb9.cell (by exact hbk')).trans e1,(hb9.cell (by exact hbk')).trans e2,(hb9.cell (by exact hbk')).trans e3,(hb9.cell (by exact hbk')).trans e4,(hb9.cell (by exact hbk')).trans e5,(hb9.cell (by exact hbk')).trans e6,(hb9.cell (by exact hbk')).trans e7⟩)
        (first|((with_reducible refine(hP _ (Below.refl _ _).drew).mono ?_);rintro e w5 ⟨rfl,hb5⟩;have hb9:Below wr.heap.size wr w5:=(Below.refl wr.heap.size wr).drew.trans hb5))
    go_wp2
    go_roundw
    case rel=>exact⟨k+1,by omega,by go_num,hb.trans (hb9.mono hzz)⟩
    case measure=>simp[intOf];omega
  · have hd1:decide ((k:Int)<(n:Int))=false:=by simp;omega
    go_wp2
    go_ret
    exact⟨rfl,hb⟩
theorem dozenC {w:World} {g:Nat} {t:TypeId} {a b c d e f h i j k l m:Value} (hh:Blk w g t #[a,b,c,d,e,f,h,i,j,k,l,m]):
 g<w.heap.size∧w.cell? ⟨g,0,none⟩=some a∧w.cell? ⟨g,1,none⟩=some b∧w.cell? ⟨g,2,none⟩=some c∧w.cell? ⟨g,3,none⟩=some d∧w.cell? ⟨g,4,none⟩=some e∧w.cell? ⟨g,5,none⟩=some f∧
 w.cell? ⟨g,6,none⟩=some h∧w.cell? ⟨g,7,none⟩=some i∧w.cell? ⟨g,8,none⟩=some j∧w.cell? ⟨g,9,none⟩=some k∧w.cell? ⟨g,10,none⟩=some l∧w.cell? ⟨g,11,none⟩=some m:=
 ⟨hh.lt,hh.cell 0,hh.cell 1,hh.cell 2,hh.cell 3,hh.cell 4,hh.cell 5,hh.cell 6,hh.cell 7,hh.cell 8,hh.cell 9,hh.cell 10,hh.cell 11⟩
theorem state_same (s:Stt) (A1 A2 B1 B2:Option Addr) (n1 n2 m1 m2 c1 c2 d1 d2:Nat) (w:World) (h1:Sl HsRel 2 w w.heap.size A1 n1 s.h) (h2:Sl PnRel 8 w w.heap.size A2 n2 s.p) (k1:Sl HsRel 2 w w.heap.size B1 m1 s.h) (k2:Sl PnRel 8 w w.heap.size B2 m2 s.p)
 (hn1:n1≤maxLen) (hn2:n2≤maxLen):
 Calls Tryz.prog 40 #[.agg (s.arr (.slice A1 n1 c1) (.slice A2 n2 c2)),.agg (s.arr (.slice B1 m1 d1) (.slice B2 m2 d2))] w fun e w'=>e=.returned (.bool true)∧Below w.heap.size w w':=by
 have hX:Below w.heap.size w ((w.alloc (.cells (s.arr (.slice A1 n1 c1) (.slice A2 n2 c2)) 39)).alloc (.cells (s.arr (.slice B1 m1 d1) (.slice B2 m2 d2)) 39)):=by go_grown
 have i2:Blk ((w.alloc (.cells (s.arr (.slice A1 n1 c1) (.slice A2 n2 c2)) 39)).alloc (.cells (s.arr (.slice B1 m1 d1) (.slice B2 m2 d2)) 39)) w.heap.size 39 (s.arr (.slice A1 n1 c1) (.slice A2 n2 c2)):=(Blk.new _ _ _).alloc _
 have i3:Blk ((w.alloc (.cells (s.arr (.slice A1 n1 c1) (.slice A2 n2 c2)) 39)).alloc (.cells (s.arr (.slice B1 m1 d1) (.slice B2 m2 d2)) 39)) (w.heap.size+1) 39 (s.arr (.slice B1 m1 d1) (.slice B2 m2 d2)):=Blk.new' _ _ (by simp)
 have hR:=fun w'=>range_any s.r s.r w'
 have hT:=fun w' (hb:Below w.heap.size w w')=>hists_same A1 B1 n1 m1 c1 d1 s.h w' ((h1.below HsRel.kept hb).more HsRel.kept hb.size) ((k1.below HsRel.kept hb).more HsRel.kept hb.size) hn1
 have hW:=fun w' (hb:Below w.heap.size w w')=>pends_same A2 B2 n2 m2 c2 d2 s.p w' ((h2.below PnRel.kept hb).more PnRel.kept hb.size) ((k2.below PnRel.kept hb).more PnRel.kept hb.size) hn2
 rw[Rg.same_self]at hR
 go_enter Tryz.func40,Tryz.ntmps40
 go_wp2_with (first
  |((with_reducible refine(hR _).mono ?_);rintro e w3 ⟨rfl,hb3⟩
    have j2:=i2.below hb3 i2.lt
    have j3:=i3.below hb3 i3.lt
    have hY:=hX.trans (hb3.mono hX.size)
    obtain⟨l2,x0,x1,x2,x3,x4,x5,x6,x7,x8,x9,x10,x11⟩:=dozenC j2
    obtain⟨l3,y0,y1,y2,y3,y4,y5,y6,y7,y8,y9,y10,y11⟩:=dozenC j3)
  |((with_reducible refine(hT _ hY).mono ?_);rintro e w4 ⟨rfl,hb4⟩
    have k2':=j2.below hb4 j2.lt
    have k3':=j3.below hb4 j3.lt
    have hZ:=hY.trans (hb4.mono hY.size)
    obtain⟨l2',-,-,-,-,-,-,-,-,-,-,-,z11⟩:=dozenC k2'
    obtain⟨l3',-,-,-,-,-,-,-,-,-,-,-,u11⟩:=dozenC k3')
  |((with_reducible refine(hW _ hZ).mono ?_);rintro e w5 ⟨rfl,hb5⟩))
 go_ret
 exact⟨rfl,hZ.trans (hb5.mono hZ.size)⟩
end Go.Proofs.YtcalkfgibflbnaaGreat
/- The walk of hand.halves. -/
namespace Go.Proofs.YtcalkfgibflbnaaGreat
open Go.RowKit Fl
attribute [local go_sem] run_store_float
theorem wpAnyH_store_rowE {P:Program} {md:Region.Mode} {ops:Array Oper} {Q:Exit→Act→World→Prop} {S:World→Prop} {fuel:Nat} {listed:Array Bool} {a:Act} {w:World} {i:Nat} {op:Oper}
 (hr:Region.ready md ops listed=[i]) (ho:ops[i]?=some op) (hg:op.guard=none) (ty:TypeId) (x y:Operand) (hop:op.op=.store ty x y)
 (g:Nat) (cells:Array Value) (hx:a.eval x=.pointer (some ⟨g,0,none⟩)) (hy:a.eval y=.agg cells) (t:TypeId) (old:Array Value) (hb:Blk w g t old) (hi:(P.info? ty).map (·.size)=some cells.size) (hold:old.size=cells.size) (h1:cells.all (·.oneCell')=true)
 (hS:S (w.setRow g cells)) (h:∀w',w'=w.setRow g cells→wpAnyH P md ops Q S fuel (listed.setIfInBounds i true) (a.put op.dst undef) w'):wpAnyH P md ops Q S (fuel+1) listed a w:=by
 refine wpAnyH_all hr (by simp) (fun j hj=>?_)
 obtain rfl:j=i:=by simpa using hj
 refine wpOp_step ho (fun K' hK=>?_)
 have hw:Region.wanted op (yielded ops a.tmps)=true:=by simp[Region.wanted,hg]
 rw[if_pos hw]
 exact wp_store_row ty x y hop g cells hx hy t old hb hi hold h1 (hK _ _ ⟨hS,h _ rfl⟩)
theorem yieldsIf_load_row {P:Program} {ops:Array Oper} {S:World→Prop} {op:Oper} {a:Act} (hw:Region.wanted op (yielded ops a.tmps)=true) (ty:TypeId) (x:Operand) (ho:op.op=.load ty x)
 (g:Nat) (hx:a.eval x=.pointer (some ⟨g,0,none⟩)) (t:TypeId) (cs:Array Value) (d:TypeDesc) (hS:∀w,S w→Blk w g t cs)
 (hu:P.underlying ty=some d) (hd:(match d with| .struct _| .array _ _=>true|_=>false)=true) (hi:(P.info? ty).map (·.size)=some cs.size):YieldsIf P ops S op (.agg cs) a:=
 .inl ⟨hw,fun w hw'=>by
  unfold execOp
  simp only[ho,hx,Instr.loadAt,Instr.sureAddr,Sem.run_bind,Sem.run_pure,Result.andThen_ok,run_loadVar_row w g t ty cs (0,0) d (hS w hw') hu hd hi]⟩
theorem OwnL.ne {α:Type} {f:α→List Value} {E size base:Nat} {w:World} {v:Value} {l:List α} (h:OwnL f E size base w v l) {g:Nat} (hg:g<base):some g≠v.ownBlock:=by
 rcases h.far hg with e|e
 · rw[e];simp
 · exact fun e2=>e e2.symm
theorem OwnL.drew {α:Type} {f:α→List Value} {E size base:Nat} {w:World} {v:Value} {l:List α} (h:OwnL f E size base w v l):OwnL f E size base w.drew v l:=World.ownsRow.drew h
end Go.Proofs.YtcalkfgibflbnaaGreat
/- Plain law: the parts of a state that may be, by any choice of keys, may be; what Divide tells; a state divided at two points. -/
namespace Go.Proofs.YtcalkfgibflbnaaGreat
set_option linter.unusedVariables false
open Go.RowKit Fl
theorem bl_trans {a b c:ByteArray} (h1:bl a b=true) (h2:bl b c=true):bl a c=true:=by
 unfold bl at*
 rw[bytesLess_eq,decide_eq_true_eq]at*
 exact List.lt_trans h1 h2
def hsF (f:ByteArray→Bool) (H:List Hs):List Hs:=H.filter fun h=>f h.key
theorem pendE_zero {p:Pn}:pendE p=0↔p.t.may=true∧p.s.may=true∧p.s.zero=false∧riseB p.r=true∧riseB (p.w.map (·.key))=true∧allMay p.w=true:=by
 unfold pendE
 cases p.t.may<;>cases p.s.may<;>cases p.s.zero<;>cases riseB p.r<;>cases riseB (p.w.map (·.key))<;>cases allMay p.w<;>simp
theorem histB_lt {p:ByteArray} {h:Hs} (hh:histB p h=true):bl p h.key=true:=by
 unfold histB at hh
 simp only[←bl_le]at hh
 simp only[Bool.and_eq_true]at hh
 exact hh.1.1.2
end Go.Proofs.YtcalkfgibflbnaaGreat
