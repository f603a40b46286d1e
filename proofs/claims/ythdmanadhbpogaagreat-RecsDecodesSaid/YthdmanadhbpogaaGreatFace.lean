/- The walks of the document's upto (of all), Newest, old. -/
import Derived.Test.YthdmanadhbpogaaGreatFaab
import Derived.Test.YthdmanadhbpogaaGreatFaad
import Derived.Test.YthdmanadhbpogaaGreatFaaf
import Derived.Test.YthdmanadhbpogaaGreatFaai
namespace Go.Proofs.YthdmanadhbpogaaGreat
set_option maxHeartbeats 8000000
set_option maxRecDepth 100000
set_option linter.unusedVariables false
open Go.RowKit Fl
attribute [local go_sem] run_store_float
def rvers (key:ByteArray) (l:List Hs):List Vn:=match l.find? fun h=>h.key.toList==key.toList with|some h=>h.vs|none=>[]
theorem at_find (key:ByteArray):∀(l:List Hs) (k:Nat),(atFrom key k l<0∧(l.find? fun h=>h.key.toList==key.toList)=none)∨∃(i:Nat) (h:Hs),atFrom key k l=((k+i:Nat):Int)∧l[i]?=some h∧(l.find? fun h=>h.key.toList==key.toList)=some h:=by
 intro l
 induction l with
 |nil=>intro k;exact .inl ⟨by show (-1:Int)<0;omega,rfl⟩
 |cons a l ih=>
  intro k
  by_cases he:(a.key.toList==key.toList)=true
  · refine .inr ⟨0,a,?_,rfl,?_⟩
    · show (if a.key.toList==key.toList then (k:Int) else _)=_;rw[if_pos he];simp
    · rw[List.find?_cons,he]
  · have e1:atFrom key k (a::l)=atFrom key (k+1) l:=by show (if a.key.toList==key.toList then (k:Int) else _)=_;rw[if_neg he]
    have e2:(a.key.toList==key.toList)=false:=by simpa using he
    rw[e1,List.find?_cons,e2]
    rcases ih (k+1) with ⟨h1,h2⟩|⟨i,h,h1,h2,h3⟩
    · exact .inl ⟨h1,h2⟩
    · exact .inr ⟨i+1,h,by rw[h1];omega,h2,h3⟩
theorem at_vers (key:ByteArray) (l:List Hs):(atFrom key 0 l<0∧rvers key l=[])∨∃(i:Nat) (h:Hs),atFrom key 0 l=(i:Int)∧l[i]?=some h∧rvers key l=h.vs:=by
 unfold rvers
 rcases at_find key l 0 with ⟨h1,h2⟩|⟨i,h,h1,h2,h3⟩
 · exact .inl ⟨h1,by rw[h2]⟩
 · exact .inr ⟨i,h,by rw[h1];omega,h2,by rw[h3]⟩
theorem rupto_any (g:Nat) (B1 B2:Option Addr) (m1 d1 m2 d2:Nat) (L:Sp) (Hl:List Hs) (Pl:List Pn) (key:ByteArray) (s:Sp) (w:World) (h:RSt w g B1 m1 d1 B2 m2 d2 L Hl Pl):
 Calls Tryz.prog 199 #[.pointer (some ⟨g,0,none⟩),.string key,s.val,.bool true] w fun e w'=>e=.returned (.agg (seenArr key (lastV (rvers key Hl))))∧Below w.heap.size w w':=by
 have hm:=h.m1
 unfold maxLen at hm
 have hl:=h.hs.1
 have hX:Below w.heap.size w (((w.alloc (.cells s.arr 25)).alloc (.cells (seenArr ⟨#[]⟩ zeroVn) 223)).alloc (.cells (seenArr key zeroVn) 223)):=by go_grown
 have i8:Blk (((w.alloc (.cells s.arr 25)).alloc (.cells (seenArr ⟨#[]⟩ zeroVn) 223)).alloc (.cells (seenArr key zeroVn) 223)) (w.heap.size+1) 223 (seenArr ⟨#[]⟩ zeroVn):=(Blk.new' _ _ (by simp)).alloc _
 have i9:Blk (((w.alloc (.cells s.arr 25)).alloc (.cells (seenArr ⟨#[]⟩ zeroVn) 223)).alloc (.cells (seenArr key zeroVn) 223)) (w.heap.size+1+1) 223 (seenArr key zeroVn):=Blk.new' _ _ (by simp)
 have hA:=rat_any g B1 B2 m1 d1 m2 d2 L Hl Pl key _ (h.below hX)
 rcases at_vers key Hl with ⟨hneg,hv⟩|⟨i,hh,hat,hi,hv⟩
 · have HV:=Lib.hid hv
   clear hv hl
   generalize atFrom key 0 Hl=z at*
   have hz:decide (z<0)=true:=by simp;omega
   go_enter Tryz.func199,Tryz.ntmps199
   go_wp2_with (go_at_call 169;fail)
   refine hA.mono ?_
   rintro e w1 ⟨rfl,hb1⟩
   have b8:=i8.below hb1 i8.lt
   have b9:=i9.below hb1 i9.lt
   have hb:=hX.trans (hb1.mono hX.size)
   obtain⟨g9,x0,x1,x2,x3,x4,x5,x6⟩:=b9.sevenC
   have l8:=b8.lt
   go_wp2_with (refine wpList_store_row rfl 223 _ _ rfl _ _ rfl rfl _ _ b8 (by kernel_rfl) (by kernel_rfl) (by kernel_rfl) ?_)
   refine post_cell rfl (by rfl) (b8.setRow _) rfl rfl (by kernel_rfl) ?_
   rw[HV.out]
   exact⟨rfl,below_setRow hb (by omega) _⟩
 · have HV:=Lib.hid hv
   have hilt:i<m1:=by have:=(List.getElem?_eq_some_iff.1 hi).1;omega
   rw[hat]at hA
   have HI:=Lib.hid hi
   have hz:decide ((i:Int)<0)=false:=by simp
   have hi0:(0:Int)≤(i:Int):=by omega
   have hi1:(i:Int)<(m1:Int):=by omega
   clear hv hl hat hi
   go_enter Tryz.func199,Tryz.ntmps199
   go_wp2_with (go_at_call 169;fail)
   refine hA.mono ?_
   rintro e w1 ⟨rfl,hb1⟩
   have b8:=i8.below hb1 i8.lt
   have b9:=i9.below hb1 i9.lt
   have hb0:=hX.trans (hb1.mono hX.size)
   clear hb1 i8 i9 hX hA
   go_wp2
   go_loopw [11] (fun j wr=>NewestRel key hh.vs w j wr) (fun j _=>hh.vs.length-(intOf j).toNat)
   case atStart=>exact⟨0,by omega,rfl,b8,b9,hb0⟩
   case round=>
    clear b8 b9 hb0
    obtain⟨k,hk',rfl,b8,b9,hb⟩:=hrel
    have hzz:=hb.size
    have hr:=h.below hb
    obtain⟨gl,k0,k1',-,-,-⟩:=hr.blk.fiveC
    obtain⟨ad,a1,A',n',c',rfl,ha1,hbk,hok,d0,d1',hn',hc',hsv⟩:=hr.hist.hs hilt
    obtain rfl:hh=a1:=Option.some.inj (HI.out.symm.trans ha1)
    have hll:=hsv.1
    have hge:n'≤hh.vs.length:=by omega
    have hle:hh.vs.length≤n':=by omega
    unfold maxLen at hc'
    clear hll ha1
    by_cases hlt:k<n'
    · obtain⟨bd,a,rfl,ha,hbk2,hok2,c0,c1,c2,c3,c4,c5⟩:=hsv.vn hlt
      have hd1:decide ((k:Int)<(n':Int))=true:=by simp;omega
      have hk0:(0:Int)≤(k:Int):=by omega
      have hk1:(k:Int)<(n':Int):=by omega
      have HS:=Lib.hid (lastV_take ha)
      have b11:=Blk.new wr 130 #[.int .i64 a.s.w,.int .i64 a.s.l,.int .i64 a.s.n,.int .i64 a.v.k,.float .f64 a.v.n,.string a.v.t]
      have b9':=b9.alloc (.cells #[.int .i64 a.s.w,.int .i64 a.s.l,.int .i64 a.s.n,.int .i64 a.v.k,.float .f64 a.v.n,.string a.v.t] 130)
      have b8':=b8.alloc (.cells #[.int .i64 a.s.w,.int .i64 a.s.l,.int .i64 a.s.n,.int .i64 a.v.k,.float .f64 a.v.n,.string a.v.t] 130)
      have hb':=hb.alloc hzz (.cells #[.int .i64 a.s.w,.int .i64 a.s.l,.int .i64 a.s.n,.int .i64 a.v.k,.float .f64 a.v.n,.string a.v.t] 130)
      clear ha
      go_wp2
      generalize hg11:wr.heap.size=g11 at*
      generalize (wr.alloc (.cells #[.int .i64 a.s.w,.int .i64 a.s.l,.int .i64 a.s.n,.int .i64 a.v.k,.float .f64 a.v.n,.string a.v.t] 130))=wz at*
      obtain⟨l11,x0,x1,x2,x3,x4,x5⟩:=b11.six
      obtain⟨g9,y0,y1,y2,y3,y4,y5,y6⟩:=b9'.sevenC
      have ne9:g11≠w.heap.size+1+1:=by have:=b9.lt;omega
      have ne10:¬w.heap.size+1+1=g11:=fun e=>ne9 e.symm
      clear c0 c1 c2 c3 c4 c5
      refine wp_region_held_drew (S:=fun w'=>Blk w' g11 130 #[.int .i64 a.s.w,.int .i64 a.s.l,.int .i64 a.s.n,.int .i64 a.v.k,.float .f64 a.v.n,.string a.v.t]) (by kernel_rfl) b11 (fun hHeld=>?_)
      refine tk 0 53 (v:=.pointer (some ⟨g11,3,none⟩)) rfl (Or.inl ⟨by kernel_rfl,fun w hSw=>by clear hSw;go_simp⟩) hHeld ?_
      go_frame
      refine wpAnyH_take (i:=1) (oi:=⟨some 54,_,_,_,_,_⟩) rfl (by kernel_rfl) (by kernel_rfl) (by kernel_rfl) (fun _ _ _ h=>h) (yieldsIf_load_mid (by kernel_rfl) _ _ rfl g11 3 rfl [.int .i64 a.v.k,.float .f64 a.v.n,.string a.v.t] _ (fun w h=>h.range 3 _ (three_of rfl rfl rfl)) rfl rfl (by kernel_rfl)) hHeld ?_
      go_frame
      refine tk 2 55 (v:=.pointer (some ⟨g11,0,none⟩)) rfl (Or.inl ⟨by kernel_rfl,fun w hSw=>by clear hSw;go_simp⟩) hHeld ?_
      go_frame
      refine wpAnyH_take (i:=3) (oi:=⟨some 56,_,_,_,_,_⟩) rfl (by kernel_rfl) (by kernel_rfl) (by kernel_rfl) (fun _ _ _ h=>h) (yieldsIf_load_mid (by kernel_rfl) _ _ rfl g11 0 rfl [.int .i64 a.s.w,.int .i64 a.s.l,.int .i64 a.s.n] _ (fun w h=>h.range 0 _ (three_of rfl rfl rfl)) rfl rfl (by kernel_rfl)) hHeld ?_
      go_frame
      refine tk 4 57 (v:=.pointer (some ⟨w.heap.size+1+1,1,none⟩)) rfl (Or.inl ⟨by kernel_rfl,fun w hSw=>by clear hSw;go_simp⟩) hHeld ?_
      go_frame
      have b9a:=b9'.drew.setCells3 (x:=.int .i64 a.v.k) (y:=.float .f64 a.v.n) (z:=.string a.v.t)
      have b11a:=b11.drew.setCells3_far (o:=1) (x:=.int .i64 a.v.k) (y:=.float .f64 a.v.n) (z:=.string a.v.t) ne9
      have b8a:=b8'.drew.setCells3_far (b:=w.heap.size+1+1) (o:=1) (x:=.int .i64 a.v.k) (y:=.float .f64 a.v.n) (z:=.string a.v.t) (by omega)
      have hba:=below_setCells3 (b:=w.heap.size+1+1) (o:=1) (x:=.int .i64 a.v.k) (y:=.float .f64 a.v.n) (z:=.string a.v.t) hb'.drew (by omega)
      refine wpAnyH_store_mid (i:=5) (by kernel_rfl) rfl rfl _ _ _ rfl (w.heap.size+1+1) 1 #[.int .i64 a.v.k,.float .f64 a.v.n,.string a.v.t] rfl rfl (b9'.drew.there 1 3 (by simp)) (by kernel_rfl) (by kernel_rfl) b11a ?_
      go_frame
      generalize (wz.drew.setCells (w.heap.size+1+1) 1 [.int .i64 a.v.k,.float .f64 a.v.n,.string a.v.t])=wq at*
      refine tk 6 58 (v:=.pointer (some ⟨w.heap.size+1+1,4,none⟩)) rfl (Or.inl ⟨by kernel_rfl,fun w hSw=>by clear hSw;go_simp⟩) b11a ?_
      go_frame
      have b9c:=b9a.setCells3' (x:=.int .i64 a.s.w) (y:=.int .i64 a.s.l) (z:=.int .i64 a.s.n)
      have b11c:=b11a.setCells3_far (b:=w.heap.size+1+1) (o:=4) (x:=.int .i64 a.s.w) (y:=.int .i64 a.s.l) (z:=.int .i64 a.s.n) ne9
      have b8c:=b8a.setCells3_far (b:=w.heap.size+1+1) (o:=4) (x:=.int .i64 a.s.w) (y:=.int .i64 a.s.l) (z:=.int .i64 a.s.n) (by omega)
      have hbc:=below_setCells3 (b:=w.heap.size+1+1) (o:=4) (x:=.int .i64 a.s.w) (y:=.int .i64 a.s.l) (z:=.int .i64 a.s.n) hba (by omega)
      refine wpAnyH_store_mid (i:=7) (by kernel_rfl) rfl rfl _ _ _ rfl (w.heap.size+1+1) 4 #[.int .i64 a.s.w,.int .i64 a.s.l,.int .i64 a.s.n] rfl rfl (b9a.there 4 3 (by simp)) (by kernel_rfl) (by kernel_rfl) b11c ?_
      generalize (wq.setCells (w.heap.size+1+1) 4 [.int .i64 a.s.w,.int .i64 a.s.l,.int .i64 a.s.n])=wp at*
      refine td ?_
      go_frame
      go_wp2
      go_roundw
      case rel=>
       refine⟨k+1,by omega,by go_num,b8c,?_,hbc⟩
       rw[HS.out]
       exact b9c
      case measure=>simp[intOf];omega
    · have hd1:decide ((k:Int)<(n':Int))=false:=by simp;omega
      rw[List.take_of_length_le (by omega)]at b9
      obtain⟨g9,x0,x1,x2,x3,x4,x5,x6⟩:=b9.sevenC
      have l8:=b8.lt
      go_wp2_with (refine wpList_store_row rfl 223 _ _ rfl _ _ rfl rfl _ _ b8 (by kernel_rfl) (by kernel_rfl) (by kernel_rfl) ?_)
      refine post_cell rfl (by rfl) (b8.setRow _) rfl rfl (by kernel_rfl) ?_
      rw[HV.out]
      exact⟨rfl,below_setRow hb (by omega) _⟩
theorem rnewest_any (g:Nat) (B1 B2:Option Addr) (m1 d1 m2 d2:Nat) (L:Sp) (Hl:List Hs) (Pl:List Pn) (key:ByteArray) (w:World) (h:RSt w g B1 m1 d1 B2 m2 d2 L Hl Pl):
 Calls Tryz.prog 168 #[.pointer (some ⟨g,0,none⟩),.string key] w fun e w'=>e=.returned (.agg (seenArr key (lastV (rvers key Hl))))∧Below w.heap.size w w':=by
 have hX:Below w.heap.size w (w.alloc (.cells (seenArr ⟨#[]⟩ zeroVn) 223)):=by go_grown
 have i4:=Blk.new w 223 (seenArr ⟨#[]⟩ zeroVn)
 have hN:=rupto_any g B1 B2 m1 d1 m2 d2 L Hl Pl key ⟨0,0,0⟩ _ (h.below hX)
 go_enter Tryz.func168,Tryz.ntmps168
 go_wp2_with (go_at_call 199;fail)
 refine hN.mono ?_
 rintro e w1 ⟨rfl,hb⟩
 have j4:=i4.below hb i4.lt
 go_wp2_with (refine wpList_store_row rfl 223 _ _ rfl _ _ rfl rfl _ _ j4 (by kernel_rfl) (by kernel_rfl) (by kernel_rfl) ?_)
 refine post_cell rfl (by rfl) (j4.setRow _) rfl rfl (by kernel_rfl) ?_
 exact⟨rfl,below_setRow (hX.trans (hb.mono hX.size)) (by omega) _⟩
end Go.Proofs.YthdmanadhbpogaaGreat
