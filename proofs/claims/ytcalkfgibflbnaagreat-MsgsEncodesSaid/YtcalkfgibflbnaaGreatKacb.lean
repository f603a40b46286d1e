/- The walks of pairs: keys that rise with values. The program's and the document's. -/
import Derived.Test.YtcalkfgibflbnaaGreatKaab
import Derived.Test.YtcalkfgibflbnaaGreatKaaf
import Derived.Test.YtcalkfgibflbnaaGreatKabc
namespace Go.Proofs.YtcalkfgibflbnaaGreat
set_option maxHeartbeats 8000000
set_option maxRecDepth 100000
set_option linter.unusedVariables false
open Go.RowKit Fl
attribute [local go_sem] run_store_float
def prsFrom:Option ByteArray→List Wt→Bool
 |_,[]=>true
 |p,a::l=>keyB a.key&&(match p with|none=>true|some q=>bl q a.key)&&a.v.may&& !(a.v.k==0)&&prsFrom (some a.key) l
def prsB (l:List Wt):Bool:=prsFrom none l
theorem prsFrom_drop {l:List Wt} {k:Nat} {a:Wt} (h:l[k]?=some a):
 prsFrom (aheadW l k) (l.drop k)=(keyB a.key&&(match aheadW l k with|none=>true|some q=>bl q a.key)&&a.v.may&& !(a.v.k==0)&&prsFrom (aheadW l (k+1)) (l.drop (k+1))):=by
 have h1:=List.getElem?_eq_some_iff.1 h
 rw[List.drop_eq_getElem_cons h1.1,h1.2,show aheadW l (k+1)=some a.key from by show (l[k]?).map (·.key)=_;rw[h];rfl]
 rfl
def PrsRel (l:List Wt) (w:World) (i:Value) (wr:World):Prop:=∃k:Nat,k≤l.length∧i=.int .i64 (k:Int)∧prsFrom (aheadW l k) (l.drop k)=prsFrom none l∧Below w.heap.size w wr
theorem prs_any (A:Option Addr) (n c:Nat) (l:List Wt) (w:World) (h:Sl WtRel 4 w w.heap.size A n l) (hn:n≤maxLen):
 Calls Tryz.prog 228 #[.slice A n c] w fun e w'=>e=.returned (.bool (prsB l))∧Below w.heap.size w w':=by
 unfold maxLen at hn
 have hl:=h.1
 have hge:n≤l.length:=by omega
 go_enter Tryz.func228,Tryz.ntmps228
 go_wp2
 go_loopw [7] (fun i wr=>PrsRel l w i wr) (fun i _=>n-(intOf i).toNat)
 case atStart=>exact⟨0,by omega,rfl,rfl,Below.refl _ _⟩
 case round=>
  obtain⟨k,hk,rfl,hs,hb⟩:=hrel
  have hzz:=hb.size
  by_cases hlt:k<n
  · obtain⟨ad,a,rfl,ha,hbk,hok,c0,c1,c2,c3⟩:=((h.below WtRel.kept hb).more WtRel.kept hb.size).wt hlt
    have hka:=fun w=>key_any a.key w
    have hva:=fun w=>vmay_any a.v w
    have hd1:decide ((k:Int)<(n:Int))=true:=by simp;omega
    have hk0:(0:Int)≤(k:Int):=by omega
    have hk1:(k:Int)<(n:Int):=by omega
    have lz:wr.heap.size<wr.heap.size+1:=Nat.lt_succ_self _
    have hbz:(ad.add (k*4)).block<wr.heap.size+1:=by omega
    have hbN:Below wr.heap.size wr (wr.alloc (.cells #[.string a.key,.int .i64 a.v.k,.float .f64 a.v.n,.string a.v.t] 105)):=(Below.refl _ _).alloc (Nat.le_refl _) _
    have hbB:=Blk.new wr 105 #[.string a.key,.int .i64 a.v.k,.float .f64 a.v.n,.string a.v.t]
    obtain⟨-,x0,x1,x2,x3⟩:wr.heap.size<wr.heap.size+1∧(wr.alloc (.cells #[.string a.key,.int .i64 a.v.k,.float .f64 a.v.n,.string a.v.t] 105)).cell? ⟨wr.heap.size,0,none⟩=some (.string a.key)∧(wr.alloc (.cells #[.string a.key,.int .i64 a.v.k,.float .f64 a.v.n,.string a.v.t] 105)).cell? ⟨wr.heap.size,1,none⟩=some (.int .i64 a.v.k)∧(wr.alloc (.cells #[.string a.key,.int .i64 a.v.k,.float .f64 a.v.n,.string a.v.t] 105)).cell? ⟨wr.heap.size,2,none⟩=some (.float .f64 a.v.n)∧(wr.alloc (.cells #[.string a.key,.int .i64 a.v.k,.float .f64 a.v.n,.string a.v.t] 105)).cell? ⟨wr.heap.size,3,none⟩=some (.string a.v.t):=⟨lz,hbB.cell 0,hbB.cell 1,hbB.cell 2,hbB.cell 3⟩
    have c0':(wr.alloc (.cells #[.string a.key,.int .i64 a.v.k,.float .f64 a.v.n,.string a.v.t] 105)).cell? (ad.add (k*4))=some (.string a.key):=(hbN.cell hbk).trans c0
    clear hbB
    rw[prsFrom_drop ha]at hs
    clear ha
    cases hkb:keyB a.key
    · rw[hkb]at hka hs
      have HF:=Lib.hid (show prsB l=false by unfold prsB;rw[←hs];rfl)
      clear hs hl
      go_upto_region 4 with (refine wpList_store_new rfl 105 _ _ rfl _ rfl rfl _ _ (by kernel_rfl) (by kernel_rfl) (by kernel_rfl) ?_)
      try clear c0 c1 c2 c3
      refine wp_region_held_drew (S:=fun w'=>w'.cell? ⟨wr.heap.size,0,none⟩=some (.string a.key)∧w'.cell? ⟨wr.heap.size,1,none⟩=some (.int .i64 a.v.k)∧w'.cell? ⟨wr.heap.size,2,none⟩=some (.float .f64 a.v.n)∧w'.cell? ⟨wr.heap.size,3,none⟩=some (.string a.v.t)) (by kernel_rfl) ⟨x0,x1,x2,x3⟩ (fun hHeld=>?_)
      refine t0 0 12 ?_
      go_frame
      refine t0 1 13 ?_
      go_frame
      refine tr 2 rfl fun K hK=>?_
      go_simp
      (with_reducible refine(hka _).mono ?_)
      rintro e w4 ⟨rfl,rfl⟩
      refine hK.out _ _ ⟨x0,x1,x2,x3⟩ (fun hHeld=>?_)
      clear hK K
      try go_frame
      refine t0 3 15 ?_
      go_frame
      refine t0 4 16 ?_
      go_frame
      refine tn 5 17 ?_
      go_frame
      refine tn 6 18 ?_
      go_frame
      refine tn 7 19 ?_
      go_frame
      refine tn 8 20 ?_
      go_frame
      refine tn 9 21 ?_
      go_frame
      refine tn 10 22 ?_
      go_frame
      refine tn 11 23 ?_
      go_frame
      refine tn 12 24 ?_
      go_frame
      refine tn 13 25 ?_
      go_frame
      refine tn 14 26 ?_
      go_frame
      refine tn 15 27 ?_
      go_frame
      refine tn 16 28 ?_
      go_frame
      refine tn 17 29 ?_
      go_frame
      refine t0 18 30 ?_
      go_frame
      refine t0 19 31 ?_
      go_frame
      refine tn 20 32 ?_
      go_frame
      refine tn 21 33 ?_
      go_frame
      refine tn 22 34 ?_
      go_frame
      refine tn 23 35 ?_
      go_frame
      refine t0 24 36 ?_
      go_frame
      refine t0 25 37 ?_
      go_frame
      refine tn 26 38 ?_
      go_frame
      refine tn 27 39 ?_
      go_frame
      refine tn 28 40 ?_
      go_frame
      refine tn 29 41 ?_
      go_frame
      refine t0 30 42 ?_
      go_frame
      refine td ?_
      go_wp2
      go_ret
      rw[HF.out]
      exact⟨rfl,hb.trans (Below.mono hbN.drew hzz)⟩
    · rw[hkb]at hka hs
      by_cases hz:k=0
      · have hd2:decide (0<k)=false:=by simp;omega
        rw[show aheadW l k=none from by rw[hz];rfl]at hs
        clear hz
        cases hv:a.v.may
        · rw[hv]at hva hs
          have HF:=Lib.hid (show prsB l=false by unfold prsB;rw[←hs];simp)
          clear hs hl hv
          go_upto_region 4 with (refine wpList_store_new rfl 105 _ _ rfl _ rfl rfl _ _ (by kernel_rfl) (by kernel_rfl) (by kernel_rfl) ?_)
          try clear c0 c1 c2 c3
          refine wp_region_held_drew (S:=fun w'=>w'.cell? ⟨wr.heap.size,0,none⟩=some (.string a.key)∧w'.cell? ⟨wr.heap.size,1,none⟩=some (.int .i64 a.v.k)∧w'.cell? ⟨wr.heap.size,2,none⟩=some (.float .f64 a.v.n)∧w'.cell? ⟨wr.heap.size,3,none⟩=some (.string a.v.t)) (by kernel_rfl) ⟨x0,x1,x2,x3⟩ (fun hHeld=>?_)
          refine t0 0 12 ?_
          go_frame
          refine t0 1 13 ?_
          go_frame
          refine tr 2 rfl fun K hK=>?_
          go_simp
          (with_reducible refine(hka _).mono ?_)
          rintro e w4 ⟨rfl,rfl⟩
          refine hK.out _ _ ⟨x0,x1,x2,x3⟩ (fun hHeld=>?_)
          clear hK K
          try go_frame
          refine t0 3 15 ?_
          go_frame
          refine t0 4 16 ?_
          go_frame
          refine t0 5 17 ?_
          go_frame
          refine t0 6 18 ?_
          go_frame
          refine t0 7 19 ?_
          go_frame
          refine tn 8 20 ?_
          go_frame
          refine tn 9 21 ?_
          go_frame
          refine tn 10 22 ?_
          go_frame
          refine tn 11 23 ?_
          go_frame
          refine tn 12 24 ?_
          go_frame
          refine tn 13 25 ?_
          go_frame
          refine tn 14 26 ?_
          go_frame
          refine tn 15 27 ?_
          go_frame
          refine tn 16 28 ?_
          go_frame
          refine t0 17 29 ?_
          go_frame
          refine t0 18 30 ?_
          go_frame
          refine t0 19 31 ?_
          go_frame
          refine t0 20 32 ?_
          go_frame
          refine t0 21 33 ?_
          go_frame
          refine tr 22 rfl fun K hK=>?_
          go_simp
          (with_reducible refine(hva _).mono ?_)
          rintro e w5 ⟨rfl,hb5⟩
          have hb9:Below (wr.heap.size+1) (wr.alloc (.cells #[.string a.key,.int .i64 a.v.k,.float .f64 a.v.n,.string a.v.t] 105)) w5:=(Below.refl (wr.heap.size+1) (wr.alloc (.cells #[.string a.key,.int .i64 a.v.k,.float .f64 a.v.n,.string a.v.t] 105))).drew.trans (hb5.mono (by simp))
          refine hK.out _ _ ⟨(hb9.cell (by exact lz)).trans x0,(hb9.cell (by exact lz)).trans x1,(hb9.cell (by exact lz)).trans x2,(hb9.cell (by exact lz)).trans x3⟩ (fun hHeld=>?_)
          clear hK K
          try go_frame
          refine t0 23 35 ?_
          go_frame
          refine t0 24 36 ?_
          go_frame
          refine t0 25 37 ?_
          go_frame
          refine tn 26 38 ?_
          go_frame
          refine tn 27 39 ?_
          go_frame
          refine tn 28 40 ?_
          go_frame
          refine tn 29 41 ?_
          go_frame
          refine t0 30 42 ?_
          go_frame
          refine td ?_
          go_wp2
          go_ret
          rw[HF.out]
          exact⟨rfl,hb.trans (Below.mono (hbN.trans (hb9.mono (by omega))) hzz)⟩
        · rw[hv]at hva hs
          by_cases hk9:a.v.k=0
          · have HF:=Lib.hid (show prsB l=false by unfold prsB;rw[←hs,hk9];simp)
            have hk8:(a.v.k==0)=true:=by simp[hk9]
            clear hs hl hv hk9
            go_upto_region 4 with (refine wpList_store_new rfl 105 _ _ rfl _ rfl rfl _ _ (by kernel_rfl) (by kernel_rfl) (by kernel_rfl) ?_)
            try clear c0 c1 c2 c3
            refine wp_region_held_drew (S:=fun w'=>w'.cell? ⟨wr.heap.size,0,none⟩=some (.string a.key)∧w'.cell? ⟨wr.heap.size,1,none⟩=some (.int .i64 a.v.k)∧w'.cell? ⟨wr.heap.size,2,none⟩=some (.float .f64 a.v.n)∧w'.cell? ⟨wr.heap.size,3,none⟩=some (.string a.v.t)) (by kernel_rfl) ⟨x0,x1,x2,x3⟩ (fun hHeld=>?_)
            refine t0 0 12 ?_
            go_frame
            refine t0 1 13 ?_
            go_frame
            refine tr 2 rfl fun K hK=>?_
            go_simp
            (with_reducible refine(hka _).mono ?_)
            rintro e w4 ⟨rfl,rfl⟩
            refine hK.out _ _ ⟨x0,x1,x2,x3⟩ (fun hHeld=>?_)
            clear hK K
            try go_frame
            refine t0 3 15 ?_
            go_frame
            refine t0 4 16 ?_
            go_frame
            refine t0 5 17 ?_
            go_frame
            refine t0 6 18 ?_
            go_frame
            refine t0 7 19 ?_
            go_frame
            refine tn 8 20 ?_
            go_frame
            refine tn 9 21 ?_
            go_frame
            refine tn 10 22 ?_
            go_frame
            refine tn 11 23 ?_
            go_frame
            refine tn 12 24 ?_
            go_frame
            refine tn 13 25 ?_
            go_frame
            refine tn 14 26 ?_
            go_frame
            refine tn 15 27 ?_
            go_frame
            refine tn 16 28 ?_
            go_frame
            refine t0 17 29 ?_
            go_frame
            refine t0 18 30 ?_
            go_frame
            refine t0 19 31 ?_
            go_frame
            refine t0 20 32 ?_
            go_frame
            refine t0 21 33 ?_
            go_frame
            refine tr 22 rfl fun K hK=>?_
            go_simp
            (with_reducible refine(hva _).mono ?_)
            rintro e w5 ⟨rfl,hb5⟩
            have hb9:Below (wr.heap.size+1) (wr.alloc (.cells #[.string a.key,.int .i64 a.v.k,.float .f64 a.v.n,.string a.v.t] 105)) w5:=(Below.refl (wr.heap.size+1) (wr.alloc (.cells #[.string a.key,.int .i64 a.v.k,.float .f64 a.v.n,.string a.v.t] 105))).drew.trans (hb5.mono (by simp))
            refine hK.out _ _ ⟨(hb9.cell (by exact lz)).trans x0,(hb9.cell (by exact lz)).trans x1,(hb9.cell (by exact lz)).trans x2,(hb9.cell (by exact lz)).trans x3⟩ (fun hHeld=>?_)
            clear hK K
            try go_frame
            refine t0 23 35 ?_
            go_frame
            refine t0 24 36 ?_
            go_frame
            refine t0 25 37 ?_
            go_frame
            refine t0 26 38 ?_
            go_frame
            refine t0 27 39 ?_
            go_frame
            refine t0 28 40 ?_
            go_frame
            refine t0 29 41 ?_
            go_frame
            refine t0 30 42 ?_
            go_frame
            refine td ?_
            go_wp2
            go_ret
            rw[HF.out]
            exact⟨rfl,hb.trans (Below.mono (hbN.trans (hb9.mono (by omega))) hzz)⟩
          · have hk8:(a.v.k==0)=false:=by simp[hk9]
            have HS:=Lib.hid (show prsFrom (aheadW l (k+1)) (l.drop (k+1))=prsFrom none l by rw[←hs,hk8];simp)
            clear hs hl hv hk9
            go_upto_region 4 with (refine wpList_store_new rfl 105 _ _ rfl _ rfl rfl _ _ (by kernel_rfl) (by kernel_rfl) (by kernel_rfl) ?_)
            try clear c0 c1 c2 c3
            refine wp_region_held_drew (S:=fun w'=>w'.cell? ⟨wr.heap.size,0,none⟩=some (.string a.key)∧w'.cell? ⟨wr.heap.size,1,none⟩=some (.int .i64 a.v.k)∧w'.cell? ⟨wr.heap.size,2,none⟩=some (.float .f64 a.v.n)∧w'.cell? ⟨wr.heap.size,3,none⟩=some (.string a.v.t)) (by kernel_rfl) ⟨x0,x1,x2,x3⟩ (fun hHeld=>?_)
            refine t0 0 12 ?_
            go_frame
            refine t0 1 13 ?_
            go_frame
            refine tr 2 rfl fun K hK=>?_
            go_simp
            (with_reducible refine(hka _).mono ?_)
            rintro e w4 ⟨rfl,rfl⟩
            refine hK.out _ _ ⟨x0,x1,x2,x3⟩ (fun hHeld=>?_)
            clear hK K
            try go_frame
            refine t0 3 15 ?_
            go_frame
            refine t0 4 16 ?_
            go_frame
            refine t0 5 17 ?_
            go_frame
            refine t0 6 18 ?_
            go_frame
            refine t0 7 19 ?_
            go_frame
            refine tn 8 20 ?_
            go_frame
            refine tn 9 21 ?_
            go_frame
            refine tn 10 22 ?_
            go_frame
            refine tn 11 23 ?_
            go_frame
            refine tn 12 24 ?_
            go_frame
            refine tn 13 25 ?_
            go_frame
            refine tn 14 26 ?_
            go_frame
            refine tn 15 27 ?_
            go_frame
            refine tn 16 28 ?_
            go_frame
            refine t0 17 29 ?_
            go_frame
            refine t0 18 30 ?_
            go_frame
            refine t0 19 31 ?_
            go_frame
            refine t0 20 32 ?_
            go_frame
            refine t0 21 33 ?_
            go_frame
            refine tr 22 rfl fun K hK=>?_
            go_simp
            (with_reducible refine(hva _).mono ?_)
            rintro e w5 ⟨rfl,hb5⟩
            have hb9:Below (wr.heap.size+1) (wr.alloc (.cells #[.string a.key,.int .i64 a.v.k,.float .f64 a.v.n,.string a.v.t] 105)) w5:=(Below.refl (wr.heap.size+1) (wr.alloc (.cells #[.string a.key,.int .i64 a.v.k,.float .f64 a.v.n,.string a.v.t] 105))).drew.trans (hb5.mono (by simp))
            refine hK.out _ _ ⟨(hb9.cell (by exact lz)).trans x0,(hb9.cell (by exact lz)).trans x1,(hb9.cell (by exact lz)).trans x2,(hb9.cell (by exact lz)).trans x3⟩ (fun hHeld=>?_)
            clear hK K
            try go_frame
            refine t0 23 35 ?_
            go_frame
            refine t0 24 36 ?_
            go_frame
            refine t0 25 37 ?_
            go_frame
            refine t0 26 38 ?_
            go_frame
            refine t0 27 39 ?_
            go_frame
            refine t0 28 40 ?_
            go_frame
            refine t0 29 41 ?_
            go_frame
            refine t0 30 42 ?_
            go_frame
            refine td ?_
            go_wp2
            go_roundw
            case rel=>exact⟨k+1,by omega,by go_num,HS.out,hb.trans (Below.mono (hbN.trans (hb9.mono (by omega))) hzz)⟩
            case measure=>simp[intOf];omega
      · obtain⟨ad',b,e',hb',hbk',hok',y0,-,-,-⟩:=((h.below WtRel.kept hb).more WtRel.kept hb.size).wt (k:=k-1) (by omega)
        injection e' with e'
        subst e'
        have hd2:decide (0<k)=true:=by simp;omega
        have hj0:(0:Int)≤(k:Int)-1:=by omega
        have hj1:(k:Int)-1<(n:Int):=by omega
        have hj2:((k:Int)-1).toNat=k-1:=by omega
        have hj3:IntKind.i64.wrap ((k:Int)-1)=(k:Int)-1:=by rw[IntKind.wrap_i64];omega
        have hj4:(1:Int)≤(k:Int):=by omega
        have hbz':(ad.add ((k-1)*4)).block<wr.heap.size+1:=by omega
        have y0':(wr.alloc (.cells #[.string a.key,.int .i64 a.v.k,.float .f64 a.v.n,.string a.v.t] 105)).cell? (ad.add ((k-1)*4))=some (.string b.key):=(hbN.cell hbk').trans y0
        have hah:aheadW l k=some b.key:=by
         cases k with
         |zero=>omega
         |succ j=>show (l[j]?).map (·.key)=_;rw[show l[j]?=some b from hb'];rfl
        rw[hah]at hs
        change (true&&bl b.key a.key&&a.v.may&& !(a.v.k==0)&&prsFrom (aheadW l (k+1)) (l.drop (k+1)))=prsFrom none l at hs
        have hle:(Op.bytesLess a.key.toList b.key.toList||a.key.toList==b.key.toList)= !bl b.key a.key:=by rw[bl_le];unfold leB;simp
        clear hz hah hb' hok'
        cases hbl:bl b.key a.key
        · have HF:=Lib.hid (show prsB l=false by unfold prsB;rw[←hs];simp[hbl])
          rw[hbl]at hle
          have hle':(Op.bytesLess a.key.toList b.key.toList||a.key.toList==b.key.toList)=true:=hle
          unfold bl at hbl
          clear hs hl hle
          go_upto_region 4 with (refine wpList_store_new rfl 105 _ _ rfl _ rfl rfl _ _ (by kernel_rfl) (by kernel_rfl) (by kernel_rfl) ?_)
          try clear c0 c1 c2 c3
          refine wp_region_held_drew (S:=fun w'=>w'.cell? ⟨wr.heap.size,0,none⟩=some (.string a.key)∧w'.cell? ⟨wr.heap.size,1,none⟩=some (.int .i64 a.v.k)∧w'.cell? ⟨wr.heap.size,2,none⟩=some (.float .f64 a.v.n)∧w'.cell? ⟨wr.heap.size,3,none⟩=some (.string a.v.t)∧w'.cell? (ad.add ((k-1)*4))=some (.string b.key)) (by kernel_rfl) ⟨x0,x1,x2,x3,y0'⟩ (fun hHeld=>?_)
          refine t0 0 12 ?_
          go_frame
          refine t0 1 13 ?_
          go_frame
          refine tr 2 rfl fun K hK=>?_
          go_simp
          (with_reducible refine(hka _).mono ?_)
          rintro e w4 ⟨rfl,rfl⟩
          refine hK.out _ _ ⟨x0,x1,x2,x3,y0'⟩ (fun hHeld=>?_)
          clear hK K
          try go_frame
          refine t0 3 15 ?_
          go_frame
          refine t0 4 16 ?_
          go_frame
          refine t0 5 17 ?_
          go_frame
          refine t0 6 18 ?_
          go_frame
          refine t0 7 19 ?_
          go_frame
          refine t0 8 20 ?_
          go_frame
          refine t0 9 21 ?_
          go_frame
          refine t0 10 22 ?_
          go_frame
          refine t0 11 23 ?_
          go_frame
          refine t0 12 24 ?_
          go_frame
          refine t0 13 25 ?_
          go_frame
          refine t0 14 26 ?_
          go_frame
          refine t0 15 27 ?_
          go_frame
          refine t0 16 28 ?_
          go_frame
          refine t0 17 29 ?_
          go_frame
          refine t0 18 30 ?_
          go_frame
          refine t0 19 31 ?_
          go_frame
          refine tn 20 32 ?_
          go_frame
          refine tn 21 33 ?_
          go_frame
          refine tn 22 34 ?_
          go_frame
          refine tn 23 35 ?_
          go_frame
          refine t0 24 36 ?_
          go_frame
          refine t0 25 37 ?_
          go_frame
          refine tn 26 38 ?_
          go_frame
          refine tn 27 39 ?_
          go_frame
          refine tn 28 40 ?_
          go_frame
          refine tn 29 41 ?_
          go_frame
          refine t0 30 42 ?_
          go_frame
          refine td ?_
          go_wp2
          go_ret
          rw[HF.out]
          exact⟨rfl,hb.trans (Below.mono hbN.drew hzz)⟩
        · rw[hbl]at hs hle
          have hl1:Op.bytesLess a.key.toList b.key.toList=false∧(a.key.toList==b.key.toList)=false:=by simpa [Bool.or_eq_false_iff] using hle
          obtain⟨hl2,hl3⟩:=hl1
          unfold bl at hbl
          clear hle
          cases hv:a.v.may
          · rw[hv]at hva hs
            have HF:=Lib.hid (show prsB l=false by unfold prsB;rw[←hs];simp)
            clear hs hl hv
            go_upto_region 4 with (refine wpList_store_new rfl 105 _ _ rfl _ rfl rfl _ _ (by kernel_rfl) (by kernel_rfl) (by kernel_rfl) ?_)
            try clear c0 c1 c2 c3
            refine wp_region_held_drew (S:=fun w'=>w'.cell? ⟨wr.heap.size,0,none⟩=some (.string a.key)∧w'.cell? ⟨wr.heap.size,1,none⟩=some (.int .i64 a.v.k)∧w'.cell? ⟨wr.heap.size,2,none⟩=some (.float .f64 a.v.n)∧w'.cell? ⟨wr.heap.size,3,none⟩=some (.string a.v.t)∧w'.cell? (ad.add ((k-1)*4))=some (.string b.key)) (by kernel_rfl) ⟨x0,x1,x2,x3,y0'⟩ (fun hHeld=>?_)
            refine t0 0 12 ?_
            go_frame
            refine t0 1 13 ?_
            go_frame
            refine tr 2 rfl fun K hK=>?_
            go_simp
            (with_reducible refine(hka _).mono ?_)
            rintro e w4 ⟨rfl,rfl⟩
            refine hK.out _ _ ⟨x0,x1,x2,x3,y0'⟩ (fun hHeld=>?_)
            clear hK K
            try go_frame
            refine t0 3 15 ?_
            go_frame
            refine t0 4 16 ?_
            go_frame
            refine t0 5 17 ?_
            go_frame
            refine t0 6 18 ?_
            go_frame
            refine t0 7 19 ?_
            go_frame
            refine t0 8 20 ?_
            go_frame
            refine t0 9 21 ?_
            go_frame
            refine t0 10 22 ?_
            go_frame
            refine t0 11 23 ?_
            go_frame
            refine t0 12 24 ?_
            go_frame
            refine t0 13 25 ?_
            go_frame
            refine t0 14 26 ?_
            go_frame
            refine t0 15 27 ?_
            go_frame
            refine t0 16 28 ?_
            go_frame
            refine t0 17 29 ?_
            go_frame
            refine t0 18 30 ?_
            go_frame
            refine t0 19 31 ?_
            go_frame
            refine t0 20 32 ?_
            go_frame
            refine t0 21 33 ?_
            go_frame
            refine tr 22 rfl fun K hK=>?_
            go_simp
            (with_reducible refine(hva _).mono ?_)
            rintro e w5 ⟨rfl,hb5⟩
            have hb9:Below (wr.heap.size+1) (wr.alloc (.cells #[.string a.key,.int .i64 a.v.k,.float .f64 a.v.n,.string a.v.t] 105)) w5:=(Below.refl (wr.heap.size+1) (wr.alloc (.cells #[.string a.key,.int .i64 a.v.k,.float .f64 a.v.n,.string a.v.t] 105))).drew.trans (hb5.mono (by simp))
            refine hK.out _ _ ⟨(hb9.cell (by exact lz)).trans x0,(hb9.cell (by exact lz)).trans x1,(hb9.cell (by exact lz)).trans x2,(hb9.cell (by exact lz)).trans x3,(hb9.cell (by exact hbz')).trans y0'⟩ (fun hHeld=>?_)
            clear hK K
            try go_frame
            refine t0 23 35 ?_
            go_frame
            refine t0 24 36 ?_
            go_frame
            refine t0 25 37 ?_
            go_frame
            refine tn 26 38 ?_
            go_frame
            refine tn 27 39 ?_
            go_frame
            refine tn 28 40 ?_
            go_frame
            refine tn 29 41 ?_
            go_frame
            refine t0 30 42 ?_
            go_frame
            refine td ?_
            go_wp2
            go_ret
            rw[HF.out]
            exact⟨rfl,hb.trans (Below.mono (hbN.trans (hb9.mono (by omega))) hzz)⟩
          · rw[hv]at hva hs
            by_cases hk9:a.v.k=0
            · have HF:=Lib.hid (show prsB l=false by unfold prsB;rw[←hs,hk9];simp)
              have hk8:(a.v.k==0)=true:=by simp[hk9]
              clear hs hl hv hk9
              go_upto_region 4 with (refine wpList_store_new rfl 105 _ _ rfl _ rfl rfl _ _ (by kernel_rfl) (by kernel_rfl) (by kernel_rfl) ?_)
              try clear c0 c1 c2 c3
              refine wp_region_held_drew (S:=fun w'=>w'.cell? ⟨wr.heap.size,0,none⟩=some (.string a.key)∧w'.cell? ⟨wr.heap.size,1,none⟩=some (.int .i64 a.v.k)∧w'.cell? ⟨wr.heap.size,2,none⟩=some (.float .f64 a.v.n)∧w'.cell? ⟨wr.heap.size,3,none⟩=some (.string a.v.t)∧w'.cell? (ad.add ((k-1)*4))=some (.string b.key)) (by kernel_rfl) ⟨x0,x1,x2,x3,y0'⟩ (fun hHeld=>?_)
              refine t0 0 12 ?_
              go_frame
              refine t0 1 13 ?_
              go_frame
              refine tr 2 rfl fun K hK=>?_
              go_simp
              (with_reducible refine(hka _).mono ?_)
              rintro e w4 ⟨rfl,rfl⟩
              refine hK.out _ _ ⟨x0,x1,x2,x3,y0'⟩ (fun hHeld=>?_)
              clear hK K
              try go_frame
              refine t0 3 15 ?_
              go_frame
              refine t0 4 16 ?_
              go_frame
              refine t0 5 17 ?_
              go_frame
              refine t0 6 18 ?_
              go_frame
              refine t0 7 19 ?_
              go_frame
              refine t0 8 20 ?_
              go_frame
              refine t0 9 21 ?_
              go_frame
              refine t0 10 22 ?_
              go_frame
              refine t0 11 23 ?_
              go_frame
              refine t0 12 24 ?_
              go_frame
              refine t0 13 25 ?_
              go_frame
              refine t0 14 26 ?_
              go_frame
              refine t0 15 27 ?_
              go_frame
              refine t0 16 28 ?_
              go_frame
              refine t0 17 29 ?_
              go_frame
              refine t0 18 30 ?_
              go_frame
              refine t0 19 31 ?_
              go_frame
              refine t0 20 32 ?_
              go_frame
              refine t0 21 33 ?_
              go_frame
              refine tr 22 rfl fun K hK=>?_
              go_simp
              (with_reducible refine(hva _).mono ?_)
              rintro e w5 ⟨rfl,hb5⟩
              have hb9:Below (wr.heap.size+1) (wr.alloc (.cells #[.string a.key,.int .i64 a.v.k,.float .f64 a.v.n,.string a.v.t] 105)) w5:=(Below.refl (wr.heap.size+1) (wr.alloc (.cells #[.string a.key,.int .i64 a.v.k,.float .f64 a.v.n,.string a.v.t] 105))).drew.trans (hb5.mono (by simp))
              refine hK.out _ _ ⟨(hb9.cell (by exact lz)).trans x0,(hb9.cell (by exact lz)).trans x1,(hb9.cell (by exact lz)).trans x2,(hb9.cell (by exact lz)).trans x3,(hb9.cell (by exact hbz')).trans y0'⟩ (fun hHeld=>?_)
              clear hK K
              try go_frame
              refine t0 23 35 ?_
              go_frame
              refine t0 24 36 ?_
              go_frame
              refine t0 25 37 ?_
              go_frame
              refine t0 26 38 ?_
              go_frame
              refine t0 27 39 ?_
              go_frame
              refine t0 28 40 ?_
              go_frame
              refine t0 29 41 ?_
              go_frame
              refine t0 30 42 ?_
              go_frame
              refine td ?_
              go_wp2
              go_ret
              rw[HF.out]
              exact⟨rfl,hb.trans (Below.mono (hbN.trans (hb9.mono (by omega))) hzz)⟩
            · have hk8:(a.v.k==0)=false:=by simp[hk9]
              have HS:=Lib.hid (show prsFrom (aheadW l (k+1)) (l.drop (k+1))=prsFrom none l by rw[←hs,hk8];simp)
              clear hs hl hv hk9
              go_upto_region 4 with (refine wpList_store_new rfl 105 _ _ rfl _ rfl rfl _ _ (by kernel_rfl) (by kernel_rfl) (by kernel_rfl) ?_)
              try clear c0 c1 c2 c3
              refine wp_region_held_drew (S:=fun w'=>w'.cell? ⟨wr.heap.size,0,none⟩=some (.string a.key)∧w'.cell? ⟨wr.heap.size,1,none⟩=some (.int .i64 a.v.k)∧w'.cell? ⟨wr.heap.size,2,none⟩=some (.float .f64 a.v.n)∧w'.cell? ⟨wr.heap.size,3,none⟩=some (.string a.v.t)∧w'.cell? (ad.add ((k-1)*4))=some (.string b.key)) (by kernel_rfl) ⟨x0,x1,x2,x3,y0'⟩ (fun hHeld=>?_)
              refine t0 0 12 ?_
              go_frame
              refine t0 1 13 ?_
              go_frame
              refine tr 2 rfl fun K hK=>?_
              go_simp
              (with_reducible refine(hka _).mono ?_)
              rintro e w4 ⟨rfl,rfl⟩
              refine hK.out _ _ ⟨x0,x1,x2,x3,y0'⟩ (fun hHeld=>?_)
              clear hK K
              try go_frame
              refine t0 3 15 ?_
              go_frame
              refine t0 4 16 ?_
              go_frame
              refine t0 5 17 ?_
              go_frame
              refine t0 6 18 ?_
              go_frame
              refine t0 7 19 ?_
              go_frame
              refine t0 8 20 ?_
              go_frame
              refine t0 9 21 ?_
              go_frame
              refine t0 10 22 ?_
              go_frame
              refine t0 11 23 ?_
              go_frame
              refine t0 12 24 ?_
              go_frame
              refine t0 13 25 ?_
              go_frame
              refine t0 14 26 ?_
              go_frame
              refine t0 15 27 ?_
              go_frame
              refine t0 16 28 ?_
              go_frame
              refine t0 17 29 ?_
              go_frame
              refine t0 18 30 ?_
              go_frame
              refine t0 19 31 ?_
              go_frame
              refine t0 20 32 ?_
              go_frame
              refine t0 21 33 ?_
              go_frame
              refine tr 22 rfl fun K hK=>?_
              go_simp
              (with_reducible refine(hva _).mono ?_)
              rintro e w5 ⟨rfl,hb5⟩
              have hb9:Below (wr.heap.size+1) (wr.alloc (.cells #[.string a.key,.int .i64 a.v.k,.float .f64 a.v.n,.string a.v.t] 105)) w5:=(Below.refl (wr.heap.size+1) (wr.alloc (.cells #[.string a.key,.int .i64 a.v.k,.float .f64 a.v.n,.string a.v.t] 105))).drew.trans (hb5.mono (by simp))
              refine hK.out _ _ ⟨(hb9.cell (by exact lz)).trans x0,(hb9.cell (by exact lz)).trans x1,(hb9.cell (by exact lz)).trans x2,(hb9.cell (by exact lz)).trans x3,(hb9.cell (by exact hbz')).trans y0'⟩ (fun hHeld=>?_)
              clear hK K
              try go_frame
              refine t0 23 35 ?_
              go_frame
              refine t0 24 36 ?_
              go_frame
              refine t0 25 37 ?_
              go_frame
              refine t0 26 38 ?_
              go_frame
              refine t0 27 39 ?_
              go_frame
              refine t0 28 40 ?_
              go_frame
              refine t0 29 41 ?_
              go_frame
              refine t0 30 42 ?_
              go_frame
              refine td ?_
              go_wp2
              go_roundw
              case rel=>exact⟨k+1,by omega,by go_num,HS.out,hb.trans (Below.mono (hbN.trans (hb9.mono (by omega))) hzz)⟩
              case measure=>simp[intOf];omega
  · have hd1:decide ((k:Int)<(n:Int))=false:=by simp;omega
    have HS:=Lib.hid (show prsB l=true by unfold prsB;rw[←hs,List.drop_of_length_le (by omega)];rfl)
    clear hs hl
    go_wp2
    go_ret
    rw[HS.out]
    exact⟨rfl,hb⟩
theorem rprs_any (A:Option Addr) (n c:Nat) (l:List Wt) (w:World) (h:Sl WtRel 4 w w.heap.size A n l) (hn:n≤maxLen):
 Calls Tryz.prog 210 #[.slice A n c] w fun e w'=>e=.returned (.bool (prsB l))∧Below w.heap.size w w':=by
 unfold maxLen at hn
 have hl:=h.1
 have hge:n≤l.length:=by omega
 go_enter Tryz.func210,Tryz.ntmps210
 go_wp2
 go_loopw [3] (fun i wr=>PrsRel l w i wr) (fun i _=>n-(intOf i).toNat)
 case atStart=>exact⟨0,by omega,rfl,rfl,Below.refl _ _⟩
 case round=>
  obtain⟨k,hk,rfl,hs,hb⟩:=hrel
  have hzz:=hb.size
  by_cases hlt:k<n
  · obtain⟨ad,a,rfl,ha,hbk,hok,c0,c1,c2,c3⟩:=((h.below WtRel.kept hb).more WtRel.kept hb.size).wt hlt
    have hka:=fun w=>rkey_any a.key w
    have hva:=fun w=>rvmay_any a.v w
    have hd1:decide ((k:Int)<(n:Int))=true:=by simp;omega
    have hk0:(0:Int)≤(k:Int):=by omega
    have hk1:(k:Int)<(n:Int):=by omega
    have lz:wr.heap.size<wr.heap.size+1:=Nat.lt_succ_self _
    have hbz:(ad.add (k*4)).block<wr.heap.size+1:=by omega
    have hbN:Below wr.heap.size wr (wr.alloc (.cells #[.int .i64 a.v.k,.float .f64 a.v.n,.string a.v.t] 59)):=(Below.refl _ _).alloc (Nat.le_refl _) _
    have hbB:=Blk.new wr 59 #[.int .i64 a.v.k,.float .f64 a.v.n,.string a.v.t]
    obtain⟨-,x0,x1,x2⟩:wr.heap.size<wr.heap.size+1∧(wr.alloc (.cells #[.int .i64 a.v.k,.float .f64 a.v.n,.string a.v.t] 59)).cell? ⟨wr.heap.size,0,none⟩=some (.int .i64 a.v.k)∧(wr.alloc (.cells #[.int .i64 a.v.k,.float .f64 a.v.n,.string a.v.t] 59)).cell? ⟨wr.heap.size,1,none⟩=some (.float .f64 a.v.n)∧(wr.alloc (.cells #[.int .i64 a.v.k,.float .f64 a.v.n,.string a.v.t] 59)).cell? ⟨wr.heap.size,2,none⟩=some (.string a.v.t):=⟨lz,hbB.cell 0,hbB.cell 1,hbB.cell 2⟩
    have c0':(wr.alloc (.cells #[.int .i64 a.v.k,.float .f64 a.v.n,.string a.v.t] 59)).cell? (ad.add (k*4))=some (.string a.key):=(hbN.cell hbk).trans c0
    clear hbB
    rw[prsFrom_drop ha]at hs
    clear ha
    cases hkb:keyB a.key
    · rw[hkb]at hka hs
      have HF:=Lib.hid (show prsB l=false by unfold prsB;rw[←hs];rfl)
      clear hs hl
      go_upto_region 5 with (refine wpList_store_new rfl 59 _ _ rfl _ rfl rfl _ _ (by kernel_rfl) (by kernel_rfl) (by kernel_rfl) ?_)
      try clear c0 c1 c2 c3
      refine wp_region_held_drew (S:=fun w'=>w'.cell? ⟨wr.heap.size,0,none⟩=some (.int .i64 a.v.k)∧w'.cell? ⟨wr.heap.size,1,none⟩=some (.float .f64 a.v.n)∧w'.cell? ⟨wr.heap.size,2,none⟩=some (.string a.v.t)∧w'.cell? (ad.add (k*4))=some (.string a.key)) (by kernel_rfl) ⟨x0,x1,x2,c0'⟩ (fun hHeld=>?_)
      refine t0 0 16 ?_
      go_frame
      refine t0 1 17 ?_
      go_frame
      refine t0 2 18 ?_
      go_frame
      refine t0 3 19 ?_
      go_frame
      refine t0 4 20 ?_
      go_frame
      refine tr 5 rfl fun K hK=>?_
      go_simp
      (with_reducible refine(hka _).mono ?_)
      rintro e w4 ⟨rfl,rfl⟩
      refine hK.out _ _ ⟨x0,x1,x2,c0'⟩ (fun hHeld=>?_)
      clear hK K
      try go_frame
      refine t0 6 22 ?_
      go_frame
      refine t0 7 23 ?_
      go_frame
      refine tn 8 24 ?_
      go_frame
      refine tn 9 25 ?_
      go_frame
      refine tn 10 26 ?_
      go_frame
      refine tn 11 27 ?_
      go_frame
      refine tn 12 28 ?_
      go_frame
      refine tn 13 29 ?_
      go_frame
      refine tn 14 30 ?_
      go_frame
      refine tn 15 31 ?_
      go_frame
      refine tn 16 32 ?_
      go_frame
      refine tn 17 33 ?_
      go_frame
      refine tn 18 34 ?_
      go_frame
      refine tn 19 35 ?_
      go_frame
      refine tn 20 36 ?_
      go_frame
      refine tn 21 37 ?_
      go_frame
      refine tn 22 38 ?_
      go_frame
      refine tn 23 39 ?_
      go_frame
      refine t0 24 40 ?_
      go_frame
      refine t0 25 41 ?_
      go_frame
      refine tn 26 42 ?_
      go_frame
      refine tn 27 43 ?_
      go_frame
      refine tn 28 44 ?_
      go_frame
      refine t0 29 45 ?_
      go_frame
      refine t0 30 46 ?_
      go_frame
      refine tn 31 47 ?_
      go_frame
      refine tn 32 48 ?_
      go_frame
      refine tn 33 49 ?_
      go_frame
      refine t0 34 50 ?_
      go_frame
      refine td ?_
      go_wp2
      go_ret
      rw[HF.out]
      exact⟨rfl,hb.trans (Below.mono hbN.drew hzz)⟩
    · rw[hkb]at hka hs
      by_cases hz:k=0
      · have hd2:decide (0<k)=false:=by simp;omega
        rw[show aheadW l k=none from by rw[hz];rfl]at hs
        clear hz
        cases hv:a.v.may
        · rw[hv]at hva hs
          have HF:=Lib.hid (show prsB l=false by unfold prsB;rw[←hs];simp)
          clear hs hl hv
          go_upto_region 5 with (refine wpList_store_new rfl 59 _ _ rfl _ rfl rfl _ _ (by kernel_rfl) (by kernel_rfl) (by kernel_rfl) ?_)
          try clear c0 c1 c2 c3
          refine wp_region_held_drew (S:=fun w'=>w'.cell? ⟨wr.heap.size,0,none⟩=some (.int .i64 a.v.k)∧w'.cell? ⟨wr.heap.size,1,none⟩=some (.float .f64 a.v.n)∧w'.cell? ⟨wr.heap.size,2,none⟩=some (.string a.v.t)∧w'.cell? (ad.add (k*4))=some (.string a.key)) (by kernel_rfl) ⟨x0,x1,x2,c0'⟩ (fun hHeld=>?_)
          refine t0 0 16 ?_
          go_frame
          refine t0 1 17 ?_
          go_frame
          refine t0 2 18 ?_
          go_frame
          refine t0 3 19 ?_
          go_frame
          refine t0 4 20 ?_
          go_frame
          refine tr 5 rfl fun K hK=>?_
          go_simp
          (with_reducible refine(hka _).mono ?_)
          rintro e w4 ⟨rfl,rfl⟩
          refine hK.out _ _ ⟨x0,x1,x2,c0'⟩ (fun hHeld=>?_)
          clear hK K
          try go_frame
          refine t0 6 22 ?_
          go_frame
          refine t0 7 23 ?_
          go_frame
          refine t0 8 24 ?_
          go_frame
          refine t0 9 25 ?_
          go_frame
          refine t0 10 26 ?_
          go_frame
          refine tn 11 27 ?_
          go_frame
          refine tn 12 28 ?_
          go_frame
          refine tn 13 29 ?_
          go_frame
          refine tn 14 30 ?_
          go_frame
          refine tn 15 31 ?_
          go_frame
          refine tn 16 32 ?_
          go_frame
          refine tn 17 33 ?_
          go_frame
          refine tn 18 34 ?_
          go_frame
          refine tn 19 35 ?_
          go_frame
          refine tn 20 36 ?_
          go_frame
          refine tn 21 37 ?_
          go_frame
          refine tn 22 38 ?_
          go_frame
          refine t0 23 39 ?_
          go_frame
          refine t0 24 40 ?_
          go_frame
          refine t0 25 41 ?_
          go_frame
          refine t0 26 42 ?_
          go_frame
          refine tr 27 rfl fun K hK=>?_
          go_simp
          (with_reducible refine(hva _).mono ?_)
          rintro e w5 ⟨rfl,hb5⟩
          have hb9:Below (wr.heap.size+1) (wr.alloc (.cells #[.int .i64 a.v.k,.float .f64 a.v.n,.string a.v.t] 59)) w5:=(Below.refl (wr.heap.size+1) (wr.alloc (.cells #[.int .i64 a.v.k,.float .f64 a.v.n,.string a.v.t] 59))).drew.trans (hb5.mono (by simp))
          refine hK.out _ _ ⟨(hb9.cell (by exact lz)).trans x0,(hb9.cell (by exact lz)).trans x1,(hb9.cell (by exact lz)).trans x2,(hb9.cell (by exact hbz)).trans c0'⟩ (fun hHeld=>?_)
          clear hK K
          try go_frame
          refine t0 28 44 ?_
          go_frame
          refine t0 29 45 ?_
          go_frame
          refine t0 30 46 ?_
          go_frame
          refine tn 31 47 ?_
          go_frame
          refine tn 32 48 ?_
          go_frame
          refine tn 33 49 ?_
          go_frame
          refine t0 34 50 ?_
          go_frame
          refine td ?_
          go_wp2
          go_ret
          rw[HF.out]
          exact⟨rfl,hb.trans (Below.mono (hbN.trans (hb9.mono (by omega))) hzz)⟩
        · rw[hv]at hva hs
          by_cases hk9:a.v.k=0
          · have HF:=Lib.hid (show prsB l=false by unfold prsB;rw[←hs,hk9];simp)
            have hk8:(a.v.k==0)=true:=by simp[hk9]
            clear hs hl hv hk9
            go_upto_region 5 with (refine wpList_store_new rfl 59 _ _ rfl _ rfl rfl _ _ (by kernel_rfl) (by kernel_rfl) (by kernel_rfl) ?_)
            try clear c0 c1 c2 c3
            refine wp_region_held_drew (S:=fun w'=>w'.cell? ⟨wr.heap.size,0,none⟩=some (.int .i64 a.v.k)∧w'.cell? ⟨wr.heap.size,1,none⟩=some (.float .f64 a.v.n)∧w'.cell? ⟨wr.heap.size,2,none⟩=some (.string a.v.t)∧w'.cell? (ad.add (k*4))=some (.string a.key)) (by kernel_rfl) ⟨x0,x1,x2,c0'⟩ (fun hHeld=>?_)
            refine t0 0 16 ?_
            go_frame
            refine t0 1 17 ?_
            go_frame
            refine t0 2 18 ?_
            go_frame
            refine t0 3 19 ?_
            go_frame
            refine t0 4 20 ?_
            go_frame
            refine tr 5 rfl fun K hK=>?_
            go_simp
            (with_reducible refine(hka _).mono ?_)
            rintro e w4 ⟨rfl,rfl⟩
            refine hK.out _ _ ⟨x0,x1,x2,c0'⟩ (fun hHeld=>?_)
            clear hK K
            try go_frame
            refine t0 6 22 ?_
            go_frame
            refine t0 7 23 ?_
            go_frame
            refine t0 8 24 ?_
            go_frame
            refine t0 9 25 ?_
            go_frame
            refine t0 10 26 ?_
            go_frame
            refine tn 11 27 ?_
            go_frame
            refine tn 12 28 ?_
            go_frame
            refine tn 13 29 ?_
            go_frame
            refine tn 14 30 ?_
            go_frame
            refine tn 15 31 ?_
            go_frame
            refine tn 16 32 ?_
            go_frame
            refine tn 17 33 ?_
            go_frame
            refine tn 18 34 ?_
            go_frame
            refine tn 19 35 ?_
            go_frame
            refine tn 20 36 ?_
            go_frame
            refine tn 21 37 ?_
            go_frame
            refine tn 22 38 ?_
            go_frame
            refine t0 23 39 ?_
            go_frame
            refine t0 24 40 ?_
            go_frame
            refine t0 25 41 ?_
            go_frame
            refine t0 26 42 ?_
            go_frame
            refine tr 27 rfl fun K hK=>?_
            go_simp
            (with_reducible refine(hva _).mono ?_)
            rintro e w5 ⟨rfl,hb5⟩
            have hb9:Below (wr.heap.size+1) (wr.alloc (.cells #[.int .i64 a.v.k,.float .f64 a.v.n,.string a.v.t] 59)) w5:=(Below.refl (wr.heap.size+1) (wr.alloc (.cells #[.int .i64 a.v.k,.float .f64 a.v.n,.string a.v.t] 59))).drew.trans (hb5.mono (by simp))
            refine hK.out _ _ ⟨(hb9.cell (by exact lz)).trans x0,(hb9.cell (by exact lz)).trans x1,(hb9.cell (by exact lz)).trans x2,(hb9.cell (by exact hbz)).trans c0'⟩ (fun hHeld=>?_)
            clear hK K
            try go_frame
            refine t0 28 44 ?_
            go_frame
            refine t0 29 45 ?_
            go_frame
            refine t0 30 46 ?_
            go_frame
            refine t0 31 47 ?_
            go_frame
            refine t0 32 48 ?_
            go_frame
            refine t0 33 49 ?_
            go_frame
            refine t0 34 50 ?_
            go_frame
            refine td ?_
            go_wp2
            go_ret
            rw[HF.out]
            exact⟨rfl,hb.trans (Below.mono (hbN.trans (hb9.mono (by omega))) hzz)⟩
          · have hk8:(a.v.k==0)=false:=by simp[hk9]
            have HS:=Lib.hid (show prsFrom (aheadW l (k+1)) (l.drop (k+1))=prsFrom none l by rw[←hs,hk8];simp)
            clear hs hl hv hk9
            go_upto_region 5 with (refine wpList_store_new rfl 59 _ _ rfl _ rfl rfl _ _ (by kernel_rfl) (by kernel_rfl) (by kernel_rfl) ?_)
            try clear c0 c1 c2 c3
            refine wp_region_held_drew (S:=fun w'=>w'.cell? ⟨wr.heap.size,0,none⟩=some (.int .i64 a.v.k)∧w'.cell? ⟨wr.heap.size,1,none⟩=some (.float .f64 a.v.n)∧w'.cell? ⟨wr.heap.size,2,none⟩=some (.string a.v.t)∧w'.cell? (ad.add (k*4))=some (.string a.key)) (by kernel_rfl) ⟨x0,x1,x2,c0'⟩ (fun hHeld=>?_)
            refine t0 0 16 ?_
            go_frame
            refine t0 1 17 ?_
            go_frame
            refine t0 2 18 ?_
            go_frame
            refine t0 3 19 ?_
            go_frame
            refine t0 4 20 ?_
            go_frame
            refine tr 5 rfl fun K hK=>?_
            go_simp
            (with_reducible refine(hka _).mono ?_)
            rintro e w4 ⟨rfl,rfl⟩
            refine hK.out _ _ ⟨x0,x1,x2,c0'⟩ (fun hHeld=>?_)
            clear hK K
            try go_frame
            refine t0 6 22 ?_
            go_frame
            refine t0 7 23 ?_
            go_frame
            refine t0 8 24 ?_
            go_frame
            refine t0 9 25 ?_
            go_frame
            refine t0 10 26 ?_
            go_frame
            refine tn 11 27 ?_
            go_frame
            refine tn 12 28 ?_
            go_frame
            refine tn 13 29 ?_
            go_frame
            refine tn 14 30 ?_
            go_frame
            refine tn 15 31 ?_
            go_frame
            refine tn 16 32 ?_
            go_frame
            refine tn 17 33 ?_
            go_frame
            refine tn 18 34 ?_
            go_frame
            refine tn 19 35 ?_
            go_frame
            refine tn 20 36 ?_
            go_frame
            refine tn 21 37 ?_
            go_frame
            refine tn 22 38 ?_
            go_frame
            refine t0 23 39 ?_
            go_frame
            refine t0 24 40 ?_
            go_frame
            refine t0 25 41 ?_
            go_frame
            refine t0 26 42 ?_
            go_frame
            refine tr 27 rfl fun K hK=>?_
            go_simp
            (with_reducible refine(hva _).mono ?_)
            rintro e w5 ⟨rfl,hb5⟩
            have hb9:Below (wr.heap.size+1) (wr.alloc (.cells #[.int .i64 a.v.k,.float .f64 a.v.n,.string a.v.t] 59)) w5:=(Below.refl (wr.heap.size+1) (wr.alloc (.cells #[.int .i64 a.v.k,.float .f64 a.v.n,.string a.v.t] 59))).drew.trans (hb5.mono (by simp))
            refine hK.out _ _ ⟨(hb9.cell (by exact lz)).trans x0,(hb9.cell (by exact lz)).trans x1,(hb9.cell (by exact lz)).trans x2,(hb9.cell (by exact hbz)).trans c0'⟩ (fun hHeld=>?_)
            clear hK K
            try go_frame
            refine t0 28 44 ?_
            go_frame
            refine t0 29 45 ?_
            go_frame
            refine t0 30 46 ?_
            go_frame
            refine t0 31 47 ?_
            go_frame
            refine t0 32 48 ?_
            go_frame
            refine t0 33 49 ?_
            go_frame
            refine t0 34 50 ?_
            go_frame
            refine td ?_
            go_wp2
            go_roundw
            case rel=>exact⟨k+1,by omega,by go_num,HS.out,hb.trans (Below.mono (hbN.trans (hb9.mono (by omega))) hzz)⟩
            case measure=>simp[intOf];omega
      · obtain⟨ad',b,e',hb',hbk',hok',y0,-,-,-⟩:=((h.below WtRel.kept hb).more WtRel.kept hb.size).wt (k:=k-1) (by omega)
        injection e' with e'
        subst e'
        have hd2:decide (0<k)=true:=by simp;omega
        have hj0:(0:Int)≤(k:Int)-1:=by omega
        have hj1:(k:Int)-1<(n:Int):=by omega
        have hj2:((k:Int)-1).toNat=k-1:=by omega
        have hj3:IntKind.i64.wrap ((k:Int)-1)=(k:Int)-1:=by rw[IntKind.wrap_i64];omega
        have hj4:(1:Int)≤(k:Int):=by omega
        have hbz':(ad.add ((k-1)*4)).block<wr.heap.size+1:=by omega
        have y0':(wr.alloc (.cells #[.int .i64 a.v.k,.float .f64 a.v.n,.string a.v.t] 59)).cell? (ad.add ((k-1)*4))=some (.string b.key):=(hbN.cell hbk').trans y0
        have hah:aheadW l k=some b.key:=by
         cases k with
         |zero=>omega
         |succ j=>show (l[j]?).map (·.key)=_;rw[show l[j]?=some b from hb'];rfl
        rw[hah]at hs
        change (true&&bl b.key a.key&&a.v.may&& !(a.v.k==0)&&prsFrom (aheadW l (k+1)) (l.drop (k+1)))=prsFrom none l at hs
        have hle:(Op.bytesLess a.key.toList b.key.toList||a.key.toList==b.key.toList)= !bl b.key a.key:=by rw[bl_le];unfold leB;simp
        clear hz hah hb' hok'
        cases hbl:bl b.key a.key
        · have HF:=Lib.hid (show prsB l=false by unfold prsB;rw[←hs];simp[hbl])
          rw[hbl]at hle
          have hle':(Op.bytesLess a.key.toList b.key.toList||a.key.toList==b.key.toList)=true:=hle
          unfold bl at hbl
          clear hs hl hle
          go_upto_region 5 with (refine wpList_store_new rfl 59 _ _ rfl _ rfl rfl _ _ (by kernel_rfl) (by kernel_rfl) (by kernel_rfl) ?_)
          try clear c0 c1 c2 c3
          refine wp_region_held_drew (S:=fun w'=>w'.cell? ⟨wr.heap.size,0,none⟩=some (.int .i64 a.v.k)∧w'.cell? ⟨wr.heap.size,1,none⟩=some (.float .f64 a.v.n)∧w'.cell? ⟨wr.heap.size,2,none⟩=some (.string a.v.t)∧w'.cell? (ad.add (k*4))=some (.string a.key)∧w'.cell? (ad.add ((k-1)*4))=some (.string b.key)) (by kernel_rfl) ⟨x0,x1,x2,c0',y0'⟩ (fun hHeld=>?_)
          refine t0 0 16 ?_
          go_frame
          refine t0 1 17 ?_
          go_frame
          refine t0 2 18 ?_
          go_frame
          refine t0 3 19 ?_
          go_frame
          refine t0 4 20 ?_
          go_frame
          refine tr 5 rfl fun K hK=>?_
          go_simp
          (with_reducible refine(hka _).mono ?_)
          rintro e w4 ⟨rfl,rfl⟩
          refine hK.out _ _ ⟨x0,x1,x2,c0',y0'⟩ (fun hHeld=>?_)
          clear hK K
          try go_frame
          refine t0 6 22 ?_
          go_frame
          refine t0 7 23 ?_
          go_frame
          refine t0 8 24 ?_
          go_frame
          refine t0 9 25 ?_
          go_frame
          refine t0 10 26 ?_
          go_frame
          refine t0 11 27 ?_
          go_frame
          refine t0 12 28 ?_
          go_frame
          refine t0 13 29 ?_
          go_frame
          refine t0 14 30 ?_
          go_frame
          refine t0 15 31 ?_
          go_frame
          refine t0 16 32 ?_
          go_frame
          refine t0 17 33 ?_
          go_frame
          refine t0 18 34 ?_
          go_frame
          refine t0 19 35 ?_
          go_frame
          refine t0 20 36 ?_
          go_frame
          refine t0 21 37 ?_
          go_frame
          refine t0 22 38 ?_
          go_frame
          refine t0 23 39 ?_
          go_frame
          refine t0 24 40 ?_
          go_frame
          refine t0 25 41 ?_
          go_frame
          refine tn 26 42 ?_
          go_frame
          refine tn 27 43 ?_
          go_frame
          refine tn 28 44 ?_
          go_frame
          refine t0 29 45 ?_
          go_frame
          refine t0 30 46 ?_
          go_frame
          refine tn 31 47 ?_
          go_frame
          refine tn 32 48 ?_
          go_frame
          refine tn 33 49 ?_
          go_frame
          refine t0 34 50 ?_
          go_frame
          refine td ?_
          go_wp2
          go_ret
          rw[HF.out]
          exact⟨rfl,hb.trans (Below.mono hbN.drew hzz)⟩
        · rw[hbl]at hs hle
          have hl1:Op.bytesLess a.key.toList b.key.toList=false∧(a.key.toList==b.key.toList)=false:=by simpa [Bool.or_eq_false_iff] using hle
          obtain⟨hl2,hl3⟩:=hl1
          unfold bl at hbl
          clear hle
          cases hv:a.v.may
          · rw[hv]at hva hs
            have HF:=Lib.hid (show prsB l=false by unfold prsB;rw[←hs];simp)
            clear hs hl hv
            go_upto_region 5 with (refine wpList_store_new rfl 59 _ _ rfl _ rfl rfl _ _ (by kernel_rfl) (by kernel_rfl) (by kernel_rfl) ?_)
            try clear c0 c1 c2 c3
            refine wp_region_held_drew (S:=fun w'=>w'.cell? ⟨wr.heap.size,0,none⟩=some (.int .i64 a.v.k)∧w'.cell? ⟨wr.heap.size,1,none⟩=some (.float .f64 a.v.n)∧w'.cell? ⟨wr.heap.size,2,none⟩=some (.string a.v.t)∧w'.cell? (ad.add (k*4))=some (.string a.key)∧w'.cell? (ad.add ((k-1)*4))=some (.string b.key)) (by kernel_rfl) ⟨x0,x1,x2,c0',y0'⟩ (fun hHeld=>?_)
            refine t0 0 16 ?_
            go_frame
            refine t0 1 17 ?_
            go_frame
            refine t0 2 18 ?_
            go_frame
            refine t0 3 19 ?_
            go_frame
            refine t0 4 20 ?_
            go_frame
            refine tr 5 rfl fun K hK=>?_
            go_simp
            (with_reducible refine(hka _).mono ?_)
            rintro e w4 ⟨rfl,rfl⟩
            refine hK.out _ _ ⟨x0,x1,x2,c0',y0'⟩ (fun hHeld=>?_)
            clear hK K
            try go_frame
            refine t0 6 22 ?_
            go_frame
            refine t0 7 23 ?_
            go_frame
            refine t0 8 24 ?_
            go_frame
            refine t0 9 25 ?_
            go_frame
            refine t0 10 26 ?_
            go_frame
            refine t0 11 27 ?_
            go_frame
            refine t0 12 28 ?_
            go_frame
            refine t0 13 29 ?_
            go_frame
            refine t0 14 30 ?_
            go_frame
            refine t0 15 31 ?_
            go_frame
            refine t0 16 32 ?_
            go_frame
            refine t0 17 33 ?_
            go_frame
            refine t0 18 34 ?_
            go_frame
            refine t0 19 35 ?_
            go_frame
            refine t0 20 36 ?_
            go_frame
            refine t0 21 37 ?_
            go_frame
            refine t0 22 38 ?_
            go_frame
            refine t0 23 39 ?_
            go_frame
            refine t0 24 40 ?_
            go_frame
            refine t0 25 41 ?_
            go_frame
            refine t0 26 42 ?_
            go_frame
            refine tr 27 rfl fun K hK=>?_
            go_simp
            (with_reducible refine(hva _).mono ?_)
            rintro e w5 ⟨rfl,hb5⟩
            have hb9:Below (wr.heap.size+1) (wr.alloc (.cells #[.int .i64 a.v.k,.float .f64 a.v.n,.string a.v.t] 59)) w5:=(Below.refl (wr.heap.size+1) (wr.alloc (.cells #[.int .i64 a.v.k,.float .f64 a.v.n,.string a.v.t] 59))).drew.trans (hb5.mono (by simp))
            refine hK.out _ _ ⟨(hb9.cell (by exact lz)).trans x0,(hb9.cell (by exact lz)).trans x1,(hb9.cell (by exact lz)).trans x2,(hb9.cell (by exact hbz)).trans c0',(hb9.cell (by exact hbz')).trans y0'⟩ (fun hHeld=>?_)
            clear hK K
            try go_frame
            refine t0 28 44 ?_
            go_frame
            refine t0 29 45 ?_
            go_frame
            refine t0 30 46 ?_
            go_frame
            refine tn 31 47 ?_
            go_frame
            refine tn 32 48 ?_
            go_frame
            refine tn 33 49 ?_
            go_frame
            refine t0 34 50 ?_
            go_frame
            refine td ?_
            go_wp2
            go_ret
            rw[HF.out]
            exact⟨rfl,hb.trans (Below.mono (hbN.trans (hb9.mono (by omega))) hzz)⟩
          · rw[hv]at hva hs
            by_cases hk9:a.v.k=0
            · have HF:=Lib.hid (show prsB l=false by unfold prsB;rw[←hs,hk9];simp)
              have hk8:(a.v.k==0)=true:=by simp[hk9]
              clear hs hl hv hk9
              go_upto_region 5 with (refine wpList_store_new rfl 59 _ _ rfl _ rfl rfl _ _ (by kernel_rfl) (by kernel_rfl) (by kernel_rfl) ?_)
              try clear c0 c1 c2 c3
              refine wp_region_held_drew (S:=fun w'=>w'.cell? ⟨wr.heap.size,0,none⟩=some (.int .i64 a.v.k)∧w'.cell? ⟨wr.heap.size,1,none⟩=some (.float .f64 a.v.n)∧w'.cell? ⟨wr.heap.size,2,none⟩=some (.string a.v.t)∧w'.cell? (ad.add (k*4))=some (.string a.key)∧w'.cell? (ad.add ((k-1)*4))=some (.string b.key)) (by kernel_rfl) ⟨x0,x1,x2,c0',y0'⟩ (fun hHeld=>?_)
              refine t0 0 16 ?_
              go_frame
              refine t0 1 17 ?_
              go_frame
              refine t0 2 18 ?_
              go_frame
              refine t0 3 19 ?_
              go_frame
              refine t0 4 20 ?_
              go_frame
              refine tr 5 rfl fun K hK=>?_
              go_simp
              (with_reducible refine(hka _).mono ?_)
              rintro e w4 ⟨rfl,rfl⟩
              refine hK.out _ _ ⟨x0,x1,x2,c0',y0'⟩ (fun hHeld=>?_)
              clear hK K
              try go_frame
              refine t0 6 22 ?_
              go_frame
              refine t0 7 23 ?_
              go_frame
              refine t0 8 24 ?_
              go_frame
              refine t0 9 25 ?_
              go_frame
              refine t0 10 26 ?_
              go_frame
              refine t0 11 27 ?_
              go_frame
              refine t0 12 28 ?_
              go_frame
              refine t0 13 29 ?_
              go_frame
              refine t0 14 30 ?_
              go_frame
              refine t0 15 31 ?_
              go_frame
              refine t0 16 32 ?_
              go_frame
              refine t0 17 33 ?_
              go_frame
              refine t0 18 34 ?_
              go_frame
              refine t0 19 35 ?_
              go_frame
              refine t0 20 36 ?_
              go_frame
              refine t0 21 37 ?_
              go_frame
              refine t0 22 38 ?_
              go_frame
              refine t0 23 39 ?_
              go_frame
              refine t0 24 40 ?_
              go_frame
              refine t0 25 41 ?_
              go_frame
              refine t0 26 42 ?_
              go_frame
              refine tr 27 rfl fun K hK=>?_
              go_simp
              (with_reducible refine(hva _).mono ?_)
              rintro e w5 ⟨rfl,hb5⟩
              have hb9:Below (wr.heap.size+1) (wr.alloc (.cells #[.int .i64 a.v.k,.float .f64 a.v.n,.string a.v.t] 59)) w5:=(Below.refl (wr.heap.size+1) (wr.alloc (.cells #[.int .i64 a.v.k,.float .f64 a.v.n,.string a.v.t] 59))).drew.trans (hb5.mono (by simp))
              refine hK.out _ _ ⟨(hb9.cell (by exact lz)).trans x0,(hb9.cell (by exact lz)).trans x1,(hb9.cell (by exact lz)).trans x2,(hb9.cell (by exact hbz)).trans c0',(hb9.cell (by exact hbz')).trans y0'⟩ (fun hHeld=>?_)
              clear hK K
              try go_frame
              refine t0 28 44 ?_
              go_frame
              refine t0 29 45 ?_
              go_frame
              refine t0 30 46 ?_
              go_frame
              refine t0 31 47 ?_
              go_frame
              refine t0 32 48 ?_
              go_frame
              refine t0 33 49 ?_
              go_frame
              refine t0 34 50 ?_
              go_frame
              refine td ?_
              go_wp2
              go_ret
              rw[HF.out]
              exact⟨rfl,hb.trans (Below.mono (hbN.trans (hb9.mono (by omega))) hzz)⟩
            · have hk8:(a.v.k==0)=false:=by simp[hk9]
              have HS:=Lib.hid (show prsFrom (aheadW l (k+1)) (l.drop (k+1))=prsFrom none l by rw[←hs,hk8];simp)
              clear hs hl hv hk9
              go_upto_region 5 with (refine wpList_store_new rfl 59 _ _ rfl _ rfl rfl _ _ (by kernel_rfl) (by kernel_rfl) (by kernel_rfl) ?_)
              try clear c0 c1 c2 c3
              refine wp_region_held_drew (S:=fun w'=>w'.cell? ⟨wr.heap.size,0,none⟩=some (.int .i64 a.v.k)∧w'.cell? ⟨wr.heap.size,1,none⟩=some (.float .f64 a.v.n)∧w'.cell? ⟨wr.heap.size,2,none⟩=some (.string a.v.t)∧w'.cell? (ad.add (k*4))=some (.string a.key)∧w'.cell? (ad.add ((k-1)*4))=some (.string b.key)) (by kernel_rfl) ⟨x0,x1,x2,c0',y0'⟩ (fun hHeld=>?_)
              refine t0 0 16 ?_
              go_frame
              refine t0 1 17 ?_
              go_frame
              refine t0 2 18 ?_
              go_frame
              refine t0 3 19 ?_
              go_frame
              refine t0 4 20 ?_
              go_frame
              refine tr 5 rfl fun K hK=>?_
              go_simp
              (with_reducible refine(hka _).mono ?_)
              rintro e w4 ⟨rfl,rfl⟩
              refine hK.out _ _ ⟨x0,x1,x2,c0',y0'⟩ (fun hHeld=>?_)
              clear hK K
              try go_frame
              refine t0 6 22 ?_
              go_frame
              refine t0 7 23 ?_
              go_frame
              refine t0 8 24 ?_
              go_frame
              refine t0 9 25 ?_
              go_frame
              refine t0 10 26 ?_
              go_frame
              refine t0 11 27 ?_
              go_frame
              refine t0 12 28 ?_
              go_frame
              refine t0 13 29 ?_
              go_frame
              refine t0 14 30 ?_
              go_frame
              refine t0 15 31 ?_
              go_frame
              refine t0 16 32 ?_
              go_frame
              refine t0 17 33 ?_
              go_frame
              refine t0 18 34 ?_
              go_frame
              refine t0 19 35 ?_
              go_frame
              refine t0 20 36 ?_
              go_frame
              refine t0 21 37 ?_
              go_frame
              refine t0 22 38 ?_
              go_frame
              refine t0 23 39 ?_
              go_frame
              refine t0 24 40 ?_
              go_frame
              refine t0 25 41 ?_
              go_frame
              refine t0 26 42 ?_
              go_frame
              refine tr 27 rfl fun K hK=>?_
              go_simp
              (with_reducible refine(hva _).mono ?_)
              rintro e w5 ⟨rfl,hb5⟩
              have hb9:Below (wr.heap.size+1) (wr.alloc (.cells #[.int .i64 a.v.k,.float .f64 a.v.n,.string a.v.t] 59)) w5:=(Below.refl (wr.heap.size+1) (wr.alloc (.cells #[.int .i64 a.v.k,.float .f64 a.v.n,.string a.v.t] 59))).drew.trans (hb5.mono (by simp))
              refine hK.out _ _ ⟨(hb9.cell (by exact lz)).trans x0,(hb9.cell (by exact lz)).trans x1,(hb9.cell (by exact lz)).trans x2,(hb9.cell (by exact hbz)).trans c0',(hb9.cell (by exact hbz')).trans y0'⟩ (fun hHeld=>?_)
              clear hK K
              try go_frame
              refine t0 28 44 ?_
              go_frame
              refine t0 29 45 ?_
              go_frame
              refine t0 30 46 ?_
              go_frame
              refine t0 31 47 ?_
              go_frame
              refine t0 32 48 ?_
              go_frame
              refine t0 33 49 ?_
              go_frame
              refine t0 34 50 ?_
              go_frame
              refine td ?_
              go_wp2
              go_roundw
              case rel=>exact⟨k+1,by omega,by go_num,HS.out,hb.trans (Below.mono (hbN.trans (hb9.mono (by omega))) hzz)⟩
              case measure=>simp[intOf];omega
  · have hd1:decide ((k:Int)<(n:Int))=false:=by simp;omega
    have HS:=Lib.hid (show prsB l=true by unfold prsB;rw[←hs,List.drop_of_length_le (by omega)];rfl)
    clear hs hl
    go_wp2
    go_ret
    rw[HS.out]
    exact⟨rfl,hb⟩
end Go.Proofs.YtcalkfgibflbnaaGreat
