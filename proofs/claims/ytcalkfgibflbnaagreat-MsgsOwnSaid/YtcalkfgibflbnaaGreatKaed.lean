/- The walks of raceref's One, Seen, Ranges, Recs. -/
import Derived.Deep.MidRow
import Derived.Test.YtcalkfgibflbnaaGreatKaab
import Derived.Test.YtcalkfgibflbnaaGreatKabb
import Derived.Test.YtcalkfgibflbnaaGreatKadf
namespace Go.Proofs.YtcalkfgibflbnaaGreat
set_option maxHeartbeats 4000000
set_option maxRecDepth 100000
set_option linter.unusedVariables false
open Go.RowKit Fl
attribute [local go_sem] run_store_float
theorem Sl.mid {α:Type} {R:Rel α} {E:Nat} {w:World} {B n:Nat} {A:Option Addr} {l:List α} (h:Sl R E w B A n l) (hE:0<E) {k:Nat} (hk:k<n):
 ∃(ad:Addr) (b o:Nat) (cs:List Value) (a:α),A=some ad∧l[k]?=some a∧ad.add (k*E)=⟨b,o,none⟩∧b<B∧cs.length=E∧w.rangeAt b o cs∧R w B cs a:=by
 obtain⟨ad,cs,a,e,hl,hb,hc,hv,hr⟩:=h.at_ hk
 obtain⟨u,hu⟩:∃u,cs[0]?=some u:=⟨cs[0],List.getElem?_eq_getElem (by omega)⟩
 have c0:=hv 0 u hu
 rw[Nat.add_zero]at c0
 have hbb:(ad.add (k*E)).block<B:=by rw[block_of_add];exact hb
 have hv2:∀j v,cs[j]?=some v→w.cell? ((ad.add (k*E)).add j)=some v:=fun j v hj=>by rw[add_of_add];exact hv j v hj
 generalize hq:ad.add (k*E)=q at*
 obtain⟨b,o,sp⟩:=q
 cases sp with
 |some s=>
  unfold World.cell? at c0
  cases h5:w.heap[b]? with
  |none=>simp[h5]at c0
  |some x=>cases x<;>simp[h5]at c0
 |none=>exact⟨ad,b,o,cs,a,e,hl,hq,hbb,hc,fun j v hj=>by have:=hv2 j v hj;rwa [Addr.add_mid]at this,hr⟩
theorem rec_self (r:Rc):recSame r r true=true:=by
 unfold recSame
 have h1:(r.cm==r.cm)=true:=by cases r.cm<;>rfl
 simp[keys_self,nums_self,wts_self]
theorem recSelf_any (r:Rc) (g h:Hds) (w:World) (i:RcIn w r g) (j:RcIn w r h):Calls Tryz.prog 78 #[.agg (r.vals g),.agg (r.vals h)] w fun e w'=>e=.returned (.bool true)∧Below w.heap.size w w':=by
 have hR:=rec_any r r g h true w i j fun w' hb=>state_same r.st g.e.A g.f.A h.e.A h.f.A g.e.n g.f.n h.e.n h.f.n g.e.c g.f.c h.e.c h.f.c w' (i.below hb).hs (i.below hb).pn (j.below hb).hs (j.below hb).pn (i.below hb).ne (i.below hb).nf
 rw[rec_self]at hR
 exact hR
def Sn.same (a b:Sn):Bool:=(a.key.toList==b.key.toList)&&decide (a.s=b.s)&&a.v.same b.v
theorem one_any (a b:Sn) (w:World):
 Calls Tryz.prog 75 #[.agg #[.string a.key,.int .i64 a.v.k,.float .f64 a.v.n,.string a.v.t,.int .i64 a.s.w,.int .i64 a.s.l,.int .i64 a.s.n],.agg #[.string b.key,.int .i64 b.v.k,.float .f64 b.v.n,.string b.v.t,.int .i64 b.s.w,.int .i64 b.s.l,.int .i64 b.s.n]] w fun e w'=>e=.returned (.bool (a.same b))∧Below w.heap.size w w':=by
 have z1:=fun w=>sp_run a.s b.s w
 have hv:=fun w=>value_any a.v b.v w
 have HZ:=Lib.hid (show a.same b=((a.key.toList==b.key.toList)&&decide (a.s=b.s)&&a.v.same b.v) from rfl)
 have hX:Below w.heap.size w ((w.alloc (.cells #[.string a.key,.int .i64 a.v.k,.float .f64 a.v.n,.string a.v.t,.int .i64 a.s.w,.int .i64 a.s.l,.int .i64 a.s.n] 104)).alloc (.cells #[.string b.key,.int .i64 b.v.k,.float .f64 b.v.n,.string b.v.t,.int .i64 b.s.w,.int .i64 b.s.l,.int .i64 b.s.n] 104)):=by go_grown
 generalize decide (a.s=b.s)=b1 at*
 generalize a.v.same b.v=b2 at*
 go_enter Tryz.func75,Tryz.ntmps75
 go_wp2_with ((with_reducible refine(hv _).mono ?_);rintro e w1 ⟨rfl,hb1⟩)
 all_goals go_ret
 all_goals refine⟨ret_bool ?_,by first|exact hX.trans (hb1.mono hX.size)|exact hX⟩
 all_goals rw[HZ.out]
 all_goals simp_all
theorem seenS_any (A A':Option Addr) (n n' c c':Nat) (l m:List Sn) (w:World) (h:Sl SnRel 7 w w.heap.size A n l) (h':Sl SnRel 7 w w.heap.size A' n' m) (hn:n≤maxLen) (hn':n'≤maxLen):
 Calls Tryz.prog 35 #[.slice A n c,.slice A' n' c'] w fun e w'=>e=.returned (.bool (sameL Sn.same l m))∧Below w.heap.size w w':=by
 unfold maxLen at hn hn'
 have hl:=h.1
 have hl':=h'.1
 by_cases hne:n=n'
 case neg=>
  have hb0:((n:Int) !=(n':Int))=true:=by simp;omega
  rw[sameL_len l m (by omega)]
  clear hl hl' hne
  go_enter Tryz.func35,Tryz.ntmps35
  go_wp2
  go_ret
  exact⟨rfl,Below.refl _ _⟩
 subst hne
 have hb0:((n:Int) !=(n:Int))=false:=by simp
 have hle:l.length≤n:=by omega
 have hge:n≤l.length:=by omega
 have hle':n≤m.length:=by omega
 have hle2:m.length≤n:=by omega
 clear hl hl'
 go_enter Tryz.func35,Tryz.ntmps35
 go_wp2
 go_loopw [5] (fun i wr=>SameRel Sn.same l m w i wr) (fun i _=>n-(intOf i).toNat)
 case atStart=>exact⟨0,by omega,rfl,rfl,Below.refl _ _⟩
 case round=>
  obtain⟨k,hk,rfl,hs,hb⟩:=hrel
  have hzz:=hb.size
  by_cases hlt:k<n
  · obtain⟨ad,b,o,cs,a,rfl,ha,hq,hbb,hlc,hrg,hR⟩:=((h.below SnRel.kept hb).more SnRel.kept hb.size).mid (by omega) hlt
    obtain⟨ad',b',o',cs',a',rfl,ha',hq',hbb',hlc',hrg',hR'⟩:=((h'.below SnRel.kept hb).more SnRel.kept hb.size).mid (by omega) hlt
    have hd1:decide ((k:Int)<(n:Int))=true:=by simp;omega
    have hk0:(0:Int)≤(k:Int):=by omega
    have hk1:(k:Int)<(n:Int):=by omega
    obtain⟨rfl,ok⟩:=hR
    obtain⟨rfl,ok'⟩:=hR'
    have hE:∀w',Below wr.heap.size wr w'→Calls Tryz.prog 75 #[.agg a.cells.toArray,.agg a'.cells.toArray] w' fun e w''=>e=.returned (.bool (a.same a'))∧Below w'.heap.size w' w'':=fun w' hb=>one_any a a' w'
    rw[sameL_drop ha ha']at hs
    generalize Sn.same a a'=r at*
    have HS:=Lib.hid hs
    clear hs
    clear ha ha'
    go_upto_region 6 with fail
    refine wp_region_held_drew (S:=fun W'=>Below wr.heap.size wr W') (by kernel_rfl) (Below.refl _ _).drew (fun hHeld=>?_)
    have s0:Below wr.heap.size wr wr.drew:=(Below.refl _ _).drew
    refine tc 0 17 ?_
    go_frame
    refine tc 1 18 ?_
    go_frame
    refine tc 2 19 ?_
    go_frame
    refine tl 3 20 rfl (yieldsIf_load_mid (by kernel_rfl) 104 _ rfl b o (by kernel_rfl) a.cells _ (fun w hw j v hj=>(hw.cell (p:=⟨b,o+j,none⟩) hbb).trans (hrg j v hj)) Tryz.underlying104 rfl (by rw[hlc];kernel_rfl)) ?_
    go_frame
    refine tc 4 21 ?_
    go_frame
    refine tc 5 22 ?_
    go_frame
    refine tc 6 23 ?_
    go_frame
    refine tl 7 24 rfl (yieldsIf_load_mid (by kernel_rfl) 104 _ rfl b' o' (by kernel_rfl) a'.cells _ (fun w hw j v hj=>(hw.cell (p:=⟨b',o'+j,none⟩) hbb').trans (hrg' j v hj)) Tryz.underlying104 rfl (by rw[hlc'];kernel_rfl)) ?_
    go_frame
    refine tr 8 rfl (fun K hK=>?_)
    go_simp
    (with_reducible refine(hE _ s0).mono ?_)
    rintro e w1 ⟨rfl,hb1⟩
    have s1:=s0.trans (hb1.mono s0.size)
    refine hK.out _ _ s1 (fun hHeld=>?_)
    clear hK K
    try go_frame
    refine tc 9 26 ?_
    go_frame
    refine td ?_
    have hY:=hb.trans (s1.mono hzz)
    cases r
    · have HF:RowKit.Hid (sameL Sn.same l m=false):=by have:=HS.out;rw[Bool.false_and]at this;exact this.symm
      go_wp2
      go_ret
      rw[HF.out]
      exact⟨rfl,hY⟩
    · have HT:RowKit.Hid (sameL Sn.same (l.drop (k+1)) (m.drop (k+1))=sameL Sn.same l m):=by have:=HS.out;rw[Bool.true_and]at this;exact this
      go_wp2
      go_roundw
      case rel=>exact⟨k+1,by omega,by go_num,HT.out,hY⟩
      case measure=>simp[intOf];omega
  · have hd1:decide ((k:Int)<(n:Int))=false:=by simp;omega
    have HS:=Lib.hid (show sameL Sn.same l m=true by rw[←hs,List.drop_of_length_le (by omega),List.drop_of_length_le (by omega)];rfl)
    clear hs
    go_wp2
    go_ret
    rw[HS.out]
    exact⟨rfl,hb⟩
theorem rangesS_any (A A':Option Addr) (n n' c c':Nat) (l m:List Rg) (w:World) (h:Sl RgRel 4 w w.heap.size A n l) (h':Sl RgRel 4 w w.heap.size A' n' m) (hn:n≤maxLen) (hn':n'≤maxLen):
 Calls Tryz.prog 38 #[.slice A n c,.slice A' n' c'] w fun e w'=>e=.returned (.bool (sameL Rg.same l m))∧Below w.heap.size w w':=by
 unfold maxLen at hn hn'
 have hl:=h.1
 have hl':=h'.1
 by_cases hne:n=n'
 case neg=>
  have hb0:((n:Int) !=(n':Int))=true:=by simp;omega
  rw[sameL_len l m (by omega)]
  clear hl hl' hne
  go_enter Tryz.func38,Tryz.ntmps38
  go_wp2
  go_ret
  exact⟨rfl,Below.refl _ _⟩
 subst hne
 have hb0:((n:Int) !=(n:Int))=false:=by simp
 have hle:l.length≤n:=by omega
 have hge:n≤l.length:=by omega
 have hle':n≤m.length:=by omega
 have hle2:m.length≤n:=by omega
 clear hl hl'
 go_enter Tryz.func38,Tryz.ntmps38
 go_wp2
 go_loopw [5] (fun i wr=>SameRel Rg.same l m w i wr) (fun i _=>n-(intOf i).toNat)
 case atStart=>exact⟨0,by omega,rfl,rfl,Below.refl _ _⟩
 case round=>
  obtain⟨k,hk,rfl,hs,hb⟩:=hrel
  have hzz:=hb.size
  by_cases hlt:k<n
  · obtain⟨ad,b,o,cs,a,rfl,ha,hq,hbb,hlc,hrg,hR⟩:=((h.below RgRel.kept hb).more RgRel.kept hb.size).mid (by omega) hlt
    obtain⟨ad',b',o',cs',a',rfl,ha',hq',hbb',hlc',hrg',hR'⟩:=((h'.below RgRel.kept hb).more RgRel.kept hb.size).mid (by omega) hlt
    have hd1:decide ((k:Int)<(n:Int))=true:=by simp;omega
    have hk0:(0:Int)≤(k:Int):=by omega
    have hk1:(k:Int)<(n:Int):=by omega
    obtain⟨rfl,ok⟩:=hR
    obtain⟨rfl,ok'⟩:=hR'
    have hE:∀w',Below wr.heap.size wr w'→Calls Tryz.prog 77 #[.agg a.cells.toArray,.agg a'.cells.toArray] w' fun e w''=>e=.returned (.bool (a.same a'))∧Below w'.heap.size w' w'':=fun w' hb=>range_any a a' w'
    rw[sameL_drop ha ha']at hs
    generalize Rg.same a a'=r at*
    have HS:=Lib.hid hs
    clear hs
    clear ha ha'
    go_upto_region 6 with fail
    refine wp_region_held_drew (S:=fun W'=>Below wr.heap.size wr W') (by kernel_rfl) (Below.refl _ _).drew (fun hHeld=>?_)
    have s0:Below wr.heap.size wr wr.drew:=(Below.refl _ _).drew
    refine tc 0 17 ?_
    go_frame
    refine tc 1 18 ?_
    go_frame
    refine tc 2 19 ?_
    go_frame
    refine tl 3 20 rfl (yieldsIf_load_mid (by kernel_rfl) 35 _ rfl b o (by kernel_rfl) a.cells _ (fun w hw j v hj=>(hw.cell (p:=⟨b,o+j,none⟩) hbb).trans (hrg j v hj)) Tryz.underlying35 rfl (by rw[hlc];kernel_rfl)) ?_
    go_frame
    refine tc 4 21 ?_
    go_frame
    refine tc 5 22 ?_
    go_frame
    refine tc 6 23 ?_
    go_frame
    refine tl 7 24 rfl (yieldsIf_load_mid (by kernel_rfl) 35 _ rfl b' o' (by kernel_rfl) a'.cells _ (fun w hw j v hj=>(hw.cell (p:=⟨b',o'+j,none⟩) hbb').trans (hrg' j v hj)) Tryz.underlying35 rfl (by rw[hlc'];kernel_rfl)) ?_
    go_frame
    refine tr 8 rfl (fun K hK=>?_)
    go_simp
    (with_reducible refine(hE _ s0).mono ?_)
    rintro e w1 ⟨rfl,hb1⟩
    have s1:=s0.trans (hb1.mono s0.size)
    refine hK.out _ _ s1 (fun hHeld=>?_)
    clear hK K
    try go_frame
    refine tc 9 26 ?_
    go_frame
    refine td ?_
    have hY:=hb.trans (s1.mono hzz)
    cases r
    · have HF:RowKit.Hid (sameL Rg.same l m=false):=by have:=HS.out;rw[Bool.false_and]at this;exact this.symm
      go_wp2
      go_ret
      rw[HF.out]
      exact⟨rfl,hY⟩
    · have HT:RowKit.Hid (sameL Rg.same (l.drop (k+1)) (m.drop (k+1))=sameL Rg.same l m):=by have:=HS.out;rw[Bool.true_and]at this;exact this
      go_wp2
      go_roundw
      case rel=>exact⟨k+1,by omega,by go_num,HT.out,hY⟩
      case measure=>simp[intOf];omega
  · have hd1:decide ((k:Int)<(n:Int))=false:=by simp;omega
    have HS:=Lib.hid (show sameL Rg.same l m=true by rw[←hs,List.drop_of_length_le (by omega),List.drop_of_length_le (by omega)];rfl)
    clear hs
    go_wp2
    go_ret
    rw[HS.out]
    exact⟨rfl,hb⟩
theorem recsS_any (A A':Option Addr) (n n' c c':Nat) (l:List Rc) (w:World) (h:Sl RmRel 29 w w.heap.size A n l) (h':Sl RmRel 29 w w.heap.size A' n' l) (hn:n≤maxLen) (hn':n'≤maxLen):
 Calls Tryz.prog 39 #[.slice A n c,.slice A' n' c'] w fun e w'=>e=.returned (.bool (true))∧Below w.heap.size w w':=by
 unfold maxLen at hn hn'
 have hl:=h.1
 have hl':=h'.1
 obtain rfl:n=n':=hl.symm.trans hl'
 have hb0:((n:Int) !=(n:Int))=false:=by simp
 have hle:l.length≤n:=by omega
 have hge:n≤l.length:=by omega
 clear hl hl'
 go_enter Tryz.func39,Tryz.ntmps39
 go_wp2
 go_loopw [5] (fun i wr=>AllOf l w i wr) (fun i _=>n-(intOf i).toNat)
 case atStart=>exact⟨0,by omega,rfl,Below.refl _ _⟩
 case round=>
  obtain⟨k,hk,rfl,hb⟩:=hrel
  have hzz:=hb.size
  by_cases hlt:k<n
  · obtain⟨ad,b,o,cs,a,rfl,ha,hq,hbb,hlc,hrg,hR⟩:=((h.below RmRel.kept hb).more RmRel.kept hb.size).mid (by omega) hlt
    obtain⟨ad',b',o',cs',a',rfl,ha',hq',hbb',hlc',hrg',hR'⟩:=((h'.below RmRel.kept hb).more RmRel.kept hb.size).mid (by omega) hlt
    have hd1:decide ((k:Int)<(n:Int))=true:=by simp;omega
    have hk0:(0:Int)≤(k:Int):=by omega
    have hk1:(k:Int)<(n:Int):=by omega
    obtain rfl:a=a':=Option.some.inj (ha.symm.trans ha')
    obtain⟨g,rfl,ok,cp,i⟩:=hR
    obtain⟨g',rfl,ok',cp',i'⟩:=hR'
    have hE:∀w',Below wr.heap.size wr w'→Calls Tryz.prog 78 #[.agg (a.vals g).toList.toArray,.agg (a.vals g').toList.toArray] w' fun e w''=>e=.returned (.bool true)∧Below w'.heap.size w' w'':=fun w' hb=>recSelf_any a g g' w' (RcIn.below ⟨i.rd,i.wr,i.ps,i.pr,i.hs,i.pn,i.na,i.nb,i.nc,i.nd,i.ne,i.nf⟩ hb) (RcIn.below ⟨i'.rd,i'.wr,i'.ps,i'.pr,i'.hs,i'.pn,i'.na,i'.nb,i'.nc,i'.nd,i'.ne,i'.nf⟩ hb)
    clear i i' ok ok' cp cp'
    clear ha ha'
    go_upto_region 6 with fail
    refine wp_region_held_drew (S:=fun W'=>Below wr.heap.size wr W') (by kernel_rfl) (Below.refl _ _).drew (fun hHeld=>?_)
    have s0:Below wr.heap.size wr wr.drew:=(Below.refl _ _).drew
    refine tc 0 17 ?_
    go_frame
    refine tc 1 18 ?_
    go_frame
    refine tc 2 19 ?_
    go_frame
    refine tl 3 20 rfl (yieldsIf_load_mid (by kernel_rfl) 69 _ rfl b o (by kernel_rfl) (a.vals g).toList _ (fun w hw j v hj=>(hw.cell (p:=⟨b,o+j,none⟩) hbb).trans (hrg j v hj)) Tryz.underlying69 rfl (by rw[hlc];kernel_rfl)) ?_
    go_frame
    refine tc 4 21 ?_
    go_frame
    refine tc 5 22 ?_
    go_frame
    refine tc 6 23 ?_
    go_frame
    refine tl 7 24 rfl (yieldsIf_load_mid (by kernel_rfl) 69 _ rfl b' o' (by kernel_rfl) (a.vals g').toList _ (fun w hw j v hj=>(hw.cell (p:=⟨b',o'+j,none⟩) hbb').trans (hrg' j v hj)) Tryz.underlying69 rfl (by rw[hlc'];kernel_rfl)) ?_
    go_frame
    refine tr 8 rfl (fun K hK=>?_)
    go_simp
    (with_reducible refine(hE _ s0).mono ?_)
    rintro e w1 ⟨rfl,hb1⟩
    have s1:=s0.trans (hb1.mono s0.size)
    refine hK.out _ _ s1 (fun hHeld=>?_)
    clear hK K
    try go_frame
    refine tc 9 26 ?_
    go_frame
    refine td ?_
    have hY:=hb.trans (s1.mono hzz)
    go_wp2
    go_roundw
    case rel=>exact⟨k+1,by omega,by go_num,hY⟩
    case measure=>simp[intOf];omega
  · have hd1:decide ((k:Int)<(n:Int))=false:=by simp;omega
    go_wp2
    go_ret
    exact⟨rfl,hb⟩
end Go.Proofs.YtcalkfgibflbnaaGreat
