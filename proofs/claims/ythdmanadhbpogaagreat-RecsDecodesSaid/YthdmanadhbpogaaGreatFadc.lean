/- The walks of CopyInts and CopyRec. -/
import Derived.WalkLawsBesides
import Derived.Test.YthdmanadhbpogaaGreatFaab
import Derived.Test.YthdmanadhbpogaaGreatFaac
import Derived.Test.YthdmanadhbpogaaGreatFaae
import Derived.Test.YthdmanadhbpogaaGreatFaaf
import Derived.Test.YthdmanadhbpogaaGreatFaag
import Derived.Test.YthdmanadhbpogaaGreatFacc
import Derived.Test.YthdmanadhbpogaaGreatFacd
import Derived.Test.YthdmanadhbpogaaGreatFada
import Derived.Test.YthdmanadhbpogaaGreatFadb
namespace Go.Proofs.YthdmanadhbpogaaGreat
set_option maxHeartbeats 8000000
set_option maxRecDepth 100000
set_option linter.unusedVariables false
open Go.RowKit Fl
attribute [local go_sem] run_store_float
theorem nm_info:(Tryz.prog.info? 3).map (fun i=>(i.zero,i.size,i.bytes))=some (some (.int .i64 0),1,8):=by kernel_rfl
theorem ints_any (A:Option Addr) (n c:Nat) (l:List Int) (w:World) (h:Sl NmRel 1 w w.heap.size A n l) (hn:n≤1000000):
 Calls Tryz.prog 39 #[.slice A n c] w fun e w'=>∃v,e=.returned v∧OwnL nmCells 3 1 w.heap.size w' v l∧Below w.heap.size w w':=by
 obtain⟨i0,hi0,hz0,hz1,hz2⟩:=info_parts nm_info
 have hl:=h.1
 have hle:l.length≤n:=by omega
 have hge:n≤l.length:=by omega
 clear hl
 go_enter Tryz.func39,Tryz.ntmps39
 go_wp2
 go_loopw [3,4] (fun v i wr=>CopyRel nmCells 3 1 l w v i wr) (fun _ i _=>n-(intOf i).toNat)
 case atStart=>exact⟨0,by omega,rfl,OwnL.nil _,Below.refl _ _⟩
 case round=>
  obtain⟨k,hk,rfl,ho,hb⟩:=hrel
  have hzz:=hb.size
  by_cases hlt:k<n
  · obtain⟨ad,a,rfl,ha,hbk,hok,c0⟩:=(h.below NmRel.kept hb).nm hlt
    have hd1:decide ((k:Int)<(n:Int))=true:=by simp;omega
    have hk0:(0:Int)≤(k:Int):=by omega
    have hk1:(k:Int)<(n:Int):=by omega
    have HS:=Lib.hid (show l.take (k+1)=l.take k++[a] by rw[List.take_add_one,ha];rfl)
    have hln:(l.take k).length≤1000000:=by simp;omega
    clear ha
    obtain⟨A1,q1,rfl,hq1,hq1m⟩:=ho.form
    generalize l.take k=ks at*
    have hX:Below wr.heap.size wr (wr.alloc (.cells (nmCells a).toArray 3)):=(Below.refl _ _).alloc (Nat.le_refl _) _
    have hown0:=ho.below hX
    have hrd0:=reads_new' wr 3 (nmCells a) 1 rfl
    go_wp2_with (first
        |(at_builtin
          refine wpList_append_any _ rfl (.tmp 11) (.tmp 16) _ rfl w.heap.size 3 i0 _ 1 8 Tryz.underlying29 hi0 hz0 hz1 hz2 rfl (by omega) (.slice A1 ks.length q1) _ (ks.flatMap nmCells) (by rfl) hown0 _ (some ⟨wr.heap.size,0,none⟩) 1 1 (nmCells a) (by rfl)
           hrd0 (nm_one a) (by unfold maxLen;omega) (by omega) (by simp;omega) ?_
          intro v3 w3 hown3 hg3 hat3
          obtain⟨A3,q3,rfl,hq3,hq3m⟩:=own_form hown3))
    have hp:=OwnL.push a hown3
    have hbw:=(hb.trans (hX.mono hzz)).grown hg3 (by simp;omega) (fun q hq=>(hown0.lt q hq).1)
    go_roundw
    case rel=>
        refine⟨k+1,by omega,by go_num,?_,hbw⟩
        rw[HS.out]
        exact hp
    case measure=>simp[intOf];omega
  · have hd1:decide ((k:Int)<(n:Int))=false:=by simp;omega
    rw[List.take_of_length_le (by omega)]at ho
    obtain⟨A1,q1,rfl,hq1,hq1m⟩:=ho.form
    go_wp2
    go_ret
    exact⟨_,rfl,ho,hb⟩
def setA:Array Value→Nat→List Value→Array Value
 |cs,_,[]=>cs
 |cs,o,v::vs=>setA (cs.setIfInBounds o v) (o+1) vs
theorem Blk.setCells {g:Nat} {t:TypeId}:∀(vs:List Value) (o:Nat) (w:World) (cs:Array Value),Blk w g t cs→Blk (w.setCells g o vs) g t (setA cs o vs):=by
 intro vs
 induction vs with
 |nil=>intro o w cs h;exact h
 |cons v vs ih=>intro o w cs h;exact ih (o+1) _ _ (h.set_ o v)
theorem HdRel.hd {α:Type} {R:Rel α} {size:Nat} {w:World} {B:Nat} {A:Option Addr} {n c:Nat} {l:List α} (h:HdRel R size w B (.slice A n c) l):Sl R size w B A n l∧n≤c∧c≤maxLen:=by
 obtain⟨A',n',c',e,h1,h2,h3⟩:=h
 injection e with a1 a2 a3
 subst a1 a2 a3
 exact⟨h3,h1,h2⟩
end Go.Proofs.YthdmanadhbpogaaGreat
