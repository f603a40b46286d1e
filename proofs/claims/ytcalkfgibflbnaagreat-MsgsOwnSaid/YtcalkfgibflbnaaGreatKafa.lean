/- The walks of a coder that reads and meets no fault: numbers, numbers of transactions. -/
import Derived.Test.YtcalkfgibflbnaaGreatKaab
import Derived.Test.YtcalkfgibflbnaaGreatKaag
namespace Go.Proofs.YtcalkfgibflbnaaGreat
set_option maxHeartbeats 1000000
set_option maxRecDepth 100000
set_option linter.unusedVariables false
open Go.RowKit Fl
attribute [local go_sem] run_store_float
structure CR (w:World) (g:Nat) (A:Option Addr) (n c:Nat) (l:List UInt8) (s:RS) (gc:Nat):Prop where
 rd:Rd 153 w g A n c l s
 blk:Blk w gc 87 #[.pointer none,.pointer (some ⟨g,0,none⟩)]
 ne:gc≠g
 ad:∀a,A=some a→0<n→a.block≠gc
structure Two2 (w w':World) (g b:Nat):Prop where
 os:w'.os=w.os
 tape:w'.tape=w.tape
 output:w'.output=w.output
 size:w.heap.size≤w'.heap.size
 block:∀k,k<w.heap.size→k≠g→k≠b→w'.heap[k]?=w.heap[k]?
theorem Two2.trans {w w1 w2:World} {g b:Nat} (h:Two2 w w1 g b) (k:Two2 w1 w2 g b):Two2 w w2 g b:=
 ⟨k.os.trans h.os,k.tape.trans h.tape,k.output.trans h.output,Nat.le_trans h.size k.size,fun i hi h1 h2=>(k.block i (Nat.lt_of_lt_of_le hi h.size) h1 h2).trans (h.block i hi h1 h2)⟩
theorem Two2.below {w w':World} {g b B:Nat} (h:Two2 w w' g b) (hg:B≤g) (hb:B≤b) (hB:B≤w.heap.size):Below B w w':=
 ⟨h.os,h.tape,h.output,h.size,fun k hk=>h.block k (by omega) (by omega) (by omega)⟩
theorem Two2.ofBelow {w w':World} (g b:Nat) (h:Below w.heap.size w w'):Two2 w w' g b:=⟨h.os,h.tape,h.output,h.size,fun k hk _ _=>h.block k hk⟩
theorem CR.below {w w':World} {g gc:Nat} {A:Option Addr} {n c:Nat} {l:List UInt8} {s:RS} (h:CR w g A n c l s gc) (hb:Below w.heap.size w w'):CR w' g A n c l s gc:=
 ⟨h.rd.below hb,h.blk.below hb h.blk.lt,h.ne,h.ad⟩
theorem look_ok (w:World) (g:Nat) (A:Option Addr) (n c:Nat) (l:List UInt8) (s:RS) (gc:Nat) (h:CR w g A n c l s gc) (hs:s.e=0):
 Calls Tryz.prog 129 #[.pointer (some ⟨gc,0,none⟩)] w fun e w'=>e=.returned (.tuple #[])∧∃q,w.drewN q=w':=by
 have c1:=cl (h.blk.cell 1)
 have hF:=wRFault g A n c l s w h.rd
 rw[hs]at hF
 go_enter Tryz.func129,Tryz.ntmps129
 go_wp2_with ((with_reducible refine hF.mono ?_);rintro e w1 ⟨rfl,q,rfl⟩)
 go_end0
 exact⟨rfl,q,rfl⟩
theorem rcInt_ok (w:World) (g:Nat) (A:Option Addr) (n c:Nat) (l:List UInt8) (s s':RS) (v:Int) (gc b i:Nat) (t:TypeId) (cs:Array Value) (old:Int) (h:CR w g A n c l s gc) (hb:Blk w b t cs) (ho:cs[i]?=some (.int .i64 old))
 (h1:b≠g) (h2:b≠gc) (h3:∀a,A=some a→0<n→a.block≠b) (hr:rInt l s=(v,s')) (hs:s'.e=0):
 Calls Tryz.prog 81 #[.pointer (some ⟨gc,0,none⟩),.pointer (some ⟨b,i,none⟩)] w fun e w'=>e=.returned (.tuple #[])∧CR w' g A n c l s' gc∧Blk w' b t (cs.setIfInBounds i (.int .i64 v))∧Two2 w w' g b:=by
 have c0:=cl (h.blk.cell 0)
 have c1:=cl (h.blk.cell 1)
 have hI:=wRInt g A n c l s w h.rd
 rw[hr]at hI
 go_enter Tryz.func81,Tryz.ntmps81
 go_wp2_with fail
 refine hI.mono ?_
 rintro e w1 ⟨rfl,hrd,hg⟩
 have k1:Blk w1 b t cs:=hb.grown hg (by intro e;exact h1 (by injection e))
 have z1:w1.cell? ⟨b,i,none⟩=some (.int .i64 old):=(k1.cell i).trans ho
 have f1:=k1.frozen i
 have hgc:Blk w1 gc 87 #[.pointer none,.pointer (some ⟨g,0,none⟩)]:=h.blk.grown hg (by intro e;exact h.ne (by injection e))
 have hgs:w1.grownBy (w1.setCell ⟨b,i,none⟩ (.int .i64 v)) (some b):=grown_set _ _ _ _
 have hc2:CR (w1.setCell ⟨b,i,none⟩ (.int .i64 v)) g A n c l s' gc:=⟨hrd.far hgs (fun e=>h1 e.symm) h3,hgc.far (p:=⟨b,i,none⟩) (fun e=>h2 e.symm) _,h.ne,h.ad⟩
 have k2:=k1.set_ i (.int .i64 v)
 go_wp2_with fail
 refine(look_ok _ g A n c l s' gc hc2 hs).mono ?_
 rintro e w2 ⟨rfl,q,rfl⟩
 go_wp2
 go_end0
 have hD:Below (w1.setCell ⟨b,i,none⟩ (.int .i64 v)).heap.size (w1.setCell ⟨b,i,none⟩ (.int .i64 v)) ((w1.setCell ⟨b,i,none⟩ (.int .i64 v)).drewN q):=belowN _
 refine⟨rfl,hc2.below hD,k2.below hD k2.lt,?_⟩
 have t1:Two2 w w1 g b:=⟨hg.os,hg.tape,hg.output,hg.size,fun k hk h4 _=>hg.block k hk (by intro e;exact h4 (by injection e))⟩
 have t2:Two2 w1 (w1.setCell ⟨b,i,none⟩ (.int .i64 v)) g b:=⟨hgs.os,hgs.tape,hgs.output,hgs.size,fun k hk _ h5=>hgs.block k hk (by intro e;exact h5 (by injection e))⟩
 exact(t1.trans t2).trans (Two2.ofBelow g b hD)
end Go.Proofs.YtcalkfgibflbnaaGreat
