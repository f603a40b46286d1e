/- Words of a coder that reads lists: what holds at a round's head, what a round leaves. Plain lemmas. -/
import Derived.Test.YtcalkfgibflbnaaGreatDaag
namespace Go.Proofs.YtcalkfgibflbnaaGreat
set_option linter.unusedVariables false
open Go.RowKit Fl
structure LFix (w:World) (g:Nat) (A:Option Addr) (n gc b:Nat):Prop where
 gl:g<w.heap.size
 cl:gc<w.heap.size
 bl:b<w.heap.size
 al:∀a,A=some a→0<n→a.block<w.heap.size
 ng:b≠g
 nc:b≠gc
 ap:∀a,A=some a→0<n→a.block≠b
theorem CR.fix {w:World} {g:Nat} {A:Option Addr} {n c:Nat} {l:List UInt8} {s:RS} {gc b:Nat} {t:TypeId} {cs:Array Value} {i:Nat} {z:List Value} (h:CR w g A n c l s gc) (D:Dst w A n g gc b t cs i z):LFix w g A n gc b:=
 ⟨h.rd.blk.lt,h.blk.lt,D.blk.lt,fun a ha hn=>by
  obtain⟨ad,e,hlt,_⟩:=h.rd.reads.2 hn
  rw[ha]at e
  obtain rfl:=Option.some.inj e
  exact hlt,D.ng,D.nc,D.ap⟩
theorem CR.low {w w':World} {g:Nat} {A:Option Addr} {n c:Nat} {l:List UInt8} {s:RS} {gc B:Nat} (h:CR w g A n c l s gc) (hb:Below B w w') (hg:g<B) (hc:gc<B) (ha:∀a,A=some a→0<n→a.block<B):CR w' g A n c l s gc:=
 ⟨⟨h.rd.blk.below hb hg,⟨h.rd.reads.1,fun hn=>by
  obtain⟨ad,e,hlt,hx⟩:=h.rd.reads.2 hn
  exact⟨ad,e,Nat.lt_of_lt_of_le hlt hb.size,fun j u hu=>(hb.cell (by rw[block_of_add];exact ha ad e hn)).trans (hx j u hu)⟩⟩,h.rd.len,h.rd.small,h.rd.apart,h.rd.at_le,h.rd.nc,h.rd.cm⟩,h.blk.below hb hc,h.ne,h.ad⟩
structure LInv {α:Type} (R:Rel α) (E size:Nat) (f:Rdf α) (w:World) (g:Nat) (A:Option Addr) (n c:Nat) (l:List UInt8) (gc b:Nat) (t:TypeId) (cs:Array Value) (i N:Nat) (s1:RS) (k:Nat) (L:List α) (sk:RS) (v:Value) (wr:World):Prop where
 hk:k≤N
 len:L.length=k
 cr:CR wr g A n c l sk gc
 e:sk.e=0
 blk:Blk wr b t (put cs i [v])
 row:Single R E size w.heap.size wr v L
 two:Two2 w wr g b
 eq:rLoop f l N s1=(L++(rLoop f l (N-k) sk).1,(rLoop f l (N-k) sk).2)
section
variable {α:Type} {R:Rel α} {E size:Nat} {f:Rdf α} {w:World} {g:Nat} {A:Option Addr} {n c:Nat} {l:List UInt8} {gc b:Nat} {t:TypeId} {cs:Array Value} {i N:Nat} {s1 sk:RS} {k:Nat} {L:List α} {v:Value} {wr:World}
theorem LInv.start (hc:CR wr g A n c l s1 gc) (he:s1.e=0) (hb:Blk wr b t (put cs i [.slice none 0 0])) (ht:Two2 w wr g b):LInv R E size f w g A n c l gc b t cs i N s1 0 [] s1 (.slice none 0 0) wr:=
 ⟨Nat.zero_le _,rfl,hc,he,hb,Single.nil _,ht,by simp⟩
theorem LInv.done (hm:R.Mono) (hsz:0<size) (h:LInv R E size f w g A n c l gc b t cs i N s1 k L sk v wr) (hk:¬k<N):RPost (LsRel R size) 1 w g A n c l gc b t cs i (rLoop f l N s1) (.returned (.tuple #[])) wr:=by
 obtain rfl:N=k:=by have:=h.hk;omega
 have he:rLoop f l N s1=(L,sk):=by
  rw[h.eq,Nat.sub_self]
  show (L++[],sk)=_
  rw[List.append_nil]
 rw[he]
 exact⟨h.cr,h.two,.inl ⟨h.e,rfl,[v],rfl,h.blk,h.row.inn hm hsz⟩⟩
structure LBad (w:World) (g b:Nat) (t:TypeId) (cs:Array Value) (i:Nat) (v':Value) (x s':RS) (w7:World):Prop where
 e:s'.e≠0
 eq:x=s'
 two:Two2 w w7 g b
 blk:Blk w7 b t (put cs i [v'])
theorem LBad.post {x:List α×RS} {s':RS} {v':Value} {w7:World} (h:LBad w g b t cs i v' x.2 s' w7) (hc:CR w7 g A n c l s' gc):RPost (LsRel R size) 1 w g A n c l gc b t cs i x stopP w7:=RPost.bad (s':=s') h.eq h.e hc h.two (by rw[put_size]) h.blk
theorem LBad.m {x:List α×RS} {s':RS} {v':Value} {w7:World} (h:LBad w g b t cs i v' x.2 s' w7):RPostM (LsRel R size) 1 w g A n c l gc b t cs i x stopP w7:=.inr ⟨by rw[h.eq];exact h.e,rfl,h.two,_,by rw[put_size],h.blk⟩
theorem LInv.round {z:List Value} {X:World} (hR:R.Kept) (hm:R.Mono) (fx:LFix w g A n gc b) (h:LInv R E size f w g A n c l gc b t cs i N s1 k L sk v wr) (hlt:k<N) (hi:i<cs.size) (hz:z.length=size) (hX:Below wr.heap.size wr X):∃xs,X.ownsRow w.heap.size E size v L.length xs∧
 ∀(v':Value) (w5:World),w5.ownsRow w.heap.size E size v' (L.length+1) (xs++z)→X.grownBy w5 v.ownBlock→(v'.ownBlock=v.ownBlock∨v'.ownBlock=some X.heap.size)→
  w5.cell? ⟨b,i,none⟩=some v∧w5.frozen? ⟨b,i,none⟩=false∧∃rb cap cur,v'=.slice (some ⟨rb,0,none⟩) (k+1) cap∧(w5.setCell ⟨b,i,none⟩ v').cell? ⟨b,i,none⟩=some v'∧
        CR (w5.setCell ⟨b,i,none⟩ v') g A n c l sk gc∧Dst (w5.setCell ⟨b,i,none⟩ v') A n g gc rb E cur (k*size) z∧Two2 w (w5.setCell ⟨b,i,none⟩ v') g b∧
        ∀e w7,RPostM R size (w5.setCell ⟨b,i,none⟩ v') g A n c l gc rb E cur (k*size) (f l sk) e w7→
         (e=.returned (.tuple #[])∧LInv R E size f w g A n c l gc b t cs i N s1 (k+1) (L++[(f l sk).1]) (f l sk).2 v' w7)∨(e=stopP∧LBad w g b t cs i v' (rLoop f l N s1).2 (f l sk).2 w7):=by
 have hzz:=h.two.size
 have hXz:=hX.size
 have hXB:Below w.heap.size wr X:=hX.mono hzz
 have hrowX:Single R E size w.heap.size X v L:=Pair.below hR hm h.row hX
 obtain⟨xs,hown,hpush⟩:=Single.push hR hm hrowX
 refine⟨xs,hown,fun v' w5 hown5 hg5 hat=>?_⟩
 have h5z:=hg5.size
 have hB5:Below w.heap.size wr w5:=hXB.grown hg5 (by omega) (fun q hq=>(hown.lt q hq).1)
 have hb5:Blk w5 b t (put cs i [v]):=h.blk.below hB5 fx.bl
 have hc5:=h.cr.low hB5 fx.gl fx.cl fx.al
 have hvb:∀q,v'.ownBlock=some q→w.heap.size≤q∧q<w5.heap.size:=hown5.lt
 have hown6:(w5.setCell ⟨b,i,none⟩ v').ownsRow w.heap.size E size v' (L.length+1) (xs++z):=hown5.kept (grown_set w5 b i v') (.inr fun e=>by have:=(hvb b e).1;have:=fx.bl;omega)
 have hb6:Blk (w5.setCell ⟨b,i,none⟩ v') b t (put cs i [v']):=by
  have:=hb5.set_ i v'
  have e:(put cs i [v]).setIfInBounds i v'=put cs i [v']:=by
   show (cs.setIfInBounds i v).setIfInBounds i v'=cs.setIfInBounds i v'
   exact Array.setIfInBounds_setIfInBounds _
  rwa [e]at this
 have hc6:CR (w5.setCell ⟨b,i,none⟩ v') g A n c l sk gc:=hc5.laid (grown_set w5 b i v') fx.ng fx.nc fx.ap
 have hp1:(put cs i [v])[i]?=some v:=put_in [v] cs i 0 v rfl (by simp;omega)
 have hp2:(put cs i [v'])[i]?=some v':=put_in [v'] cs i 0 v' rfl (by simp;omega)
 refine⟨(hb5.cell i).trans hp1,hb5.frozen i,?_⟩
 rw[h.len]at hown6
 obtain⟨rb,cap,cur,rfl,hrb,kb,hzc,hput⟩:=own_last hown6 hz
 have h6z:(w5.setCell ⟨b,i,none⟩ (.slice (some ⟨rb,0,none⟩) (k+1) cap)).heap.size=w5.heap.size:=by simp[World.setCell]
 have hrbl:=(hvb rb rfl).2
 have f1:=fx.gl
 have f2:=fx.cl
 have f3:=fx.bl
 refine⟨rb,cap,cur,rfl,(hb6.cell i).trans hp2,hc6,⟨kb,hzc,by omega,by omega,fun a ha hn=>by have:=fx.al a ha hn;omega⟩,⟨hB5.os.trans h.two.os,hB5.tape.trans h.two.tape,hB5.output.trans h.two.output,by omega,fun q hq h1 h2=>(Below.heap_setCell _ _ _ _ h2).trans ((hB5.block q hq).trans (h.two.block q hq h1 h2))⟩,?_⟩
 rintro e w7 h8
 have t7:Two2 (w5.setCell ⟨b,i,none⟩ (.slice (some ⟨rb,0,none⟩) (k+1) cap)) w7 g rb:=by
  rcases h8 with h|h
  · exact h.2.1
  · exact h.2.2.1
 have t7z:=t7.size
 rw[h6z]at t7z
 have hblk:∀q,q<w5.heap.size→q≠g→q≠b→q≠rb→w7.heap[q]?=w5.heap[q]?:=fun q h1 h2 h3 h4=>(t7.block q (by rw[h6z];exact h1) h2 h4).trans (Below.heap_setCell _ _ _ _ h3)
 have two7:Two2 w w7 g b:=⟨t7.os.trans (hB5.os.trans h.two.os),t7.tape.trans (hB5.tape.trans h.two.tape),t7.output.trans (hB5.output.trans h.two.output),by omega,fun q hq h1 h2=>
  (hblk q (by omega) h1 h2 (by omega)).trans ((hB5.block q hq).trans (h.two.block q hq h1 h2))⟩
 have hb7:Blk w7 b t (put cs i [.slice (some ⟨rb,0,none⟩) (k+1) cap]):=(t7.block b (by rw[h6z];omega) fx.ng (by omega)).trans hb6
 have hnx:=rLoop_next f l (k:=N-k) (s:=sk) (by omega) h.e
 rcases h8 with ⟨h7,-,he,rfl,vs,hvl,hk7,hin⟩|⟨he,rfl,-,cs',hcl,hk7⟩
 · refine .inl ⟨rfl,by omega,by rw[List.length_append,h.len];rfl,h7,he,hb7,?_,two7,?_⟩
   · rw[h6z]at hin
     refine hpush vs _ w5 w7 _ rb hvl (by rw[h.len];exact hput w7 vs hvl hk7) hg5 hat rfl hrbl (fun q h1 h2 h3=>hblk q h2 (by omega) (by omega) h3) t7z (lo:=w5.heap.size) (Nat.le_refl _) hin (by omega)
   · rw[h.eq,hnx,List.append_assoc]
     have e1:N-k-1=N-(k+1):=by omega
     rw[e1];rfl
 · refine .inr ⟨rfl,he,?_,two7,hb7⟩
   rw[h.eq,hnx]
   show (rLoop f l (N-k-1) (f l sk).2).2=_
   rw[rLoop_stk f l _ _ he]
end
def LHead {α:Type} (R:Rel α) (E size:Nat) (f:Rdf α) (w:World) (g:Nat) (A:Option Addr) (n c:Nat) (l:List UInt8) (gc b:Nat) (t:TypeId) (cs:Array Value) (i N:Nat) (s1:RS) (iv:Value) (wr:World):Prop:=
 ∃(k:Nat) (L:List α) (sk:RS) (v:Value),iv=.int .i64 (k:Int)∧LInv R E size f w g A n c l gc b t cs i N s1 k L sk v wr
end Go.Proofs.YtcalkfgibflbnaaGreat
