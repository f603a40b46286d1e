/- Plain: what is read without a fault, written, is what was read; more bytes behind it turn nothing; how many there may be. -/
import Derived.Test.YthdmanadhbpogaaGreatDaah
import Derived.Test.YthdmanadhbpogaaGreatDaaj
import Derived.Test.YthdmanadhbpogaaGreatDabg
import Derived.Test.YthdmanadhbpogaaGreatDacc
namespace Go.Proofs.YthdmanadhbpogaaGreat
set_option linter.unusedVariables false
open Go.RowKit Fl
theorem leW_leV:∀bs:List UInt8,leW bs.length (leV bs)=bs:=by
 intro bs
 induction bs with
 |nil=>rfl
 |cons c t ih=>
  have hc:=c.toNat_lt
  show ((c.toNat+256*leV t)%256).toUInt8::leW t.length ((c.toNat+256*leV t)/256)=c::t
  have e1:(c.toNat+256*leV t)%256=c.toNat:=by omega
  have e2:(c.toNat+256*leV t)/256=leV t:=by omega
  rw[e1,e2,ih]
  congr 1
  apply UInt8.toNat_inj.1
  show c.toNat%256=_
  omega
theorem take_on {b enc:List UInt8} {a next:Nat} (h:b.drop a=enc++b.drop next) (hn:next=a+enc.length):b.take next=b.take a++enc:=by
 have e:b.take next=b.take a++(b.drop a).take (next-a):=by
  rw[hn,List.take_add,Nat.add_sub_cancel_left]
 rw[e,h,hn,Nat.add_sub_cancel_left,List.take_append_of_le_length (Nat.le_refl _),List.take_of_length_le (Nat.le_refl _)]
theorem rFail_bad {s:RS} {e:Int} {q:Nat} (he:e≠0):(rFail s e q).e≠0:=by
 unfold rFail
 split
 · exact he
 · rename_i h
   intro h0
   exact h ⟨h0,he⟩
def RdEnc {α:Type} (f:Rdf α) (enc:α→List UInt8):Prop:=∀l s,s.at_≤l.length→(f l s).2.e=0→(f l s).2.at_≤l.length∧l.take (f l s).2.at_=l.take s.at_++enc (f l s).1
def RdMore {α:Type} (f:Rdf α):Prop:=∀l m s,s.at_≤l.length→(f l s).2.e=0→f (l++m) s=f l s
theorem grp_more:∀(x m bs:List UInt8),grp x=some bs→grp (x++m)=some bs:=by
 intro x
 induction x with
 |nil=>intro m bs h;cases h
 |cons c t ih=>
  intro m bs h
  by_cases hc:c.toNat<128
  · have e:grp (c::t)=some [c]:=by show (if _ then _ else _)=_;rw[if_pos hc]
    have e2:grp (c::(t++m))=some [c]:=by show (if _ then _ else _)=_;rw[if_pos hc]
    rw[e]at h
    rw[List.cons_append,e2,h]
  · have e:grp (c::t)=(grp t).map (c:: ·):=by show (if _ then _ else _)=_;rw[if_neg hc]
    have e2:grp (c::(t++m))=(grp (t++m)).map (c:: ·):=by show (if _ then _ else _)=_;rw[if_neg hc]
    rw[e]at h
    cases ht:grp t with
    |none=>rw[ht]at h;cases h
    |some b=>
     rw[ht]at h
     rw[List.cons_append,e2,ih m b ht,h]
theorem dec_more {l m:List UInt8} {a next:Nat} {n:Int} (h:dec l a=.ok n next):dec (l++m) a=.ok n next:=by
 obtain⟨h1,h2,h3,h4,_⟩:=dec_ok h
 unfold dec at h ⊢
 rw[List.drop_append_of_le_length (by omega)]
 cases hg:grp (l.drop a) with
 |none=>rw[hg]at h;cases h
 |some bs=>rw[hg]at h;rw[grp_more _ m bs hg];exact h
theorem rInt_enc':RdEnc rInt encI:=fun l s hs h=>by
 have h0:=rInt_stk.ok h
 unfold rInt at h ⊢
 rw[if_neg (by omega)]at h ⊢
 cases hd:dec l s.at_ with
 |short=>rw[hd]at h;exact absurd h (rFail_bad (by omega))
 |form=>rw[hd]at h;exact absurd h (rFail_bad (by omega))
 |ok n next=>
  obtain⟨h1,h2,_,h4,_⟩:=dec_ok hd
  exact⟨h4,take_on h1 h2⟩
theorem rInt_more:RdMore rInt:=fun l m s hs h=>by
 have h0:=rInt_stk.ok h
 unfold rInt at h ⊢
 rw[if_neg (by omega)]at h
 rw[if_neg (by omega),if_neg (by omega)]
 cases hd:dec l s.at_ with
 |short=>rw[hd]at h;exact absurd h (rFail_bad (by omega))
 |form=>rw[hd]at h;exact absurd h (rFail_bad (by omega))
 |ok n next=>rw[dec_more hd]
theorem rFlag_enc':RdEnc rFlag encB:=fun l s hs h=>by
 have h0:=rFlag_stk.ok h
 unfold rFlag at h ⊢
 rw[if_neg (by omega)]at h ⊢
 cases hx:l[s.at_]? with
 |none=>rw[hx]at h;exact absurd h (rFail_bad (by omega))
 |some c=>
  rw[hx]at h
  have hlt:=(List.getElem?_eq_some_iff.1 hx).1
  simp only at h ⊢
  by_cases h1:1<c.toNat
  · rw[if_pos h1]at h;exact absurd h (rFail_bad (by omega))
  · rw[if_neg h1]
    refine⟨hlt,?_⟩
    show l.take (s.at_+1)=l.take s.at_++[if (c.toNat==1)=true then 1 else 0]
    rw[List.take_add_one,hx]
    show l.take s.at_++[c]=_
    congr 2
    apply UInt8.toNat_inj.1
    by_cases h2:c.toNat=1
    · rw[h2];rfl
    · have:c.toNat=0:=by omega
      rw[this];rfl
theorem rFlag_more:RdMore rFlag:=fun l m s hs h=>by
 have h0:=rFlag_stk.ok h
 unfold rFlag at h ⊢
 rw[if_neg (by omega)]at h
 rw[if_neg (by omega),if_neg (by omega)]
 cases hx:l[s.at_]? with
 |none=>rw[hx]at h;exact absurd h (rFail_bad (by omega))
 |some c=>
  have hlt:=(List.getElem?_eq_some_iff.1 hx).1
  rw[List.getElem?_append_left hlt,hx]
theorem rFloat_enc':RdEnc rFloat encF64:=fun l s hs h=>by
 have h0:=rFloat_stk.ok h
 unfold rFloat at h ⊢
 rw[if_neg (by omega)]at h ⊢
 by_cases h1:l.length-s.at_<8
 · rw[if_pos h1]at h;exact absurd h (rFail_bad (by omega))
 · rw[if_neg h1]at h ⊢
   simp only at h ⊢
   by_cases h2:canonB (leV ((l.drop s.at_).take 8))≠leV ((l.drop s.at_).take 8)
   · rw[if_pos h2]at h;exact absurd h (rFail_bad (by omega))
   · rw[if_neg h2]
     refine⟨by show s.at_+8≤_;omega,?_⟩
     have h3:canonB (leV ((l.drop s.at_).take 8))=leV ((l.drop s.at_).take 8):=Decidable.byContradiction h2
     have hl:((l.drop s.at_).take 8).length=8:=by rw[List.length_take,List.length_drop];omega
     show l.take (s.at_+8)=l.take s.at_++leW 8 (canonB (leV ((l.drop s.at_).take 8)))
     have h4:=leW_leV ((l.drop s.at_).take 8)
     rw[hl]at h4
     rw[h3,h4,List.take_add]
theorem rFloat_more:RdMore rFloat:=fun l m s hs h=>by
 have h0:=rFloat_stk.ok h
 unfold rFloat at h ⊢
 rw[if_neg (by omega)]at h
 rw[if_neg (show ¬s.e≠0 by omega),if_neg (show ¬s.e≠0 by omega)]
 by_cases h1:l.length-s.at_<8
 · rw[if_pos h1]at h;exact absurd h (rFail_bad (by omega))
 · have e:((l++m).drop s.at_).take 8=(l.drop s.at_).take 8:=by
    rw[List.drop_append_of_le_length hs,List.take_append_of_le_length (by rw[List.length_drop];omega)]
   rw[if_neg h1]at h
   rw[if_neg (show ¬(l++m).length-s.at_<8 by rw[List.length_append];omega),if_neg h1,e]
theorem rCount_enc' (l:List UInt8) (s:RS) (m e:Int) (he:e≠0) (hs:s.at_≤l.length) (h:(rCount l s m e).2.e=0):(rCount l s m e).2.at_≤l.length∧l.take (rCount l s m e).2.at_=l.take s.at_++encI (rCount l s m e).1:=by
 have h0:s.e=0:=Decidable.byContradiction fun hn=>by rw[rCount_stk l s m e hn]at h;exact hn h
 unfold rCount at h ⊢
 rw[if_neg (by omega)]at h ⊢
 cases hd:dec l s.at_ with
 |short=>rw[hd]at h;exact absurd h (rFail_bad (by omega))
 |form=>rw[hd]at h;exact absurd h (rFail_bad (by omega))
 |ok n next=>
  rw[hd]at h
  simp only at h ⊢
  by_cases h1:n<0
  · rw[if_pos h1]at h;exact absurd h (rFail_bad (by omega))
  · rw[if_neg h1]at h ⊢
    by_cases h2:m<n
    · rw[if_pos h2]at h;exact absurd h (rFail_bad he)
    · rw[if_neg h2]
      obtain⟨h3,h4,_,h5,_⟩:=dec_ok hd
      exact⟨h5,take_on h3 h4⟩
theorem rCount_more (l x:List UInt8) (s:RS) (m m' e:Int) (he:e≠0) (hm:m≤m') (h:(rCount l s m e).2.e=0):rCount (l++x) s m' e=rCount l s m e:=by
 have h0:s.e=0:=Decidable.byContradiction fun hn=>by rw[rCount_stk l s m e hn]at h;exact hn h
 unfold rCount at h ⊢
 rw[if_neg (by omega)]at h
 rw[if_neg (by omega),if_neg (by omega)]
 cases hd:dec l s.at_ with
 |short=>rw[hd]at h;exact absurd h (rFail_bad (by omega))
 |form=>rw[hd]at h;exact absurd h (rFail_bad (by omega))
 |ok n next=>
  rw[hd]at h
  rw[dec_more hd]
  simp only at h ⊢
  by_cases h1:n<0
  · rw[if_pos h1]at h;exact absurd h (rFail_bad (by omega))
  · rw[if_neg h1]at h
    rw[if_neg h1,if_neg h1]
    by_cases h2:m<n
    · rw[if_pos h2]at h;exact absurd h (rFail_bad he)
    · rw[if_neg h2,if_neg (by omega)]
theorem rKy_enc' (most:Int):RdEnc (rKy most) encKy:=fun l s hs h=>by
 have h0:=(rKy_stk most).ok h
 have h':(rText l s most).2.e=0:=h
 show (rText l s most).2.at_≤_∧l.take (rText l s most).2.at_=l.take s.at_++encT (rText l s most).1.toArray.toList
 unfold rText at h' ⊢
 rw[if_neg (by omega)]at h' ⊢
 cases hd:dec l s.at_ with
 |short=>rw[hd]at h';exact absurd h' (rFail_bad (by omega))
 |form=>rw[hd]at h';exact absurd h' (rFail_bad (by omega))
 |ok n next=>
  rw[hd]at h'
  simp only at h' ⊢
  by_cases h1:n<0
  · rw[if_pos h1]at h';exact absurd h' (rFail_bad (by omega))
  · rw[if_neg h1]at h' ⊢
    by_cases h2:most<n
    · rw[if_pos h2]at h';exact absurd h' (rFail_bad (by omega))
    · rw[if_neg h2]at h' ⊢
      by_cases h3:(l.length:Int)-next<n
      · rw[if_pos h3]at h';exact absurd h' (rFail_bad (by omega))
      · rw[if_neg h3]
        obtain⟨h4,h5,_,h6,_⟩:=dec_ok hd
        refine⟨by show next+n.toNat≤_;omega,?_⟩
        have hl:((l.drop next).take n.toNat).length=n.toNat:=by rw[List.length_take,List.length_drop];omega
        have e2:encT ((l.drop next).take n.toNat)=encI n++(l.drop next).take n.toNat:=by
         unfold encT
         rw[hl,Int.toNat_of_nonneg (by omega)]
        show l.take (next+n.toNat)=l.take s.at_++encT ((l.drop next).take n.toNat)
        rw[e2,List.take_add,take_on h4 h5,List.append_assoc]
theorem rKy_more (most:Int):RdMore (rKy most):=fun l m s hs h=>by
 have h0:=(rKy_stk most).ok h
 have h':(rText l s most).2.e=0:=h
 have e:rText (l++m) s most=rText l s most:=by
  unfold rText at h' ⊢
  rw[if_neg (by omega)]at h'
  rw[if_neg (by omega),if_neg (by omega)]
  cases hd:dec l s.at_ with
  |short=>rw[hd]at h';exact absurd h' (rFail_bad (by omega))
  |form=>rw[hd]at h';exact absurd h' (rFail_bad (by omega))
  |ok n next=>
   rw[hd]at h'
   rw[dec_more hd]
   simp only at h' ⊢
   by_cases h1:n<0
   · rw[if_pos h1]at h';exact absurd h' (rFail_bad (by omega))
   · rw[if_neg h1]at h'
     rw[if_neg h1,if_neg h1]
     by_cases h2:most<n
     · rw[if_pos h2]at h';exact absurd h' (rFail_bad (by omega))
     · rw[if_neg h2]at h'
       rw[if_neg h2,if_neg h2]
       by_cases h3:(l.length:Int)-next<n
       · rw[if_pos h3]at h';exact absurd h' (rFail_bad (by omega))
       · obtain⟨_,_,_,h6,_⟩:=dec_ok hd
         rw[if_neg h3,if_neg (by rw[List.length_append];omega),List.drop_append_of_le_length h6,List.take_append_of_le_length (by rw[List.length_drop];omega)]
 show (_,_)=(_,_)
 rw[e]
section
variable {α β γ:Type} {f:Rdf α} {g:Rdf β} {mk:α→β→γ} {ef:α→List UInt8} {eg:β→List UInt8} {e:γ→List UInt8}
theorem rTwo_enc (hf:RdEnc f ef) (hg:RdEnc g eg) (sg:Stk g) (hm:∀a b,e (mk a b)=ef a++eg b):RdEnc (rTwo f g mk) e:=fun l s hs h=>by
 have h1:(f l s).2.e=0:=sg.ok h
 obtain⟨a1,a2⟩:=hf l s hs h1
 obtain⟨b1,b2⟩:=hg l _ a1 h
 refine⟨b1,?_⟩
 show l.take (g l (f l s).2).2.at_=_++e (mk _ _)
 rw[b2,a2,hm,List.append_assoc]
theorem rTwo_more (hf:RdMore f) (hg:RdMore g) (hfe:RdEnc f ef) (sg:Stk g):RdMore (rTwo f g mk):=fun l m s hs h=>by
 have h1:(f l s).2.e=0:=sg.ok h
 have e1:=hf l m s hs h1
 have e2:=hg l m _ (hfe l s hs h1).1 h
 unfold rTwo
 rw[e1,e2]
theorem RdEnc.map {δ:Type} {f:Rdf α} {f':Rdf δ} {e':δ→List UInt8} (hf:RdEnc f ef) (h:∀l s,(f' l s).2=(f l s).2∧e' (f' l s).1=ef (f l s).1):RdEnc f' e':=fun l s hs he=>by
 obtain⟨h1,h2⟩:=h l s
 rw[h1]at he ⊢
 rw[h2]
 exact hf l s hs he
end
theorem rSp_eq:rSp=rTwo (rTwo rInt rInt Prod.mk) rInt (fun a n=>⟨a.1,a.2,n⟩):=rfl
theorem rTx_eq:rTx=rTwo (rTwo rInt rInt Prod.mk) rInt (fun a n=>⟨a.1,a.2,n⟩):=rfl
theorem rII_enc:RdEnc (rTwo rInt rInt Prod.mk) (fun a=>encI a.1++encI a.2):=rTwo_enc rInt_enc' rInt_enc' rInt_stk fun _ _=>rfl
theorem rII_more:RdMore (rTwo rInt rInt Prod.mk):=rTwo_more rInt_more rInt_more rInt_enc' rInt_stk
theorem rSp_enc:RdEnc rSp encSp:=by
 rw[rSp_eq]
 exact rTwo_enc rII_enc rInt_enc' rInt_stk fun a b=>by show encI _++(encI _++encI _)=(encI _++encI _)++encI _;rw[List.append_assoc]
theorem rSp_more:RdMore rSp:=by rw[rSp_eq];exact rTwo_more rII_more rInt_more rII_enc rInt_stk
theorem rTx_enc:RdEnc rTx encTx:=by
 rw[rTx_eq]
 exact rTwo_enc rII_enc rInt_enc' rInt_stk fun a b=>by show encI _++(encI _++encI _)=(encI _++encI _)++encI _;rw[List.append_assoc]
theorem rTx_more:RdMore rTx:=by rw[rTx_eq];exact rTwo_more rII_more rInt_more rII_enc rInt_stk
theorem rFloat_canon (l:List UInt8) (s:RS):(rFloat l s).2.e=0→canonB (rFloat l s).1=(rFloat l s).1:=fun h=>by
 have h0:=rFloat_stk.ok h
 unfold rFloat at h ⊢
 rw[if_neg (by omega)]at h ⊢
 by_cases h1:l.length-s.at_<8
 · rw[if_pos h1]at h;exact absurd h (rFail_bad (by omega))
 · rw[if_neg h1]at h ⊢
   simp only at h ⊢
   by_cases h2:canonB (leV ((l.drop s.at_).take 8))≠leV ((l.drop s.at_).take 8)
   · rw[if_pos h2]at h;exact absurd h (rFail_bad (by omega))
   · rw[if_neg h2];exact Decidable.byContradiction h2
theorem rText_most (l:List UInt8) (s:RS) (m:Int) (hm:0≤m):((rText l s m).1.length:Int)≤m:=by
 have h0:(([]:List UInt8).length:Int)≤m:=hm
 unfold rText
 split
 · exact h0
 · split
   · exact h0
   · exact h0
   · split
     · exact h0
     · split
       · exact h0
       · split
         · exact h0
         · simp only[List.length_take,List.length_drop];omega
theorem rCount_okV (l:List UInt8) (s:RS):0≤(rCount l s 2 4).1∧(rCount l s 2 4).1≤2:=by
 have h0:(0:Int)≤0∧(0:Int)≤2:=⟨by omega,by omega⟩
 unfold rCount
 split
 · exact h0
 · split
   · exact h0
   · exact h0
   · split
     · exact h0
     · split
       · exact h0
       · exact⟨by simp only;omega,by simp only;omega⟩
theorem rVl_may (l:List UInt8) (s:RS) (h:(rVl l s).2.e=0):(rVl l s).1.may=true∧rVl l s=rVl0 l s:=by
 have e0:rVl l s=rVl0 l s:=by
  unfold rVl
  split
  · rename_i hn
    unfold rVl at h
    rw[if_pos hn]at h
    exact absurd h hn
  · rfl
 refine⟨?_,e0⟩
 rw[e0]at h ⊢
 have hk:=rCount_okV l s
 unfold rVl0 at h ⊢
 by_cases h1:(rCount l s 2 4).1=1
 · rw[if_pos h1]at h ⊢
   rw[Vl.may1 rfl]
   have hc:=rFloat_canon l _ h
   show (emptyB ⟨#[]⟩&&_)=true
   rw[hc]
   simp[emptyB]
 · rw[if_neg h1]at h ⊢
   by_cases h2:(rCount l s 2 4).1=2
   · rw[if_pos h2]
     rw[Vl.may2 rfl]
     have hl:=rText_most l (rCount l s 2 4).2 64 (by omega)
     have hsz:(rKy 64 l (rCount l s 2 4).2).1.size=(rText l (rCount l s 2 4).2 64).1.length:=by
      show (rText l (rCount l s 2 4).2 64).1.toArray.size=_
      rw[List.size_toArray]
     have hd:decide (((rKy 64 l (rCount l s 2 4).2).1.size:Int)≤64)=true:=decide_eq_true (by rw[hsz];exact hl)
     show (((0:Nat):Int)==0&&decide (((rKy 64 l (rCount l s 2 4).2).1.size:Int)≤64))=true
     rw[hd];rfl
   · rw[if_neg h2]
     have h3:(rCount l s 2 4).1=0:=by omega
     rw[Vl.may0 h3]
     show (((0:Nat):Int)==0&&emptyB ⟨#[]⟩)=true
     simp[emptyB]
theorem rCount_nn (l:List UInt8) (s:RS) (m e:Int):0≤(rCount l s m e).1:=by
 unfold rCount
 split
 · exact Int.le_refl _
 · split
   · exact Int.le_refl _
   · exact Int.le_refl _
   · split
     · exact Int.le_refl _
     · split
       · exact Int.le_refl _
       · simp only;omega
theorem rCnt_le (l:List UInt8) (s:RS):(rCnt l s).1.toNat≤l.length:=by
 have hl:rLeft l s≤l.length:=by unfold rLeft;split<;>omega
 have h0:(0:Int).toNat≤l.length:=Nat.zero_le _
 unfold rCnt rCount
 split
 · exact h0
 · split
   · exact h0
   · exact h0
   · split
     · exact h0
     · split
       · exact h0
       · simp only;omega
theorem rVl_enc:RdEnc rVl encVl:=fun l s hs h=>by
 obtain⟨hm,e0⟩:=rVl_may l s h
 rw[e0]at h hm ⊢
 unfold encVl
 rw[if_pos hm]
 unfold rVl0 at h ⊢
 have hc0:(rCount l s 2 4).2.e=0:=by
  by_cases h1:(rCount l s 2 4).1=1
  · rw[if_pos h1]at h;exact rFloat_stk.ok h
  · rw[if_neg h1]at h
    by_cases h2:(rCount l s 2 4).1=2
    · rw[if_pos h2]at h;exact(rKy_stk 64).ok h
    · rw[if_neg h2]at h;exact h
 obtain⟨c1,c2⟩:=rCount_enc' l s 2 4 (by omega) hs hc0
 have hk:=rCount_okV l s
 by_cases h1:(rCount l s 2 4).1=1
 · rw[if_pos h1]at h ⊢
   obtain⟨f1,f2⟩:=rFloat_enc' l _ c1 h
   refine⟨f1,?_⟩
   show _=_++if (1:Int)=1 then encI 1++encF64 _ else _
   rw[if_pos rfl]
   show l.take (rFloat l (rCount l s 2 4).2).2.at_=_
   rw[f2,c2,h1,List.append_assoc]
 · rw[if_neg h1]at h ⊢
   by_cases h2:(rCount l s 2 4).1=2
   · rw[if_pos h2]at h ⊢
     obtain⟨f1,f2⟩:=rKy_enc' 64 l _ c1 h
     refine⟨f1,?_⟩
     show _=_++if (2:Int)=1 then _ else if (2:Int)=2 then encI 2++encKy _ else encI 0
     rw[if_neg (by omega),if_pos rfl]
     show l.take (rKy 64 l (rCount l s 2 4).2).2.at_=_
     rw[f2,c2,h2,List.append_assoc]
   · have h3:(rCount l s 2 4).1=0:=by omega
     rw[if_neg h2]at h ⊢
     refine⟨c1,?_⟩
     show _=_++if (rCount l s 2 4).1=1 then _ else if (rCount l s 2 4).1=2 then _ else encI 0
     rw[if_neg h1,if_neg h2]
     show l.take (rCount l s 2 4).2.at_=_
     rw[c2,h3]
theorem rVl_more:RdMore rVl:=fun l m s hs h=>by
 obtain⟨hm,e0⟩:=rVl_may l s h
 have e1:rVl0 (l++m) s=rVl0 l s:=by
  rw[e0]at h
  unfold rVl0 at h ⊢
  have hc0:(rCount l s 2 4).2.e=0:=by
   by_cases h1:(rCount l s 2 4).1=1
   · rw[if_pos h1]at h;exact rFloat_stk.ok h
   · rw[if_neg h1]at h
     by_cases h2:(rCount l s 2 4).1=2
     · rw[if_pos h2]at h;exact(rKy_stk 64).ok h
     · rw[if_neg h2]at h;exact h
  obtain⟨c1,c2⟩:=rCount_enc' l s 2 4 (by omega) hs hc0
  rw[rCount_more l m s 2 2 4 (by omega) (Int.le_refl _) hc0]
  by_cases h1:(rCount l s 2 4).1=1
  · rw[if_pos h1]at h
    rw[if_pos h1,if_pos h1,rFloat_more l m _ c1 h]
  · rw[if_neg h1]at h
    rw[if_neg h1,if_neg h1]
    by_cases h2:(rCount l s 2 4).1=2
    · rw[if_pos h2]at h
      rw[if_pos h2,if_pos h2,rKy_more 64 l m _ c1 h]
    · rw[if_neg h2,if_neg h2]
 unfold rVl
 rw[e1]
theorem rWt_enc:RdEnc rWt encWt:=rTwo_enc (rKy_enc' _) rVl_enc rVl_stk fun _ _=>rfl
theorem rWt_more:RdMore rWt:=rTwo_more (rKy_more _) rVl_more (rKy_enc' _) rVl_stk
theorem rVn_enc:RdEnc rVn encVn:=rTwo_enc rSp_enc rVl_enc rVl_stk fun _ _=>rfl
theorem rVn_more:RdMore rVn:=rTwo_more rSp_more rVl_more rSp_enc rVl_stk
section
variable {α:Type} {f:Rdf α} {ef:α→List UInt8}
theorem rLoop_enc (hf:RdEnc f ef):∀(k:Nat) (l:List UInt8) (s:RS),s.at_≤l.length→(rLoop f l k s).2.e=0→(rLoop f l k s).1.length=k∧(rLoop f l k s).2.at_≤l.length∧l.take (rLoop f l k s).2.at_=l.take s.at_++(rLoop f l k s).1.flatMap ef:=by
 intro k
 induction k with
 |zero=>intro l s hs h;exact⟨rfl,hs,by simp[rLoop]⟩
 |succ k ih=>
  intro l s hs h
  by_cases he:s.e≠0
  · rw[rLoop_stk f l _ s he]at h;exact absurd h he
  · have hn:=rLoop_next f l (k:=k+1) (s:=s) (by omega) (Decidable.byContradiction he)
    rw[Nat.add_sub_cancel]at hn
    rw[hn]at h ⊢
    have h1:(f l s).2.e=0:=Decidable.byContradiction fun hq=>by
        simp only at h
        rw[rLoop_stk f l _ _ hq]at h;exact hq h
    obtain⟨a1,a2⟩:=hf l s hs h1
    obtain⟨b1,b2,b3⟩:=ih l _ a1 h
    refine⟨by simp only[List.length_cons,b1],b2,?_⟩
    simp only[List.flatMap_cons]
    rw[b3,a2,List.append_assoc]
theorem rLoop_more (hf:RdMore f) (hfe:RdEnc f ef):∀(k:Nat) (l m:List UInt8) (s:RS),s.at_≤l.length→(rLoop f l k s).2.e=0→rLoop f (l++m) k s=rLoop f l k s:=by
 intro k
 induction k with
 |zero=>intro l m s hs h;rfl
 |succ k ih=>
  intro l m s hs h
  by_cases he:s.e≠0
  · rw[rLoop_stk f l _ s he]at h;exact absurd h he
  · have he0:s.e=0:=Decidable.byContradiction he
    have hn:=rLoop_next f l (k:=k+1) (s:=s) (by omega) he0
    have hn2:=rLoop_next f (l++m) (k:=k+1) (s:=s) (by omega) he0
    rw[Nat.add_sub_cancel]at hn hn2
    rw[hn]at h ⊢
    rw[hn2]
    have h1:(f l s).2.e=0:=Decidable.byContradiction fun hq=>by
        simp only at h
        rw[rLoop_stk f l _ _ hq]at h;exact hq h
    obtain⟨a1,a2⟩:=hfe l s hs h1
    rw[hf l m s hs h1,ih l m _ a1 h]
theorem rLs_cnt (l:List UInt8) (s:RS) (h:(rLs f l s).2.e=0):(rCnt l s).2.e=0:=Decidable.byContradiction fun hn=>by
 unfold rLs at h
 rw[rLoop_stk f l _ _ hn]at h;exact hn h
theorem rLs_enc (hf:RdEnc f ef):RdEnc (rLs f) (encLs ef):=fun l s hs h=>by
 have hc:=rLs_cnt l s h
 obtain⟨c1,c2⟩:=rCount_enc' l s (rLeft l s:Int) 3 (by omega) hs hc
 have hn:0≤(rCnt l s).1:=(rCount_nn l s (rLeft l s:Int) 3)
 obtain⟨a1,a2,a3⟩:=rLoop_enc hf (rCnt l s).1.toNat l (rCnt l s).2 c1 h
 refine⟨a2,?_⟩
 have e:encLs ef (rLs f l s).1=encI (rCnt l s).1++(rLs f l s).1.flatMap ef:=by
  unfold encLs
  have:(rLs f l s).1.length=(rCnt l s).1.toNat:=a1
  rw[this,Int.toNat_of_nonneg hn]
 rw[e]
 show l.take (rLoop f l (rCnt l s).1.toNat (rCnt l s).2).2.at_=_
 rw[a3,←List.append_assoc]
 exact congrArg (· ++_) c2
theorem rLs_more (hf:RdMore f) (hfe:RdEnc f ef):RdMore (rLs f):=fun l m s hs h=>by
 have hc:=rLs_cnt l s h
 have hs0:s.e=0:=Decidable.byContradiction fun hn=>by
  unfold rCnt at hc;rw[rCount_stk l s _ _ hn]at hc;exact hn hc
 obtain⟨c1,c2⟩:=rCount_enc' l s (rLeft l s:Int) 3 (by omega) hs hc
 have hl:(rLeft l s:Int)≤(rLeft (l++m) s:Int):=by
  unfold rLeft
  rw[if_neg (by omega),if_neg (by omega),List.length_append]
  omega
 have e1:rCnt (l++m) s=rCnt l s:=rCount_more l m s _ _ 3 (by omega) hl hc
 unfold rLs
 rw[e1]
 exact rLoop_more hf hfe _ l m _ c1 h
theorem rLoop_le (k:Nat) (l:List UInt8) (s:RS):(rLoop f l k s).1.length≤k:=by
 induction k generalizing s with
 |zero=>exact Nat.le_refl _
 |succ k ih=>
  show (if s.e≠0 then ([],s) else _:List α×RS).1.length≤_
  split
  · exact Nat.zero_le _
  · simp only[List.length_cons]
    exact Nat.succ_le_succ (ih _)
theorem rLs_le (l:List UInt8) (s:RS):(rLs f l s).1.length≤l.length:=by
 have h1:=rLoop_le (f:=f) (rCnt l s).1.toNat l (rCnt l s).2
 have h2:=rCnt_le l s
 exact Nat.le_trans h1 h2
theorem rLoop_all {Q:α→Prop} (l:List UInt8) (hf:∀s,Q (f l s).1):∀(k:Nat) (s:RS),∀a∈(rLoop f l k s).1,Q a:=by
 intro k
 induction k with
 |zero=>intro s a h;cases h
 |succ k ih=>
  intro s a h
  have h':a∈(if s.e≠0 then ([],s) else ((f l s).1::(rLoop f l k (f l s).2).1,(rLoop f l k (f l s).2).2):List α×RS).1:=h
  split at h'
  · cases h'
  · rcases List.mem_cons.1 h' with rfl|h2
    · exact hf s
    · exact ih _ a h2
theorem rLs_all {Q:α→Prop} (l:List UInt8) (s:RS) (hf:∀s,Q (f l s).1):∀a∈(rLs f l s).1,Q a:=rLoop_all l hf _ _
end
theorem rHs_enc:RdEnc rHs encHs:=rTwo_enc (rKy_enc' _) (rLs_enc rVn_enc) (rLs_stk _) fun _ _=>rfl
theorem rHs_more:RdMore rHs:=rTwo_more (rKy_more _) (rLs_more rVn_more rVn_enc) (rKy_enc' _) (rLs_stk _)
theorem rTS_enc:RdEnc (rTwo rTx rSp Prod.mk) (fun a=>encTx a.1++encSp a.2):=rTwo_enc rTx_enc rSp_enc rSp_stk fun _ _=>rfl
theorem rTSK_enc:RdEnc (rTwo (rTwo rTx rSp Prod.mk) (rLs rKey) Prod.mk) (fun a=>(encTx a.1.1++encSp a.1.2)++encLs encKy a.2):=rTwo_enc rTS_enc (rLs_enc (rKy_enc' _)) (rLs_stk _) fun _ _=>rfl
theorem rPn_enc:RdEnc rPn encPn:=rTwo_enc rTSK_enc (rLs_enc rWt_enc) (rLs_stk _) fun a b=>by
 show encTx _++(encSp _++(encLs encKy _++encLs encWt _))=((encTx _++encSp _)++encLs encKy _)++encLs encWt _
 simp only[List.append_assoc]
theorem rPn_more:RdMore rPn:=rTwo_more (rTwo_more (rTwo_more rTx_more rSp_more rTx_enc rSp_stk) (rLs_more (rKy_more _) (rKy_enc' _)) rTS_enc (rLs_stk _)) (rLs_more rWt_more rWt_enc) rTSK_enc (rLs_stk _)
theorem rIIF_enc:RdEnc (rTwo (rTwo rInt rInt Prod.mk) rFloat Prod.mk) (fun a=>(encI a.1.1++encI a.1.2)++encF64 a.2):=rTwo_enc rII_enc rFloat_enc' rFloat_stk fun _ _=>rfl
theorem rRg_enc:RdEnc rRg encRg:=rTwo_enc rIIF_enc rFloat_enc' rFloat_stk fun a b=>by
 show encI _++(encI _++(encF64 _++encF64 _))=((encI _++encI _)++encF64 _)++encF64 _
 simp only[List.append_assoc]
theorem rRg_more:RdMore rRg:=rTwo_more (rTwo_more rII_more rFloat_more rII_enc rFloat_stk) rFloat_more rIIF_enc rFloat_stk
theorem rRS_enc:RdEnc (rTwo rRg rSp Prod.mk) (fun a=>encRg a.1++encSp a.2):=rTwo_enc rRg_enc rSp_enc rSp_stk fun _ _=>rfl
theorem rRSS_enc:RdEnc (rTwo (rTwo rRg rSp Prod.mk) rSp Prod.mk) (fun a=>(encRg a.1.1++encSp a.1.2)++encSp a.2):=rTwo_enc rRS_enc rSp_enc rSp_stk fun _ _=>rfl
theorem rRSSH_enc:RdEnc (rTwo (rTwo (rTwo rRg rSp Prod.mk) rSp Prod.mk) (rLs rHs) Prod.mk) (fun a=>((encRg a.1.1.1++encSp a.1.1.2)++encSp a.1.2)++encLs encHs a.2):=rTwo_enc rRSS_enc (rLs_enc rHs_enc) (rLs_stk _) fun _ _=>rfl
theorem rSt_enc:RdEnc rSt encSt:=rTwo_enc rRSSH_enc (rLs_enc rPn_enc) (rLs_stk _) fun a b=>by
 show encRg _++(encSp _++(encSp _++(encLs encHs _++encLs encPn _)))=(((encRg _++encSp _)++encSp _)++encLs encHs _)++encLs encPn _
 simp only[List.append_assoc]
theorem rSt_more:RdMore rSt:=rTwo_more (rTwo_more (rTwo_more (rTwo_more rRg_more rSp_more rRg_enc rSp_stk) rSp_more rRS_enc rSp_stk) (rLs_more rHs_more rHs_enc) rRSS_enc (rLs_stk _)) (rLs_more rPn_more rPn_enc) rRSSH_enc (rLs_stk _)
end Go.Proofs.YthdmanadhbpogaaGreat
/- Plain laws of a record that is read. -/
namespace Go.Proofs.YthdmanadhbpogaaGreat
set_option linter.unusedVariables false
open Go.RowKit Fl
theorem rBody_1e:RdEnc (rBody 1) encBody:=by
 have a0:RdEnc rSt (encSt):=rSt_enc
 refine a0.map fun l s=>?_
 rw[rBody_1]
 refine⟨rfl,?_⟩
 unfold encBody
 simp
theorem rBody_1m:RdMore (rBody 1):=fun l m s hs h=>by
 have a0:RdEnc rSt (encSt):=rSt_enc
 have m0:RdMore rSt:=rSt_more
 have h':(rSt l s).2.e=0:=by rw[rBody_1]at h;exact h
 have e:=m0 l m s hs h'
 rw[rBody_1,rBody_1]
 rw[e]
theorem rBody_1s:Stk (rBody 1):=fun l s h=>by
 have hf:Stk rSt:=rSt_stk
 rw[rBody_1]
 exact hf l s h
theorem rBody_2e:RdEnc (rBody 2) encBody:=by
 have a0:RdEnc rInt (encI):=rInt_enc'
 refine a0.map fun l s=>?_
 rw[rBody_2]
 refine⟨rfl,?_⟩
 unfold encBody
 simp
theorem rBody_2m:RdMore (rBody 2):=fun l m s hs h=>by
 have a0:RdEnc rInt (encI):=rInt_enc'
 have m0:RdMore rInt:=rInt_more
 have h':(rInt l s).2.e=0:=by rw[rBody_2]at h;exact h
 have e:=m0 l m s hs h'
 rw[rBody_2,rBody_2]
 rw[e]
theorem rBody_2s:Stk (rBody 2):=fun l s h=>by
 have hf:Stk rInt:=rInt_stk
 rw[rBody_2]
 exact hf l s h
theorem rBody_3e:RdEnc (rBody 3) encBody:=by
 have a0:RdEnc rPn (encPn):=rPn_enc
 have a1:RdEnc (rTwo rPn (rLs rInt) Prod.mk) (fun a:(Pn)×(List Int)=>(encPn) a.1++encLs encI a.2):=rTwo_enc a0 (rLs_enc rInt_enc') (rLs_stk _) fun _ _=>rfl
 refine a1.map fun l s=>?_
 rw[rBody_3]
 refine⟨rfl,?_⟩
 unfold encBody
 simp[rTwo]
theorem rBody_3m:RdMore (rBody 3):=fun l m s hs h=>by
 have a0:RdEnc rPn (encPn):=rPn_enc
 have a1:RdEnc (rTwo rPn (rLs rInt) Prod.mk) (fun a:(Pn)×(List Int)=>(encPn) a.1++encLs encI a.2):=rTwo_enc a0 (rLs_enc rInt_enc') (rLs_stk _) fun _ _=>rfl
 have m0:RdMore rPn:=rPn_more
 have m1:RdMore (rTwo rPn (rLs rInt) Prod.mk):=rTwo_more m0 (rLs_more rInt_more rInt_enc') a0 (rLs_stk _)
 have h':((rTwo rPn (rLs rInt) Prod.mk) l s).2.e=0:=by rw[rBody_3]at h;exact h
 have e:=m1 l m s hs h'
 rw[rBody_3,rBody_3]
 simp only[rTwo,Prod.mk.injEq]at e
 obtain⟨⟨e1,e2⟩,e3⟩:=e
 simp only[e1,e2,e3]
theorem rBody_3s:Stk (rBody 3):=fun l s h=>by
 have hf:Stk (rTwo rPn (rLs rInt) Prod.mk):=(rTwo_stk rPn_stk (rLs_stk _))
 rw[rBody_3]
 exact hf l s h
theorem rBody_4e:RdEnc (rBody 4) encBody:=by
 have a0:RdEnc rTx (encTx):=rTx_enc
 have a1:RdEnc (rTwo rTx rFlag Prod.mk) (fun a:(Tx)×(Bool)=>(encTx) a.1++encB a.2):=rTwo_enc a0 rFlag_enc' rFlag_stk fun _ _=>rfl
 have a2:RdEnc (rTwo (rTwo rTx rFlag Prod.mk) rSp Prod.mk) (fun a:((Tx)×(Bool))×(Sp)=>(fun a:(Tx)×(Bool)=>(encTx) a.1++encB a.2) a.1++encSp a.2):=rTwo_enc a1 rSp_enc rSp_stk fun _ _=>rfl
 refine a2.map fun l s=>?_
 rw[rBody_4]
 refine⟨rfl,?_⟩
 unfold encBody
 simp[rTwo]
theorem rBody_4m:RdMore (rBody 4):=fun l m s hs h=>by
 have a0:RdEnc rTx (encTx):=rTx_enc
 have a1:RdEnc (rTwo rTx rFlag Prod.mk) (fun a:(Tx)×(Bool)=>(encTx) a.1++encB a.2):=rTwo_enc a0 rFlag_enc' rFlag_stk fun _ _=>rfl
 have a2:RdEnc (rTwo (rTwo rTx rFlag Prod.mk) rSp Prod.mk) (fun a:((Tx)×(Bool))×(Sp)=>(fun a:(Tx)×(Bool)=>(encTx) a.1++encB a.2) a.1++encSp a.2):=rTwo_enc a1 rSp_enc rSp_stk fun _ _=>rfl
 have m0:RdMore rTx:=rTx_more
 have m1:RdMore (rTwo rTx rFlag Prod.mk):=rTwo_more m0 rFlag_more a0 rFlag_stk
 have m2:RdMore (rTwo (rTwo rTx rFlag Prod.mk) rSp Prod.mk):=rTwo_more m1 rSp_more a1 rSp_stk
 have h':((rTwo (rTwo rTx rFlag Prod.mk) rSp Prod.mk) l s).2.e=0:=by rw[rBody_4]at h;exact h
 have e:=m2 l m s hs h'
 rw[rBody_4,rBody_4]
 simp only[rTwo,Prod.mk.injEq]at e
 obtain⟨⟨⟨e1,e2⟩,e3⟩,e4⟩:=e
 simp only[e1,e2,e3,e4]
theorem rBody_4s:Stk (rBody 4):=fun l s h=>by
 have hf:Stk (rTwo (rTwo rTx rFlag Prod.mk) rSp Prod.mk):=(rTwo_stk (rTwo_stk rTx_stk rFlag_stk) rSp_stk)
 rw[rBody_4]
 exact hf l s h
theorem rBody_5e:RdEnc (rBody 5) encBody:=by
 have a0:RdEnc rSp (encSp):=rSp_enc
 refine a0.map fun l s=>?_
 rw[rBody_5]
 refine⟨rfl,?_⟩
 unfold encBody
 simp
theorem rBody_5m:RdMore (rBody 5):=fun l m s hs h=>by
 have a0:RdEnc rSp (encSp):=rSp_enc
 have m0:RdMore rSp:=rSp_more
 have h':(rSp l s).2.e=0:=by rw[rBody_5]at h;exact h
 have e:=m0 l m s hs h'
 rw[rBody_5,rBody_5]
 rw[e]
theorem rBody_5s:Stk (rBody 5):=fun l s h=>by
 have hf:Stk rSp:=rSp_stk
 rw[rBody_5]
 exact hf l s h
theorem rBody_6e:RdEnc (rBody 6) encBody:=by
 have a0:RdEnc rFloat (encF64):=rFloat_enc'
 have a1:RdEnc (rTwo rFloat rInt Prod.mk) (fun a:(Nat)×(Int)=>(encF64) a.1++encI a.2):=rTwo_enc a0 rInt_enc' rInt_stk fun _ _=>rfl
 have a2:RdEnc (rTwo (rTwo rFloat rInt Prod.mk) rSp Prod.mk) (fun a:((Nat)×(Int))×(Sp)=>(fun a:(Nat)×(Int)=>(encF64) a.1++encI a.2) a.1++encSp a.2):=rTwo_enc a1 rSp_enc rSp_stk fun _ _=>rfl
 refine a2.map fun l s=>?_
 rw[rBody_6]
 refine⟨rfl,?_⟩
 unfold encBody
 simp[rTwo]
theorem rBody_6m:RdMore (rBody 6):=fun l m s hs h=>by
 have a0:RdEnc rFloat (encF64):=rFloat_enc'
 have a1:RdEnc (rTwo rFloat rInt Prod.mk) (fun a:(Nat)×(Int)=>(encF64) a.1++encI a.2):=rTwo_enc a0 rInt_enc' rInt_stk fun _ _=>rfl
 have a2:RdEnc (rTwo (rTwo rFloat rInt Prod.mk) rSp Prod.mk) (fun a:((Nat)×(Int))×(Sp)=>(fun a:(Nat)×(Int)=>(encF64) a.1++encI a.2) a.1++encSp a.2):=rTwo_enc a1 rSp_enc rSp_stk fun _ _=>rfl
 have m0:RdMore rFloat:=rFloat_more
 have m1:RdMore (rTwo rFloat rInt Prod.mk):=rTwo_more m0 rInt_more a0 rInt_stk
 have m2:RdMore (rTwo (rTwo rFloat rInt Prod.mk) rSp Prod.mk):=rTwo_more m1 rSp_more a1 rSp_stk
 have h':((rTwo (rTwo rFloat rInt Prod.mk) rSp Prod.mk) l s).2.e=0:=by rw[rBody_6]at h;exact h
 have e:=m2 l m s hs h'
 rw[rBody_6,rBody_6]
 simp only[rTwo,Prod.mk.injEq]at e
 obtain⟨⟨⟨e1,e2⟩,e3⟩,e4⟩:=e
 simp only[e1,e2,e3,e4]
theorem rBody_6s:Stk (rBody 6):=fun l s h=>by
 have hf:Stk (rTwo (rTwo rFloat rInt Prod.mk) rSp Prod.mk):=(rTwo_stk (rTwo_stk rFloat_stk rInt_stk) rSp_stk)
 rw[rBody_6]
 exact hf l s h
theorem rBody_7e:RdEnc (rBody 7) encBody:=by
 have a0:RdEnc rInt (encI):=rInt_enc'
 refine a0.map fun l s=>?_
 rw[rBody_7]
 refine⟨rfl,?_⟩
 unfold encBody
 simp
theorem rBody_7m:RdMore (rBody 7):=fun l m s hs h=>by
 have a0:RdEnc rInt (encI):=rInt_enc'
 have m0:RdMore rInt:=rInt_more
 have h':(rInt l s).2.e=0:=by rw[rBody_7]at h;exact h
 have e:=m0 l m s hs h'
 rw[rBody_7,rBody_7]
 rw[e]
theorem rBody_7s:Stk (rBody 7):=fun l s h=>by
 have hf:Stk rInt:=rInt_stk
 rw[rBody_7]
 exact hf l s h
theorem rBody_8e:RdEnc (rBody 8) encBody:=by
 have a0:RdEnc rInt (encI):=rInt_enc'
 refine a0.map fun l s=>?_
 rw[rBody_8]
 refine⟨rfl,?_⟩
 unfold encBody
 simp
theorem rBody_8m:RdMore (rBody 8):=fun l m s hs h=>by
 have a0:RdEnc rInt (encI):=rInt_enc'
 have m0:RdMore rInt:=rInt_more
 have h':(rInt l s).2.e=0:=by rw[rBody_8]at h;exact h
 have e:=m0 l m s hs h'
 rw[rBody_8,rBody_8]
 rw[e]
theorem rBody_8s:Stk (rBody 8):=fun l s h=>by
 have hf:Stk rInt:=rInt_stk
 rw[rBody_8]
 exact hf l s h
theorem rBody_9e:RdEnc (rBody 9) encBody:=by
 have a0:RdEnc rTx (encTx):=rTx_enc
 have a1:RdEnc (rTwo rTx rSp Prod.mk) (fun a:(Tx)×(Sp)=>(encTx) a.1++encSp a.2):=rTwo_enc a0 rSp_enc rSp_stk fun _ _=>rfl
 have a2:RdEnc (rTwo (rTwo rTx rSp Prod.mk) (rLs rInt) Prod.mk) (fun a:((Tx)×(Sp))×(List Int)=>(fun a:(Tx)×(Sp)=>(encTx) a.1++encSp a.2) a.1++encLs encI a.2):=rTwo_enc a1 (rLs_enc rInt_enc') (rLs_stk _) fun _ _=>rfl
 refine a2.map fun l s=>?_
 rw[rBody_9]
 refine⟨rfl,?_⟩
 unfold encBody
 simp[rTwo]
theorem rBody_9m:RdMore (rBody 9):=fun l m s hs h=>by
 have a0:RdEnc rTx (encTx):=rTx_enc
 have a1:RdEnc (rTwo rTx rSp Prod.mk) (fun a:(Tx)×(Sp)=>(encTx) a.1++encSp a.2):=rTwo_enc a0 rSp_enc rSp_stk fun _ _=>rfl
 have a2:RdEnc (rTwo (rTwo rTx rSp Prod.mk) (rLs rInt) Prod.mk) (fun a:((Tx)×(Sp))×(List Int)=>(fun a:(Tx)×(Sp)=>(encTx) a.1++encSp a.2) a.1++encLs encI a.2):=rTwo_enc a1 (rLs_enc rInt_enc') (rLs_stk _) fun _ _=>rfl
 have m0:RdMore rTx:=rTx_more
 have m1:RdMore (rTwo rTx rSp Prod.mk):=rTwo_more m0 rSp_more a0 rSp_stk
 have m2:RdMore (rTwo (rTwo rTx rSp Prod.mk) (rLs rInt) Prod.mk):=rTwo_more m1 (rLs_more rInt_more rInt_enc') a1 (rLs_stk _)
 have h':((rTwo (rTwo rTx rSp Prod.mk) (rLs rInt) Prod.mk) l s).2.e=0:=by rw[rBody_9]at h;exact h
 have e:=m2 l m s hs h'
 rw[rBody_9,rBody_9]
 simp only[rTwo,Prod.mk.injEq]at e
 obtain⟨⟨⟨e1,e2⟩,e3⟩,e4⟩:=e
 simp only[e1,e2,e3,e4]
theorem rBody_9s:Stk (rBody 9):=fun l s h=>by
 have hf:Stk (rTwo (rTwo rTx rSp Prod.mk) (rLs rInt) Prod.mk):=(rTwo_stk (rTwo_stk rTx_stk rSp_stk) (rLs_stk _))
 rw[rBody_9]
 exact hf l s h
theorem rBody_10e:RdEnc (rBody 10) encBody:=by
 have a0:RdEnc rTx (encTx):=rTx_enc
 refine a0.map fun l s=>?_
 rw[rBody_10]
 refine⟨rfl,?_⟩
 unfold encBody
 simp
theorem rBody_10m:RdMore (rBody 10):=fun l m s hs h=>by
 have a0:RdEnc rTx (encTx):=rTx_enc
 have m0:RdMore rTx:=rTx_more
 have h':(rTx l s).2.e=0:=by rw[rBody_10]at h;exact h
 have e:=m0 l m s hs h'
 rw[rBody_10,rBody_10]
 rw[e]
theorem rBody_10s:Stk (rBody 10):=fun l s h=>by
 have hf:Stk rTx:=rTx_stk
 rw[rBody_10]
 exact hf l s h
theorem rBody_11e:RdEnc (rBody 11) encBody:=by
 have a0:RdEnc rSp (encSp):=rSp_enc
 have a1:RdEnc (rTwo rSp rSp Prod.mk) (fun a:(Sp)×(Sp)=>(encSp) a.1++encSp a.2):=rTwo_enc a0 rSp_enc rSp_stk fun _ _=>rfl
 have a2:RdEnc (rTwo (rTwo rSp rSp Prod.mk) rTx Prod.mk) (fun a:((Sp)×(Sp))×(Tx)=>(fun a:(Sp)×(Sp)=>(encSp) a.1++encSp a.2) a.1++encTx a.2):=rTwo_enc a1 rTx_enc rTx_stk fun _ _=>rfl
 have a3:RdEnc (rTwo (rTwo (rTwo rSp rSp Prod.mk) rTx Prod.mk) (rLs rWt) Prod.mk) (fun a:(((Sp)×(Sp))×(Tx))×(List Wt)=>(fun a:((Sp)×(Sp))×(Tx)=>(fun a:(Sp)×(Sp)=>(encSp) a.1++encSp a.2) a.1++encTx a.2) a.1++encLs encWt a.2):=rTwo_enc a2 (rLs_enc rWt_enc) (rLs_stk _) fun _ _=>rfl
 refine a3.map fun l s=>?_
 rw[rBody_11]
 refine⟨rfl,?_⟩
 unfold encBody
 simp[rTwo]
theorem rBody_11m:RdMore (rBody 11):=fun l m s hs h=>by
 have a0:RdEnc rSp (encSp):=rSp_enc
 have a1:RdEnc (rTwo rSp rSp Prod.mk) (fun a:(Sp)×(Sp)=>(encSp) a.1++encSp a.2):=rTwo_enc a0 rSp_enc rSp_stk fun _ _=>rfl
 have a2:RdEnc (rTwo (rTwo rSp rSp Prod.mk) rTx Prod.mk) (fun a:((Sp)×(Sp))×(Tx)=>(fun a:(Sp)×(Sp)=>(encSp) a.1++encSp a.2) a.1++encTx a.2):=rTwo_enc a1 rTx_enc rTx_stk fun _ _=>rfl
 have a3:RdEnc (rTwo (rTwo (rTwo rSp rSp Prod.mk) rTx Prod.mk) (rLs rWt) Prod.mk) (fun a:(((Sp)×(Sp))×(Tx))×(List Wt)=>(fun a:((Sp)×(Sp))×(Tx)=>(fun a:(Sp)×(Sp)=>(encSp) a.1++encSp a.2) a.1++encTx a.2) a.1++encLs encWt a.2):=rTwo_enc a2 (rLs_enc rWt_enc) (rLs_stk _) fun _ _=>rfl
 have m0:RdMore rSp:=rSp_more
 have m1:RdMore (rTwo rSp rSp Prod.mk):=rTwo_more m0 rSp_more a0 rSp_stk
 have m2:RdMore (rTwo (rTwo rSp rSp Prod.mk) rTx Prod.mk):=rTwo_more m1 rTx_more a1 rTx_stk
 have m3:RdMore (rTwo (rTwo (rTwo rSp rSp Prod.mk) rTx Prod.mk) (rLs rWt) Prod.mk):=rTwo_more m2 (rLs_more rWt_more rWt_enc) a2 (rLs_stk _)
 have h':((rTwo (rTwo (rTwo rSp rSp Prod.mk) rTx Prod.mk) (rLs rWt) Prod.mk) l s).2.e=0:=by rw[rBody_11]at h;exact h
 have e:=m3 l m s hs h'
 rw[rBody_11,rBody_11]
 simp only[rTwo,Prod.mk.injEq]at e
 obtain⟨⟨⟨⟨e1,e2⟩,e3⟩,e4⟩,e5⟩:=e
 simp only[e1,e2,e3,e4,e5]
theorem rBody_11s:Stk (rBody 11):=fun l s h=>by
 have hf:Stk (rTwo (rTwo (rTwo rSp rSp Prod.mk) rTx Prod.mk) (rLs rWt) Prod.mk):=(rTwo_stk (rTwo_stk (rTwo_stk rSp_stk rSp_stk) rTx_stk) (rLs_stk _))
 rw[rBody_11]
 exact hf l s h
theorem rBody_12e:RdEnc (rBody 12) encBody:=by
 have a0:RdEnc rSp (encSp):=rSp_enc
 have a1:RdEnc (rTwo rSp (rLs rWt) Prod.mk) (fun a:(Sp)×(List Wt)=>(encSp) a.1++encLs encWt a.2):=rTwo_enc a0 (rLs_enc rWt_enc) (rLs_stk _) fun _ _=>rfl
 refine a1.map fun l s=>?_
 rw[rBody_12]
 refine⟨rfl,?_⟩
 unfold encBody
 simp[rTwo]
theorem rBody_12m:RdMore (rBody 12):=fun l m s hs h=>by
 have a0:RdEnc rSp (encSp):=rSp_enc
 have a1:RdEnc (rTwo rSp (rLs rWt) Prod.mk) (fun a:(Sp)×(List Wt)=>(encSp) a.1++encLs encWt a.2):=rTwo_enc a0 (rLs_enc rWt_enc) (rLs_stk _) fun _ _=>rfl
 have m0:RdMore rSp:=rSp_more
 have m1:RdMore (rTwo rSp (rLs rWt) Prod.mk):=rTwo_more m0 (rLs_more rWt_more rWt_enc) a0 (rLs_stk _)
 have h':((rTwo rSp (rLs rWt) Prod.mk) l s).2.e=0:=by rw[rBody_12]at h;exact h
 have e:=m1 l m s hs h'
 rw[rBody_12,rBody_12]
 simp only[rTwo,Prod.mk.injEq]at e
 obtain⟨⟨e1,e2⟩,e3⟩:=e
 simp only[e1,e2,e3]
theorem rBody_12s:Stk (rBody 12):=fun l s h=>by
 have hf:Stk (rTwo rSp (rLs rWt) Prod.mk):=(rTwo_stk rSp_stk (rLs_stk _))
 rw[rBody_12]
 exact hf l s h
theorem kinds12 {k:Int} (h:kindB k=true):k=1∨k=2∨k=3∨k=4∨k=5∨k=6∨k=7∨k=8∨k=9∨k=10∨k=11∨k=12:=by
 unfold kindB at h
 rw[decide_eq_true_eq]at h
 omega
theorem encBody_o (r:Rc) (h:kindB r.k=false):encBody r=[]:=by
 unfold kindB at h
 rw[decide_eq_false_iff_not]at h
 unfold encBody
 rw[if_neg (by omega),if_neg (by omega),if_neg (by omega),if_neg (by omega),if_neg (by omega),if_neg (by omega),if_neg (by omega),if_neg (by omega),if_neg (by omega),if_neg (by omega),if_neg (by omega),if_neg (by omega)]
theorem rBody_enc (k:Int):RdEnc (rBody k) encBody:=by
 cases hk:kindB k
 · intro l s hs h
   rw[rBody_o k l s hk]
   exact⟨hs,by rw[encBody_o _ hk,List.append_nil]⟩
 · rcases kinds12 hk with rfl|rfl|rfl|rfl|rfl|rfl|rfl|rfl|rfl|rfl|rfl|rfl
   · exact rBody_1e
   · exact rBody_2e
   · exact rBody_3e
   · exact rBody_4e
   · exact rBody_5e
   · exact rBody_6e
   · exact rBody_7e
   · exact rBody_8e
   · exact rBody_9e
   · exact rBody_10e
   · exact rBody_11e
   · exact rBody_12e
theorem rBody_more (k:Int):RdMore (rBody k):=by
 cases hk:kindB k
 · intro l m s hs h
   rw[rBody_o k _ s hk,rBody_o k _ s hk]
 · rcases kinds12 hk with rfl|rfl|rfl|rfl|rfl|rfl|rfl|rfl|rfl|rfl|rfl|rfl
   · exact rBody_1m
   · exact rBody_2m
   · exact rBody_3m
   · exact rBody_4m
   · exact rBody_5m
   · exact rBody_6m
   · exact rBody_7m
   · exact rBody_8m
   · exact rBody_9m
   · exact rBody_10m
   · exact rBody_11m
   · exact rBody_12m
theorem rBody_stk (k:Int):Stk (rBody k):=by
 cases hk:kindB k
 · intro l s h
   rw[rBody_o k _ s hk]
 · rcases kinds12 hk with rfl|rfl|rfl|rfl|rfl|rfl|rfl|rfl|rfl|rfl|rfl|rfl
   · exact rBody_1s
   · exact rBody_2s
   · exact rBody_3s
   · exact rBody_4s
   · exact rBody_5s
   · exact rBody_6s
   · exact rBody_7s
   · exact rBody_8s
   · exact rBody_9s
   · exact rBody_10s
   · exact rBody_11s
   · exact rBody_12s
theorem rBody_k (k:Int) (l:List UInt8) (s:RS):(rBody k l s).1.k=k:=by
 cases hk:kindB k
 · rw[rBody_o k _ s hk]
 · rcases kinds12 hk with rfl|rfl|rfl|rfl|rfl|rfl|rfl|rfl|rfl|rfl|rfl|rfl
   · rw[rBody_1]
   · rw[rBody_2]
   · rw[rBody_3]
   · rw[rBody_4]
   · rw[rBody_5]
   · rw[rBody_6]
   · rw[rBody_7]
   · rw[rBody_8]
   · rw[rBody_9]
   · rw[rBody_10]
   · rw[rBody_11]
   · rw[rBody_12]
theorem rRc_enc:RdEnc rRc encRc:=fun l s hs h=>by
 have h1:(rInt l s).2.e=0:=(rBody_stk _).ok h
 obtain⟨a1,a2⟩:=rInt_enc' l s hs h1
 obtain⟨b1,b2⟩:=rBody_enc (rInt l s).1 l _ a1 h
 refine⟨b1,?_⟩
 show l.take (rBody (rInt l s).1 l (rInt l s).2).2.at_=l.take s.at_++encRc (rBody (rInt l s).1 l (rInt l s).2).1
 unfold encRc
 rw[b2,a2,rBody_k,List.append_assoc]
theorem rRc_more:RdMore rRc:=fun l m s hs h=>by
 have h1:(rInt l s).2.e=0:=(rBody_stk _).ok h
 obtain⟨a1,a2⟩:=rInt_enc' l s hs h1
 have e1:=rInt_more l m s hs h1
 show rBody (rInt (l++m) s).1 (l++m) (rInt (l++m) s).2=rBody (rInt l s).1 l (rInt l s).2
 rw[e1]
 exact rBody_more (rInt l s).1 l m _ a1 h
structure RcCnt (N:Nat) (r:Rc):Prop where
 rd:r.rd.length≤N
 wr:r.wr.length≤N
 ps:r.ps.length≤N
 pr:r.pr.length≤N
 h:r.st.h.length≤N∧∀h∈r.st.h,h.vs.length≤N
 p:r.st.p.length≤N∧∀p∈r.st.p,p.r.length≤N∧p.w.length≤N
theorem rSt_cnt (l:List UInt8) (s:RS):((rSt l s).1.h.length≤l.length∧∀h∈(rSt l s).1.h,h.vs.length≤l.length)∧((rSt l s).1.p.length≤l.length∧∀p∈(rSt l s).1.p,p.r.length≤l.length∧p.w.length≤l.length):=
 ⟨⟨rLs_le l _,rLs_all (Q:=fun h:Hs=>h.vs.length≤l.length) l _ fun s=>rLs_le l _⟩,rLs_le l _,rLs_all (Q:=fun p:Pn=>p.r.length≤l.length∧p.w.length≤l.length) l _ fun s=>⟨rLs_le l _,rLs_le l _⟩⟩
theorem rRc_cnt (l:List UInt8) (s:RS):RcCnt l.length (rRc l s).1:=by
 have z0:([]:List Hs).length≤l.length∧∀h∈([]:List Hs),h.vs.length≤l.length:=⟨Nat.zero_le _,fun h hh=>by cases hh⟩
 have z1:([]:List Pn).length≤l.length∧∀p∈([]:List Pn),p.r.length≤l.length∧p.w.length≤l.length:=⟨Nat.zero_le _,fun h hh=>by cases hh⟩
 show RcCnt l.length (rBody (rInt l s).1 l (rInt l s).2).1
 generalize (rInt l s).2=s0
 generalize (rInt l s).1=k
 cases hk:kindB k
 · rw[rBody_o k _ s0 hk]
   exact⟨Nat.zero_le _,Nat.zero_le _,Nat.zero_le _,Nat.zero_le _,z0,z1⟩
 · rcases kinds12 hk with rfl|rfl|rfl|rfl|rfl|rfl|rfl|rfl|rfl|rfl|rfl|rfl
   · rw[rBody_1]
     exact⟨Nat.zero_le _,Nat.zero_le _,Nat.zero_le _,Nat.zero_le _,(rSt_cnt l _).1,(rSt_cnt l _).2⟩
   · rw[rBody_2]
     exact⟨Nat.zero_le _,Nat.zero_le _,Nat.zero_le _,Nat.zero_le _,z0,z1⟩
   · rw[rBody_3]
     exact⟨rLs_le l _,rLs_le l _,rLs_le l _,Nat.zero_le _,z0,z1⟩
   · rw[rBody_4]
     exact⟨Nat.zero_le _,Nat.zero_le _,Nat.zero_le _,Nat.zero_le _,z0,z1⟩
   · rw[rBody_5]
     exact⟨Nat.zero_le _,Nat.zero_le _,Nat.zero_le _,Nat.zero_le _,z0,z1⟩
   · rw[rBody_6]
     exact⟨Nat.zero_le _,Nat.zero_le _,Nat.zero_le _,Nat.zero_le _,z0,z1⟩
   · rw[rBody_7]
     exact⟨Nat.zero_le _,Nat.zero_le _,Nat.zero_le _,Nat.zero_le _,z0,z1⟩
   · rw[rBody_8]
     exact⟨Nat.zero_le _,Nat.zero_le _,Nat.zero_le _,Nat.zero_le _,z0,z1⟩
   · rw[rBody_9]
     exact⟨Nat.zero_le _,Nat.zero_le _,rLs_le l _,Nat.zero_le _,z0,z1⟩
   · rw[rBody_10]
     exact⟨Nat.zero_le _,Nat.zero_le _,Nat.zero_le _,Nat.zero_le _,z0,z1⟩
   · rw[rBody_11]
     exact⟨Nat.zero_le _,rLs_le l _,Nat.zero_le _,Nat.zero_le _,z0,z1⟩
   · rw[rBody_12]
     exact⟨Nat.zero_le _,Nat.zero_le _,Nat.zero_le _,rLs_le l _,z0,z1⟩
theorem RcCnt.sm {N:Nat} {r:Rc} {h:Hds} (hc:RcCnt N r) (hN:N≤1000000) (h1:r.rd.length=h.a.n) (h2:r.wr.length=h.b.n) (h3:r.ps.length=h.c.n) (h4:r.pr.length=h.d.n):RcSm r h:=
 ⟨by rw[←h1];exact Nat.le_trans hc.rd hN,by rw[←h2];exact Nat.le_trans hc.wr hN,by rw[←h3];exact Nat.le_trans hc.ps hN,by rw[←h4];exact Nat.le_trans hc.pr hN,
  ⟨Nat.le_trans hc.h.1 hN,fun x hx=>Nat.le_trans (hc.h.2 x hx) hN⟩,⟨Nat.le_trans hc.p.1 hN,fun x hx=>⟨Nat.le_trans (hc.p.2 x hx).1 hN,Nat.le_trans (hc.p.2 x hx).2 hN⟩⟩⟩
end Go.Proofs.YthdmanadhbpogaaGreat
/- Plain: of what was written the reading tells just that. -/
namespace Go.Proofs.YthdmanadhbpogaaGreat
set_option linter.unusedVariables false
open Go.RowKit Fl
def Back {α:Type} (f:Rdf α) (enc:α→List UInt8) (Q:α→Prop):Prop:=∀a pre r,Q a→f (pre++(enc a++r)) ⟨pre.length,0,0⟩=(a,⟨pre.length+(enc a).length,0,0⟩)
theorem leV_leW:∀(k u:Nat),leV (leW k u)=u%256^k:=by
 intro k
 induction k with
 |zero=>intro u;simp[leW,leV,Nat.mod_one]
 |succ k ih=>
  intro u
  have e:(u%256).toUInt8.toNat=u%256:=by show u%256%256=_;omega
  show (u%256).toUInt8.toNat+256*leV (leW k (u/256))=_
  rw[e,ih,Nat.pow_succ,Nat.mul_comm (256^k) 256,Nat.mod_mul]
theorem dec_enc' (pre r:List UInt8) {n:Int} (h:i64ok n):dec (pre++(encI n++r)) pre.length=.ok n (pre.length+(encI n).length):=by
 rw[←List.append_assoc]
 exact dec_enc pre r h.1 h.2
theorem rInt_back:Back rInt encI i64ok:=fun n pre r h=>by
 unfold rInt
 rw[if_neg (by simp),dec_enc' pre r h]
theorem rFlag_back:Back rFlag encB fun _=>True:=fun b pre r _=>by
 unfold rFlag
 rw[if_neg (by simp)]
 have e:(pre++(encB b++r))[pre.length]?=some (if b then 1 else 0):=by
  rw[List.getElem?_append_right (Nat.le_refl _),Nat.sub_self];rfl
 simp only[e]
 cases b<;>rfl
theorem rFloat_back:Back rFloat encF64 fun x=>x<18446744073709551616∧canonB x=x:=fun x pre r h=>by
 obtain⟨hx,hc⟩:=h
 unfold rFloat encF64
 have hl:=leW_len 8 (canonB x)
 have e:((pre++(leW 8 (canonB x)++r)).drop pre.length).take 8=leW 8 (canonB x):=by
  rw[List.drop_left' rfl,List.take_append_of_le_length (by omega),List.take_of_length_le (by omega)]
 have e2:leV (leW 8 (canonB x))=x:=by rw[leV_leW,hc,Nat.mod_eq_of_lt (by simpa using hx)]
 rw[if_neg (by simp),if_neg (by simp only[List.length_append,hl];omega)]
 simp only[e,e2]
 rw[if_neg (by simp[hc]),hl]
theorem rKy_back (most:Int) (hm:most≤1000000000000):Back (rKy most) encKy fun k=>(k.size:Int)≤most:=fun k pre r h=>by
 have hk:(k.data.toList.length:Int)=(k.size:Int):=by rw[Array.length_toList];rfl
 have hd:=dec_enc' pre (k.data.toList++r) (n:=(k.data.toList.length:Int)) (by unfold i64ok;omega)
 have e1:pre++(encKy k++r)=pre++(encI (k.data.toList.length:Int)++(k.data.toList++r)):=by unfold encKy encT;simp only[List.append_assoc]
 have e:rText (pre++(encKy k++r)) ⟨pre.length,0,0⟩ most=(k.data.toList,⟨pre.length+(encKy k).length,0,0⟩):=by
  unfold rText
  rw[if_neg (by simp),e1,hd]
  simp only
  rw[if_neg (by omega),if_neg (by omega),if_neg (by simp only[List.length_append];omega)]
  have e2:((pre++(encI (k.data.toList.length:Int)++(k.data.toList++r))).drop (pre.length+(encI (k.data.toList.length:Int)).length)).take ((k.data.toList.length:Int)).toNat=k.data.toList:=by
   rw[←List.append_assoc,Int.toNat_natCast,←List.length_append,List.drop_left' rfl,List.take_append_of_le_length (Nat.le_refl _),List.take_of_length_le (Nat.le_refl _)]
  have e3:(encKy k).length=(encI (k.data.toList.length:Int)).length+k.data.toList.length:=by unfold encKy encT;rw[List.length_append]
  rw[e2,e3,Int.toNat_natCast,Nat.add_assoc]
 show (_,_)=_
 rw[e]
section
variable {α β γ:Type} {f:Rdf α} {g:Rdf β} {mk:α→β→γ} {ef:α→List UInt8} {eg:β→List UInt8} {e:γ→List UInt8} {Qf:α→Prop} {Qg:β→Prop} {Q:γ→Prop}
theorem Back.two (hf:Back f ef Qf) (hg:Back g eg Qg) (he:∀a b,e (mk a b)=ef a++eg b) (hQ:∀c,Q c→∃a b,c=mk a b∧Qf a∧Qg b):Back (rTwo f g mk) e Q:=fun c pre r h=>by
 obtain⟨a,b,rfl,ha,hb⟩:=hQ c h
 rw[he]
 have h1:=hf a pre (eg b++r) ha
 have h2:=hg b (pre++ef a) r hb
 rw[List.length_append]at h2
 have e1:pre++(ef a++eg b++r)=pre++(ef a++(eg b++r)):=by simp only[List.append_assoc]
 have e2:pre++(ef a++(eg b++r))=pre++ef a++(eg b++r):=by simp only[List.append_assoc]
 unfold rTwo
 rw[e1,h1]
 simp only
 rw[e2,h2,List.length_append,Nat.add_assoc]
theorem rLoop_back (hf:Back f ef Qf):∀(l:List α) (pre r:List UInt8),(∀a∈l,Qf a)→rLoop f (pre++(l.flatMap ef++r)) l.length ⟨pre.length,0,0⟩=(l,⟨pre.length+(l.flatMap ef).length,0,0⟩):=by
 intro l
 induction l with
 |nil=>intro pre r _;rfl
 |cons a l ih=>
  intro pre r h
  have h1:=hf a pre (l.flatMap ef++r) (h a List.mem_cons_self)
  have h2:=ih (pre++ef a) r fun b hb=>h b (List.mem_cons_of_mem _ hb)
  rw[List.length_append]at h2
  have e1:pre++((a::l).flatMap ef++r)=pre++(ef a++(l.flatMap ef++r)):=by simp only[List.flatMap_cons,List.append_assoc]
  have e2:pre++(ef a++(l.flatMap ef++r))=pre++ef a++(l.flatMap ef++r):=by simp only[List.append_assoc]
  have hn:=rLoop_next f (pre++((a::l).flatMap ef++r)) (k:=l.length+1) (s:=⟨pre.length,0,0⟩) (by omega) rfl
  rw[Nat.add_sub_cancel]at hn
  rw[List.length_cons,hn,e1,h1]
  simp only
  rw[e2,h2,List.flatMap_cons,List.length_append,Nat.add_assoc]
theorem flat_ge (h1:∀a:α,1≤(ef a).length):∀l:List α,l.length≤(l.flatMap ef).length:=by
 intro l
 induction l with
 |nil=>exact Nat.le_refl _
 |cons a l ih=>
  rw[List.flatMap_cons,List.length_append,List.length_cons]
  have:=h1 a
  omega
theorem rLs_back (hf:Back f ef Qf) (h1:∀a:α,1≤(ef a).length):Back (rLs f) (encLs ef) fun l=>l.length≤1000000000000∧∀a∈l,Qf a:=fun l pre r h=>by
 have e1:pre++(encLs ef l++r)=pre++(encI (l.length:Int)++(l.flatMap ef++r)):=by unfold encLs;simp only[List.append_assoc]
 have e2:pre++(encI (l.length:Int)++(l.flatMap ef++r))=pre++encI (l.length:Int)++(l.flatMap ef++r):=by simp only[List.append_assoc]
 have hd:=dec_enc' pre (l.flatMap ef++r) (n:=(l.length:Int)) (by unfold i64ok;have:=h.1;omega)
 have hge:=flat_ge h1 l
 have hc:rCnt (pre++(encI (l.length:Int)++(l.flatMap ef++r))) ⟨pre.length,0,0⟩=((l.length:Int),⟨pre.length+(encI (l.length:Int)).length,0,0⟩):=by
  unfold rCnt rCount
  rw[if_neg (by simp),hd]
  simp only
  rw[if_neg (by omega),if_neg]
  unfold rLeft
  rw[if_neg (by simp)]
  simp only[List.length_append]
  omega
 have h2:=rLoop_back hf l (pre++encI (l.length:Int)) r h.2
 rw[List.length_append]at h2
 unfold rLs
 rw[e1,hc]
 simp only
 rw[Int.toNat_natCast,e2,h2]
 unfold encLs
 rw[List.length_append,Nat.add_assoc]
end
theorem encI_pos (n:Int):1≤(encI n).length:=by
 unfold encI
 by_cases h:zig n<128
 · rw[encU_small h];exact Nat.le_refl _
 · rw[encU_big h,List.length_cons];omega
theorem encKy_pos (k:ByteArray):1≤(encKy k).length:=by
 unfold encKy encT
 rw[List.length_append]
 have:=encI_pos (k.data.toList.length:Int)
 omega
theorem rII_back:Back (rTwo rInt rInt Prod.mk) (fun a=>encI a.1++encI a.2) fun a=>i64ok a.1∧i64ok a.2:=rInt_back.two rInt_back (fun _ _=>rfl) fun c h=>⟨c.1,c.2,rfl,h.1,h.2⟩
theorem rSp_back:Back rSp encSp Sp.ok:=by
 rw[rSp_eq]
 exact rII_back.two rInt_back (fun a b=>by show encI _++(encI _++encI _)=(encI _++encI _)++encI _;rw[List.append_assoc]) fun c h=>⟨(c.w,c.l),c.n,rfl,⟨h.1,h.2.1⟩,h.2.2⟩
theorem rTx_back:Back rTx encTx Tx.ok:=by
 rw[rTx_eq]
 exact rII_back.two rInt_back (fun a b=>by show encI _++(encI _++encI _)=(encI _++encI _)++encI _;rw[List.append_assoc]) fun c h=>⟨(c.c,c.l),c.s,rfl,⟨h.1,h.2.1⟩,h.2.2⟩
def VlG (v:Vl):Prop:=v.ok∧v.may=true
theorem empty_of {t:ByteArray} (h:emptyB t=true):t=⟨#[]⟩:=by
 refine bytes_toList ?_
 have h1:t.toList=[]:=by simpa [emptyB] using h
 have h2:(⟨#[]⟩:ByteArray).toList=[]:=by
  simp
 rw[h1,h2]
theorem rVl_back:Back rVl encVl VlG:=fun v pre r h=>by
 obtain⟨hok,hm⟩:=h
 obtain⟨k,n,t⟩:=v
 have hk:=may_kind hm
 have e:rVl0 (pre++(encVl ⟨k,n,t⟩++r)) ⟨pre.length,0,0⟩=(⟨k,n,t⟩,⟨pre.length+(encVl ⟨k,n,t⟩).length,0,0⟩):=by
  unfold encVl
  rw[if_pos hm]
  have hcnt:∀(k:Int) (x:List UInt8),(k=0∨k=1∨k=2)→rCount (pre++(encI k++x)) ⟨pre.length,0,0⟩ 2 4=(k,⟨pre.length+(encI k).length,0,0⟩):=fun k x hk=>by
   unfold rCount
   rw[if_neg (by simp),dec_enc' pre x (by unfold i64ok;omega)]
   simp only
   rw[if_neg (by omega),if_neg (by omega)]
  simp only at hk
  rcases hk with rfl|rfl|rfl
  · rw[Vl.may0 rfl]at hm
    simp only[Bool.and_eq_true]at hm
    obtain⟨h1,h2⟩:=hm
    obtain rfl:=empty_of h2
    have hn:n=0:=by simpa using h1
    subst hn
    rw[if_neg (show ¬(0:Int)=1 by omega),if_neg (show ¬(0:Int)=2 by omega)]
    unfold rVl0
    rw[hcnt 0 r (.inl rfl)]
    rw[if_neg (show ¬(0:Int)=1 by omega),if_neg (show ¬(0:Int)=2 by omega)]
  · rw[Vl.may1 rfl]at hm
    simp only[Bool.and_eq_true]at hm
    obtain⟨h2,h1⟩:=hm
    obtain rfl:=empty_of h2
    have hc:canonB n=n:=by
        have h1':((n:Nat):Int)=(canonB n:Int):=by simpa using h1
        omega
    rw[if_pos (show (1:Int)=1 from rfl)]
    have e1:pre++(encI 1++encF64 n++r)=pre++(encI 1++(encF64 n++r)):=by simp only[List.append_assoc]
    have e2:pre++(encI 1++(encF64 n++r))=pre++encI 1++(encF64 n++r):=by simp only[List.append_assoc]
    have hf:=rFloat_back n (pre++encI 1) r ⟨hok.2.1,hc⟩
    rw[List.length_append]at hf
    unfold rVl0
    rw[e1,hcnt 1 _ (.inr (.inl rfl))]
    simp only
    rw[if_pos trivial,e2,hf,List.length_append,Nat.add_assoc]
  · rw[Vl.may2 rfl]at hm
    simp only[Bool.and_eq_true,decide_eq_true_eq]at hm
    obtain⟨h1,h2⟩:=hm
    have hn:n=0:=by simpa using h1
    subst hn
    rw[if_neg (show ¬(2:Int)=1 by omega),if_pos (show (2:Int)=2 from rfl)]
    have e1:pre++(encI 2++encKy t++r)=pre++(encI 2++(encKy t++r)):=by simp only[List.append_assoc]
    have e2:pre++(encI 2++(encKy t++r))=pre++encI 2++(encKy t++r):=by simp only[List.append_assoc]
    have hf:=rKy_back 64 (by omega) t (pre++encI 2) r h2
    rw[List.length_append]at hf
    unfold rVl0
    rw[e1,hcnt 2 _ (.inr (.inr rfl))]
    simp only
    rw[if_neg (by omega),if_pos trivial,e2,hf,List.length_append,Nat.add_assoc]
 unfold rVl
 rw[e,if_neg (by simp)]
def KyG (k:ByteArray):Prop:=(k.size:Int)≤262144
def WtG (a:Wt):Prop:=KyG a.key∧VlG a.v
def VnG (a:Vn):Prop:=a.s.ok∧VlG a.v
def LsG {α:Type} (Q:α→Prop) (l:List α):Prop:=l.length≤1000000000000∧∀a∈l,Q a
def HsG (h:Hs):Prop:=KyG h.key∧LsG VnG h.vs
def PnG (p:Pn):Prop:=p.t.ok∧p.s.ok∧LsG KyG p.r∧LsG WtG p.w
def FlG (x:Nat):Prop:=x<18446744073709551616∧canonB x=x
def RgG (r:Rg):Prop:=i64ok r.id∧i64ok r.ep∧FlG r.lo∧FlG r.hi
def SttG (s:Stt):Prop:=RgG s.r∧s.f.ok∧s.c.ok∧LsG HsG s.h∧LsG PnG s.p
theorem rKey_back:Back rKey encKy KyG:=rKy_back 262144 (by omega)
theorem rWt_back:Back rWt encWt WtG:=rKey_back.two rVl_back (fun _ _=>rfl) fun c h=>⟨c.key,c.v,rfl,h.1,h.2⟩
theorem rVn_back:Back rVn encVn VnG:=rSp_back.two rVl_back (fun _ _=>rfl) fun c h=>⟨c.s,c.v,rfl,h.1,h.2⟩
theorem app_pos {a b:List UInt8} (h:1≤a.length):1≤(a++b).length:=by rw[List.length_append];omega
theorem encWt_pos (a:Wt):1≤(encWt a).length:=app_pos (encKy_pos _)
theorem encSp_pos (a:Sp):1≤(encSp a).length:=app_pos (encI_pos _)
theorem encTx_pos (a:Tx):1≤(encTx a).length:=app_pos (encI_pos _)
theorem encVn_pos (a:Vn):1≤(encVn a).length:=app_pos (encSp_pos _)
theorem encHs_pos (a:Hs):1≤(encHs a).length:=app_pos (encKy_pos _)
theorem encPn_pos (a:Pn):1≤(encPn a).length:=app_pos (encTx_pos _)
theorem rHs_back:Back rHs encHs HsG:=rKey_back.two (rLs_back rVn_back encVn_pos) (fun _ _=>rfl) fun c h=>⟨c.key,c.vs,rfl,h.1,h.2⟩
theorem rTS_back:Back (rTwo rTx rSp Prod.mk) (fun a=>encTx a.1++encSp a.2) fun a=>a.1.ok∧a.2.ok:=rTx_back.two rSp_back (fun _ _=>rfl) fun c h=>⟨c.1,c.2,rfl,h.1,h.2⟩
theorem rTSK_back:Back (rTwo (rTwo rTx rSp Prod.mk) (rLs rKey) Prod.mk) (fun a=>(encTx a.1.1++encSp a.1.2)++encLs encKy a.2) fun a=>(a.1.1.ok∧a.1.2.ok)∧LsG KyG a.2:=
 rTS_back.two (rLs_back rKey_back encKy_pos) (fun _ _=>rfl) fun c h=>⟨c.1,c.2,rfl,h.1,h.2⟩
theorem rPn_back:Back rPn encPn PnG:=rTSK_back.two (rLs_back rWt_back encWt_pos) (fun a b=>by
 show encTx _++(encSp _++(encLs encKy _++encLs encWt _))=((encTx _++encSp _)++encLs encKy _)++encLs encWt _
 simp only[List.append_assoc]) fun c h=>⟨((c.t,c.s),c.r),c.w,rfl,⟨⟨h.1,h.2.1⟩,h.2.2.1⟩,h.2.2.2⟩
theorem rIIF_back:Back (rTwo (rTwo rInt rInt Prod.mk) rFloat Prod.mk) (fun a=>(encI a.1.1++encI a.1.2)++encF64 a.2) fun a=>(i64ok a.1.1∧i64ok a.1.2)∧FlG a.2:=rII_back.two rFloat_back (fun _ _=>rfl) fun c h=>⟨c.1,c.2,rfl,h.1,h.2⟩
theorem rRg_back:Back rRg encRg RgG:=rIIF_back.two rFloat_back (fun a b=>by
 show encI _++(encI _++(encF64 _++encF64 _))=((encI _++encI _)++encF64 _)++encF64 _
 simp only[List.append_assoc]) fun c h=>⟨((c.id,c.ep),c.lo),c.hi,rfl,⟨⟨h.1,h.2.1⟩,h.2.2.1⟩,h.2.2.2⟩
theorem rRS_back:Back (rTwo rRg rSp Prod.mk) (fun a=>encRg a.1++encSp a.2) fun a=>RgG a.1∧a.2.ok:=rRg_back.two rSp_back (fun _ _=>rfl) fun c h=>⟨c.1,c.2,rfl,h.1,h.2⟩
theorem rRSS_back:Back (rTwo (rTwo rRg rSp Prod.mk) rSp Prod.mk) (fun a=>(encRg a.1.1++encSp a.1.2)++encSp a.2) fun a=>(RgG a.1.1∧a.1.2.ok)∧a.2.ok:=rRS_back.two rSp_back (fun _ _=>rfl) fun c h=>⟨c.1,c.2,rfl,h.1,h.2⟩
theorem rRSSH_back:Back (rTwo (rTwo (rTwo rRg rSp Prod.mk) rSp Prod.mk) (rLs rHs) Prod.mk) (fun a=>((encRg a.1.1.1++encSp a.1.1.2)++encSp a.1.2)++encLs encHs a.2) fun a=>((RgG a.1.1.1∧a.1.1.2.ok)∧a.1.2.ok)∧LsG HsG a.2:=
 rRSS_back.two (rLs_back rHs_back encHs_pos) (fun _ _=>rfl) fun c h=>⟨c.1,c.2,rfl,h.1,h.2⟩
theorem rSt_back:Back rSt encSt SttG:=rRSSH_back.two (rLs_back rPn_back encPn_pos) (fun a b=>by
 show encRg _++(encSp _++(encSp _++(encLs encHs _++encLs encPn _)))=(((encRg _++encSp _)++encSp _)++encLs encHs _)++encLs encPn _
 simp only[List.append_assoc]) fun c h=>⟨(((c.r,c.f),c.c),c.h),c.p,rfl,⟨⟨⟨h.1,h.2.1⟩,h.2.2.1⟩,h.2.2.2.1⟩,h.2.2.2.2⟩
theorem rise_keys:∀(l:List ByteArray) (p:Option ByteArray),riseFrom p l=true→∀k∈l,KyG k:=by
 intro l
 induction l with
 |nil=>intro p _ k hk;cases hk
 |cons a l ih=>
  intro p h k hk
  have h':=h
  unfold riseFrom at h'
  simp only[Bool.and_eq_true]at h'
  rcases List.mem_cons.1 hk with rfl|hk
  · have:=h'.1.1
    unfold keyB at this
    simp only[Bool.and_eq_true,decide_eq_true_eq]at this
    unfold KyG;omega
  · exact ih _ h'.2 k hk
theorem allMayV:∀(l:List Wt),allMay l=true→∀a∈l,a.v.may=true:=by
 intro l
 induction l with
 |nil=>intro _ a h;cases h
 |cons x l ih=>
  intro h a ha
  have h':(x.v.may&&allMay l)=true:=h
  simp only[Bool.and_eq_true]at h'
  rcases List.mem_cons.1 ha with rfl|ha
  · exact h'.1
  · exact ih h'.2 a ha
theorem pend_good {p:Pn} (h:pendE p=0):(∀k∈p.r,KyG k)∧∀a∈p.w,KyG a.key∧a.v.may=true:=by
 unfold pendE at h
 split at h
 · omega
 · split at h
   · omega
   · split at h
     · omega
     · rename_i h1 h2 h3
       split at h
       · rename_i h4
         simp only[Bool.or_eq_true,Bool.not_eq_true',not_or,Bool.not_eq_false]at h3
         have r1:=h3.1
         have r2:=h3.2
         unfold riseB at r1 r2
         simp only[Bool.and_eq_true]at r1 r2
         refine⟨rise_keys _ _ r1.1,fun a ha=>⟨rise_keys _ _ r2.1 a.key (List.mem_map_of_mem ha),allMayV _ h4 a ha⟩⟩
       · omega
theorem prs_good:∀(l:List Wt) (p:Option ByteArray),prsFrom p l=true→∀a∈l,KyG a.key∧a.v.may=true:=by
 intro l
 induction l with
 |nil=>intro p _ k hk;cases hk
 |cons x l ih=>
  intro p h a ha
  have h':=h
  unfold prsFrom at h'
  simp only[Bool.and_eq_true]at h'
  rcases List.mem_cons.1 ha with rfl|ha
  · have:=h'.1.1.1.1
    unfold keyB at this
    simp only[Bool.and_eq_true,decide_eq_true_eq]at this
    exact⟨by unfold KyG;omega,h'.1.1.2⟩
  · exact ih _ h'.2 a ha
theorem vers_good:∀(l:List Vn) (p:Sp),versB p l=true→∀a∈l,a.v.may=true:=by
 intro l
 induction l with
 |nil=>intro p _ k hk;cases hk
 |cons x l ih=>
  intro p h a ha
  have h':(x.s.may&&decide (0<x.s.cmp p)&&x.v.may&&versB x.s l)=true:=h
  simp only[Bool.and_eq_true]at h'
  rcases List.mem_cons.1 ha with rfl|ha
  · exact h'.1.2
  · exact ih _ h'.2 a ha
theorem hists_good:∀(l:List Hs) (p:ByteArray),histsB p l=true→∀h∈l,KyG h.key∧∀v∈h.vs,v.v.may=true:=by
 intro l
 induction l with
 |nil=>intro p _ k hk;cases hk
 |cons x l ih=>
  intro p h a ha
  have h':(histB p x&&histsB x.key l)=true:=h
  simp only[Bool.and_eq_true]at h'
  rcases List.mem_cons.1 ha with rfl|ha
  · have h1:=h'.1
    unfold histB keyB at h1
    simp only[Bool.and_eq_true,decide_eq_true_eq]at h1
    exact⟨by unfold KyG;omega,vers_good _ _ h1.2⟩
  · exact ih _ h'.2 a ha
theorem pends_good:∀(l:List Pn) (H:List Hs) (m:List Pn),pendsE H m l=0→∀p∈l,pendE p=0:=by
 intro l
 induction l with
 |nil=>intro H m _ k hk;cases hk
 |cons x l ih=>
  intro H m h a ha
  have h':(if pendE x≠0 then pendE x else if (m.any fun y=>decide (y.t=x.t)) then 9 else if lockedB m x then 18 else if oldB H x then 20 else pendsE H (m++[x]) l)=0:=h
  split at h'
  · rename_i h1;exact absurd h' h1
  · rename_i h1
    split at h'
    · omega
    · split at h'
      · omega
      · split at h'
        · omega
        · rcases List.mem_cons.1 ha with rfl|ha
          · exact Decidable.byContradiction h1
          · exact ih _ _ h' a ha
theorem pt_good {x:Nat} (h:x≤4607182418800017408):FlG x:=by
 refine⟨by omega,?_⟩
 unfold canonB
 rw[dnan_iff,decide_eq_false (by omega)]
 rfl
def SttOk (s:Stt):Prop:=s.r.ok∧s.f.ok∧s.c.ok∧SmallH s.h∧SmallP s.p∧(∀h∈s.h,∀v∈h.vs,v.ok)∧∀p∈s.p,p.t.ok∧p.s.ok∧∀a∈p.w,a.ok
theorem stt_good {s:Stt} (h:mayS s=true) (ok:SttOk s):SttG s:=by
 obtain⟨o1,o2,o3,o4,o5,o6,o7⟩:=ok
 unfold mayS at h
 simp only[Bool.and_eq_true,decide_eq_true_eq]at h
 obtain⟨⟨⟨⟨⟨h1,h2⟩,h3⟩,h4⟩,h5⟩,h6⟩:=h
 have hp:=mayR_lo h1
 have hl:histsB ⟨#[]⟩ s.h=true:=by
  unfold loadE at h4
  split at h4
  · assumption
  · omega
 have hq:pendsE s.h [] s.p=0:=by
  unfold loadE at h4
  rw[if_pos hl]at h4;exact h4
 refine⟨⟨o1.1,o1.2.1,pt_good (by omega),pt_good (by omega)⟩,o2,o3,⟨by have:=o4.1;omega,fun h hh=>?_⟩,⟨by have:=o5.1;omega,fun p hp=>?_⟩⟩
 · obtain⟨a1,a2⟩:=hists_good _ _ hl h hh
   exact⟨a1,by have:=o4.2 h hh;omega,fun v hv=>⟨(o6 h hh v hv).1,(o6 h hh v hv).2,a2 v hv⟩⟩
 · obtain⟨a1,a2⟩:=pend_good (pends_good _ _ _ hq p hp)
   obtain⟨b1,b2,b3⟩:=o7 p hp
   have c:=o5.2 p hp
   exact⟨b1,b2,⟨by omega,a1⟩,⟨by omega,fun a ha=>⟨(a2 a ha).1,(b3 a ha).2,(a2 a ha).2⟩⟩⟩
end Go.Proofs.YthdmanadhbpogaaGreat
