/- Plain: what is read without a fault, written, is what was read; more bytes behind it turn nothing; how many there may be. -/
import Derived.Test.YtcalkfgibflbnaaGreatDaaf
namespace Go.Proofs.YtcalkfgibflbnaaGreat
set_option linter.unusedVariables false
open Go.RowKit Fl
theorem leW_leV:∀bs:List UInt8,leW bs.length (leV bs)=bs:=by
 intro bs
 induction bs with
 |nil=>rfl
 |cons c t ih=>
  have hc:=c.toNat_lt
  show ((c.toNat+256*leV t)%256).toUInt8::leW t.length ((c.toNat+256*leV t)/256)=c::t
  have e1:(c.toNat+256*leV t)%256=c.toNat:=by omega
  have e2:(c.toNat+256*leV t)/256=leV t:=by omega
  rw[e1,e2,ih]
  congr 1
  apply UInt8.toNat_inj.1
  show c.toNat%256=_
  omega
theorem take_on {b enc:List UInt8} {a next:Nat} (h:b.drop a=enc++b.drop next) (hn:next=a+enc.length):b.take next=b.take a++enc:=by
 have e:b.take next=b.take a++(b.drop a).take (next-a):=by
  rw[hn,List.take_add,Nat.add_sub_cancel_left]
 rw[e,h,hn,Nat.add_sub_cancel_left,List.take_append_of_le_length (Nat.le_refl _),List.take_of_length_le (Nat.le_refl _)]
theorem rFail_bad {s:RS} {e:Int} {q:Nat} (he:e≠0):(rFail s e q).e≠0:=by
 unfold rFail
 split
 · exact he
 · rename_i h
   intro h0
   exact h ⟨h0,he⟩
def RdEnc {α:Type} (f:Rdf α) (enc:α→List UInt8):Prop:=∀l s,s.at_≤l.length→(f l s).2.e=0→(f l s).2.at_≤l.length∧l.take (f l s).2.at_=l.take s.at_++enc (f l s).1
theorem rInt_enc':RdEnc rInt encI:=fun l s hs h=>by
 have h0:=rInt_stk.ok h
 unfold rInt at h ⊢
 rw[if_neg (by omega)]at h ⊢
 cases hd:dec l s.at_ with
 |short=>rw[hd]at h;exact absurd h (rFail_bad (by omega))
 |form=>rw[hd]at h;exact absurd h (rFail_bad (by omega))
 |ok n next=>
  obtain⟨h1,h2,_,h4,_⟩:=dec_ok hd
  exact⟨h4,take_on h1 h2⟩
theorem rFlag_enc':RdEnc rFlag encB:=fun l s hs h=>by
 have h0:=rFlag_stk.ok h
 unfold rFlag at h ⊢
 rw[if_neg (by omega)]at h ⊢
 cases hx:l[s.at_]? with
 |none=>rw[hx]at h;exact absurd h (rFail_bad (by omega))
 |some c=>
  rw[hx]at h
  have hlt:=(List.getElem?_eq_some_iff.1 hx).1
  simp only at h ⊢
  by_cases h1:1<c.toNat
  · rw[if_pos h1]at h;exact absurd h (rFail_bad (by omega))
  · rw[if_neg h1]
    refine⟨hlt,?_⟩
    show l.take (s.at_+1)=l.take s.at_++[if (c.toNat==1)=true then 1 else 0]
    rw[List.take_add_one,hx]
    show l.take s.at_++[c]=_
    congr 2
    apply UInt8.toNat_inj.1
    by_cases h2:c.toNat=1
    · rw[h2];rfl
    · have:c.toNat=0:=by omega
      rw[this];rfl
theorem rFloat_enc':RdEnc rFloat encF64:=fun l s hs h=>by
 have h0:=rFloat_stk.ok h
 unfold rFloat at h ⊢
 rw[if_neg (by omega)]at h ⊢
 by_cases h1:l.length-s.at_<8
 · rw[if_pos h1]at h;exact absurd h (rFail_bad (by omega))
 · rw[if_neg h1]at h ⊢
   simp only at h ⊢
   by_cases h2:canonB (leV ((l.drop s.at_).take 8))≠leV ((l.drop s.at_).take 8)
   · rw[if_pos h2]at h;exact absurd h (rFail_bad (by omega))
   · rw[if_neg h2]
     refine⟨by show s.at_+8≤_;omega,?_⟩
     have h3:canonB (leV ((l.drop s.at_).take 8))=leV ((l.drop s.at_).take 8):=Decidable.byContradiction h2
     have hl:((l.drop s.at_).take 8).length=8:=by rw[List.length_take,List.length_drop];omega
     show l.take (s.at_+8)=l.take s.at_++leW 8 (canonB (leV ((l.drop s.at_).take 8)))
     have h4:=leW_leV ((l.drop s.at_).take 8)
     rw[hl]at h4
     rw[h3,h4,List.take_add]
theorem rCount_enc' (l:List UInt8) (s:RS) (m e:Int) (he:e≠0) (hs:s.at_≤l.length) (h:(rCount l s m e).2.e=0):(rCount l s m e).2.at_≤l.length∧l.take (rCount l s m e).2.at_=l.take s.at_++encI (rCount l s m e).1:=by
 have h0:s.e=0:=Decidable.byContradiction fun hn=>by rw[rCount_stk l s m e hn]at h;exact hn h
 unfold rCount at h ⊢
 rw[if_neg (by omega)]at h ⊢
 cases hd:dec l s.at_ with
 |short=>rw[hd]at h;exact absurd h (rFail_bad (by omega))
 |form=>rw[hd]at h;exact absurd h (rFail_bad (by omega))
 |ok n next=>
  rw[hd]at h
  simp only at h ⊢
  by_cases h1:n<0
  · rw[if_pos h1]at h;exact absurd h (rFail_bad (by omega))
  · rw[if_neg h1]at h ⊢
    by_cases h2:m<n
    · rw[if_pos h2]at h;exact absurd h (rFail_bad he)
    · rw[if_neg h2]
      obtain⟨h3,h4,_,h5,_⟩:=dec_ok hd
      exact⟨h5,take_on h3 h4⟩
theorem rKy_enc' (most:Int):RdEnc (rKy most) encKy:=fun l s hs h=>by
 have h0:=(rKy_stk most).ok h
 have h':(rText l s most).2.e=0:=h
 show (rText l s most).2.at_≤_∧l.take (rText l s most).2.at_=l.take s.at_++encT (rText l s most).1.toArray.toList
 unfold rText at h' ⊢
 rw[if_neg (by omega)]at h' ⊢
 cases hd:dec l s.at_ with
 |short=>rw[hd]at h';exact absurd h' (rFail_bad (by omega))
 |form=>rw[hd]at h';exact absurd h' (rFail_bad (by omega))
 |ok n next=>
  rw[hd]at h'
  simp only at h' ⊢
  by_cases h1:n<0
  · rw[if_pos h1]at h';exact absurd h' (rFail_bad (by omega))
  · rw[if_neg h1]at h' ⊢
    by_cases h2:most<n
    · rw[if_pos h2]at h';exact absurd h' (rFail_bad (by omega))
    · rw[if_neg h2]at h' ⊢
      by_cases h3:(l.length:Int)-next<n
      · rw[if_pos h3]at h';exact absurd h' (rFail_bad (by omega))
      · rw[if_neg h3]
        obtain⟨h4,h5,_,h6,_⟩:=dec_ok hd
        refine⟨by show next+n.toNat≤_;omega,?_⟩
        have hl:((l.drop next).take n.toNat).length=n.toNat:=by rw[List.length_take,List.length_drop];omega
        have e2:encT ((l.drop next).take n.toNat)=encI n++(l.drop next).take n.toNat:=by
         unfold encT
         rw[hl,Int.toNat_of_nonneg (by omega)]
        show l.take (next+n.toNat)=l.take s.at_++encT ((l.drop next).take n.toNat)
        rw[e2,List.take_add,take_on h4 h5,List.append_assoc]
section
variable {α β γ:Type} {f:Rdf α} {g:Rdf β} {mk:α→β→γ} {ef:α→List UInt8} {eg:β→List UInt8} {e:γ→List UInt8}
theorem rTwo_enc (hf:RdEnc f ef) (hg:RdEnc g eg) (sg:Stk g) (hm:∀a b,e (mk a b)=ef a++eg b):RdEnc (rTwo f g mk) e:=fun l s hs h=>by
 have h1:(f l s).2.e=0:=sg.ok h
 obtain⟨a1,a2⟩:=hf l s hs h1
 obtain⟨b1,b2⟩:=hg l _ a1 h
 refine⟨b1,?_⟩
 show l.take (g l (f l s).2).2.at_=_++e (mk _ _)
 rw[b2,a2,hm,List.append_assoc]
end
theorem rSp_eq:rSp=rTwo (rTwo rInt rInt Prod.mk) rInt (fun a n=>⟨a.1,a.2,n⟩):=rfl
theorem rTx_eq:rTx=rTwo (rTwo rInt rInt Prod.mk) rInt (fun a n=>⟨a.1,a.2,n⟩):=rfl
theorem rII_enc:RdEnc (rTwo rInt rInt Prod.mk) (fun a=>encI a.1++encI a.2):=rTwo_enc rInt_enc' rInt_enc' rInt_stk fun _ _=>rfl
theorem rSp_enc:RdEnc rSp encSp:=by
 rw[rSp_eq]
 exact rTwo_enc rII_enc rInt_enc' rInt_stk fun a b=>by show encI _++(encI _++encI _)=(encI _++encI _)++encI _;rw[List.append_assoc]
theorem rTx_enc:RdEnc rTx encTx:=by
 rw[rTx_eq]
 exact rTwo_enc rII_enc rInt_enc' rInt_stk fun a b=>by show encI _++(encI _++encI _)=(encI _++encI _)++encI _;rw[List.append_assoc]
theorem rFloat_canon (l:List UInt8) (s:RS):(rFloat l s).2.e=0→canonB (rFloat l s).1=(rFloat l s).1:=fun h=>by
 have h0:=rFloat_stk.ok h
 unfold rFloat at h ⊢
 rw[if_neg (by omega)]at h ⊢
 by_cases h1:l.length-s.at_<8
 · rw[if_pos h1]at h;exact absurd h (rFail_bad (by omega))
 · rw[if_neg h1]at h ⊢
   simp only at h ⊢
   by_cases h2:canonB (leV ((l.drop s.at_).take 8))≠leV ((l.drop s.at_).take 8)
   · rw[if_pos h2]at h;exact absurd h (rFail_bad (by omega))
   · rw[if_neg h2];exact Decidable.byContradiction h2
theorem rText_most (l:List UInt8) (s:RS) (m:Int) (hm:0≤m):((rText l s m).1.length:Int)≤m:=by
 have h0:(([]:List UInt8).length:Int)≤m:=hm
 unfold rText
 split
 · exact h0
 · split
   · exact h0
   · exact h0
   · split
     · exact h0
     · split
       · exact h0
       · split
         · exact h0
         · simp only[List.length_take,List.length_drop];omega
theorem rCount_okV (l:List UInt8) (s:RS):0≤(rCount l s 2 4).1∧(rCount l s 2 4).1≤2:=by
 have h0:(0:Int)≤0∧(0:Int)≤2:=⟨by omega,by omega⟩
 unfold rCount
 split
 · exact h0
 · split
   · exact h0
   · exact h0
   · split
     · exact h0
     · split
       · exact h0
       · exact⟨by simp only;omega,by simp only;omega⟩
theorem rVl_may (l:List UInt8) (s:RS) (h:(rVl l s).2.e=0):(rVl l s).1.may=true∧rVl l s=rVl0 l s:=by
 have e0:rVl l s=rVl0 l s:=by
  unfold rVl
  split
  · rename_i hn
    unfold rVl at h
    rw[if_pos hn]at h
    exact absurd h hn
  · rfl
 refine⟨?_,e0⟩
 rw[e0]at h ⊢
 have hk:=rCount_okV l s
 unfold rVl0 at h ⊢
 by_cases h1:(rCount l s 2 4).1=1
 · rw[if_pos h1]at h ⊢
   rw[Vl.may1 rfl]
   have hc:=rFloat_canon l _ h
   show (emptyB ⟨#[]⟩&&_)=true
   rw[hc]
   simp[emptyB]
 · rw[if_neg h1]at h ⊢
   by_cases h2:(rCount l s 2 4).1=2
   · rw[if_pos h2]
     rw[Vl.may2 rfl]
     have hl:=rText_most l (rCount l s 2 4).2 64 (by omega)
     have hsz:(rKy 64 l (rCount l s 2 4).2).1.size=(rText l (rCount l s 2 4).2 64).1.length:=by
      show (rText l (rCount l s 2 4).2 64).1.toArray.size=_
      rw[List.size_toArray]
     have hd:decide (((rKy 64 l (rCount l s 2 4).2).1.size:Int)≤64)=true:=decide_eq_true (by rw[hsz];exact hl)
     show (((0:Nat):Int)==0&&decide (((rKy 64 l (rCount l s 2 4).2).1.size:Int)≤64))=true
     rw[hd];rfl
   · rw[if_neg h2]
     have h3:(rCount l s 2 4).1=0:=by omega
     rw[Vl.may0 h3]
     show (((0:Nat):Int)==0&&emptyB ⟨#[]⟩)=true
     simp[emptyB]
theorem rCount_nn (l:List UInt8) (s:RS) (m e:Int):0≤(rCount l s m e).1:=by
 unfold rCount
 split
 · exact Int.le_refl _
 · split
   · exact Int.le_refl _
   · exact Int.le_refl _
   · split
     · exact Int.le_refl _
     · split
       · exact Int.le_refl _
       · simp only;omega
theorem rCnt_le (l:List UInt8) (s:RS):(rCnt l s).1.toNat≤l.length:=by
 have hl:rLeft l s≤l.length:=by unfold rLeft;split<;>omega
 have h0:(0:Int).toNat≤l.length:=Nat.zero_le _
 unfold rCnt rCount
 split
 · exact h0
 · split
   · exact h0
   · exact h0
   · split
     · exact h0
     · split
       · exact h0
       · simp only;omega
theorem rVl_enc:RdEnc rVl encVl:=fun l s hs h=>by
 obtain⟨hm,e0⟩:=rVl_may l s h
 rw[e0]at h hm ⊢
 unfold encVl
 rw[if_pos hm]
 unfold rVl0 at h ⊢
 have hc0:(rCount l s 2 4).2.e=0:=by
  by_cases h1:(rCount l s 2 4).1=1
  · rw[if_pos h1]at h;exact rFloat_stk.ok h
  · rw[if_neg h1]at h
    by_cases h2:(rCount l s 2 4).1=2
    · rw[if_pos h2]at h;exact(rKy_stk 64).ok h
    · rw[if_neg h2]at h;exact h
 obtain⟨c1,c2⟩:=rCount_enc' l s 2 4 (by omega) hs hc0
 have hk:=rCount_okV l s
 by_cases h1:(rCount l s 2 4).1=1
 · rw[if_pos h1]at h ⊢
   obtain⟨f1,f2⟩:=rFloat_enc' l _ c1 h
   refine⟨f1,?_⟩
   show _=_++if (1:Int)=1 then encI 1++encF64 _ else _
   rw[if_pos rfl]
   show l.take (rFloat l (rCount l s 2 4).2).2.at_=_
   rw[f2,c2,h1,List.append_assoc]
 · rw[if_neg h1]at h ⊢
   by_cases h2:(rCount l s 2 4).1=2
   · rw[if_pos h2]at h ⊢
     obtain⟨f1,f2⟩:=rKy_enc' 64 l _ c1 h
     refine⟨f1,?_⟩
     show _=_++if (2:Int)=1 then _ else if (2:Int)=2 then encI 2++encKy _ else encI 0
     rw[if_neg (by omega),if_pos rfl]
     show l.take (rKy 64 l (rCount l s 2 4).2).2.at_=_
     rw[f2,c2,h2,List.append_assoc]
   · have h3:(rCount l s 2 4).1=0:=by omega
     rw[if_neg h2]at h ⊢
     refine⟨c1,?_⟩
     show _=_++if (rCount l s 2 4).1=1 then _ else if (rCount l s 2 4).1=2 then _ else encI 0
     rw[if_neg h1,if_neg h2]
     show l.take (rCount l s 2 4).2.at_=_
     rw[c2,h3]
theorem rWt_enc:RdEnc rWt encWt:=rTwo_enc (rKy_enc' _) rVl_enc rVl_stk fun _ _=>rfl
theorem rVn_enc:RdEnc rVn encVn:=rTwo_enc rSp_enc rVl_enc rVl_stk fun _ _=>rfl
section
variable {α:Type} {f:Rdf α} {ef:α→List UInt8}
theorem rLoop_enc (hf:RdEnc f ef):∀(k:Nat) (l:List UInt8) (s:RS),s.at_≤l.length→(rLoop f l k s).2.e=0→(rLoop f l k s).1.length=k∧(rLoop f l k s).2.at_≤l.length∧l.take (rLoop f l k s).2.at_=l.take s.at_++(rLoop f l k s).1.flatMap ef:=by
 intro k
 induction k with
 |zero=>intro l s hs h;exact⟨rfl,hs,by simp[rLoop]⟩
 |succ k ih=>
  intro l s hs h
  by_cases he:s.e≠0
  · rw[rLoop_stk f l _ s he]at h;exact absurd h he
  · have hn:=rLoop_next f l (k:=k+1) (s:=s) (by omega) (Decidable.byContradiction he)
    rw[Nat.add_sub_cancel]at hn
    rw[hn]at h ⊢
    have h1:(f l s).2.e=0:=Decidable.byContradiction fun hq=>by
        simp only at h
        rw[rLoop_stk f l _ _ hq]at h;exact hq h
    obtain⟨a1,a2⟩:=hf l s hs h1
    obtain⟨b1,b2,b3⟩:=ih l _ a1 h
    refine⟨by simp only[List.length_cons,b1],b2,?_⟩
    simp only[List.flatMap_cons]
    rw[b3,a2,List.append_assoc]
theorem rLs_cnt (l:List UInt8) (s:RS) (h:(rLs f l s).2.e=0):(rCnt l s).2.e=0:=Decidable.byContradiction fun hn=>by
 unfold rLs at h
 rw[rLoop_stk f l _ _ hn]at h;exact hn h
theorem rLs_enc (hf:RdEnc f ef):RdEnc (rLs f) (encLs ef):=fun l s hs h=>by
 have hc:=rLs_cnt l s h
 obtain⟨c1,c2⟩:=rCount_enc' l s (rLeft l s:Int) 3 (by omega) hs hc
 have hn:0≤(rCnt l s).1:=(rCount_nn l s (rLeft l s:Int) 3)
 obtain⟨a1,a2,a3⟩:=rLoop_enc hf (rCnt l s).1.toNat l (rCnt l s).2 c1 h
 refine⟨a2,?_⟩
 have e:encLs ef (rLs f l s).1=encI (rCnt l s).1++(rLs f l s).1.flatMap ef:=by
  unfold encLs
  have:(rLs f l s).1.length=(rCnt l s).1.toNat:=a1
  rw[this,Int.toNat_of_nonneg hn]
 rw[e]
 show l.take (rLoop f l (rCnt l s).1.toNat (rCnt l s).2).2.at_=_
 rw[a3,←List.append_assoc]
 exact congrArg (· ++_) c2
theorem rLoop_le (k:Nat) (l:List UInt8) (s:RS):(rLoop f l k s).1.length≤k:=by
 induction k generalizing s with
 |zero=>exact Nat.le_refl _
 |succ k ih=>
  show (if s.e≠0 then ([],s) else _:List α×RS).1.length≤_
  split
  · exact Nat.zero_le _
  · simp only[List.length_cons]
    exact Nat.succ_le_succ (ih _)
theorem rLs_le (l:List UInt8) (s:RS):(rLs f l s).1.length≤l.length:=by
 have h1:=rLoop_le (f:=f) (rCnt l s).1.toNat l (rCnt l s).2
 have h2:=rCnt_le l s
 exact Nat.le_trans h1 h2
theorem rLoop_all {Q:α→Prop} (l:List UInt8) (hf:∀s,Q (f l s).1):∀(k:Nat) (s:RS),∀a∈(rLoop f l k s).1,Q a:=by
 intro k
 induction k with
 |zero=>intro s a h;cases h
 |succ k ih=>
  intro s a h
  have h':a∈(if s.e≠0 then ([],s) else ((f l s).1::(rLoop f l k (f l s).2).1,(rLoop f l k (f l s).2).2):List α×RS).1:=h
  split at h'
  · cases h'
  · rcases List.mem_cons.1 h' with rfl|h2
    · exact hf s
    · exact ih _ a h2
theorem rLs_all {Q:α→Prop} (l:List UInt8) (s:RS) (hf:∀s,Q (f l s).1):∀a∈(rLs f l s).1,Q a:=rLoop_all l hf _ _
end
theorem rHs_enc:RdEnc rHs encHs:=rTwo_enc (rKy_enc' _) (rLs_enc rVn_enc) (rLs_stk _) fun _ _=>rfl
theorem rTS_enc:RdEnc (rTwo rTx rSp Prod.mk) (fun a=>encTx a.1++encSp a.2):=rTwo_enc rTx_enc rSp_enc rSp_stk fun _ _=>rfl
theorem rTSK_enc:RdEnc (rTwo (rTwo rTx rSp Prod.mk) (rLs rKey) Prod.mk) (fun a=>(encTx a.1.1++encSp a.1.2)++encLs encKy a.2):=rTwo_enc rTS_enc (rLs_enc (rKy_enc' _)) (rLs_stk _) fun _ _=>rfl
theorem rPn_enc:RdEnc rPn encPn:=rTwo_enc rTSK_enc (rLs_enc rWt_enc) (rLs_stk _) fun a b=>by
 show encTx _++(encSp _++(encLs encKy _++encLs encWt _))=((encTx _++encSp _)++encLs encKy _)++encLs encWt _
 simp only[List.append_assoc]
theorem rIIF_enc:RdEnc (rTwo (rTwo rInt rInt Prod.mk) rFloat Prod.mk) (fun a=>(encI a.1.1++encI a.1.2)++encF64 a.2):=rTwo_enc rII_enc rFloat_enc' rFloat_stk fun _ _=>rfl
theorem rRg_enc:RdEnc rRg encRg:=rTwo_enc rIIF_enc rFloat_enc' rFloat_stk fun a b=>by
 show encI _++(encI _++(encF64 _++encF64 _))=((encI _++encI _)++encF64 _)++encF64 _
 simp only[List.append_assoc]
theorem rRS_enc:RdEnc (rTwo rRg rSp Prod.mk) (fun a=>encRg a.1++encSp a.2):=rTwo_enc rRg_enc rSp_enc rSp_stk fun _ _=>rfl
theorem rRSS_enc:RdEnc (rTwo (rTwo rRg rSp Prod.mk) rSp Prod.mk) (fun a=>(encRg a.1.1++encSp a.1.2)++encSp a.2):=rTwo_enc rRS_enc rSp_enc rSp_stk fun _ _=>rfl
theorem rRSSH_enc:RdEnc (rTwo (rTwo (rTwo rRg rSp Prod.mk) rSp Prod.mk) (rLs rHs) Prod.mk) (fun a=>((encRg a.1.1.1++encSp a.1.1.2)++encSp a.1.2)++encLs encHs a.2):=rTwo_enc rRSS_enc (rLs_enc rHs_enc) (rLs_stk _) fun _ _=>rfl
theorem rSt_enc:RdEnc rSt encSt:=rTwo_enc rRSSH_enc (rLs_enc rPn_enc) (rLs_stk _) fun a b=>by
 show encRg _++(encSp _++(encSp _++(encLs encHs _++encLs encPn _)))=(((encRg _++encSp _)++encSp _)++encLs encHs _)++encLs encPn _
 simp only[List.append_assoc]
end Go.Proofs.YtcalkfgibflbnaaGreat
