/- Plain: what is read without a fault, written, is what was read; more bytes behind it turn nothing; how many there may be. -/
import Derived.Test.YtcalkfgibflbnaaGreatBaae
namespace Go.Proofs.YtcalkfgibflbnaaGreat
set_option linter.unusedVariables false
open Go.RowKit Fl
theorem acR:∀bs:List UInt8,lX bs.length (jr bs)=bs:=by
 intro bs
 induction bs with
 |nil=>rfl
 |cons c t ih=>
  have hc:=c.toNat_lt;show ((c.toNat+256*jr t)%256).toUInt8::lX t.length ((c.toNat+256*jr t)/256)=c::t;have e1:(c.toNat+256*jr t)%256=c.toNat:=byOmega;have e2:(c.toNat+256*jr t)/256=jr t:=byOmega;rw[e1,e2,ih]
  congr 1
  apply UInt8.toNat_inj.1;show c.toNat%256=_;omega
theorem MV {b enc:List UInt8} {a next:Nat} (h:b.drop a=enc++b.drop next) (hn:next=a+enc.length):b.take next=b.take a++enc:=by
 have e:b.take next=b.take a++(b.drop a).take (next-a):=by
  rw[hn,List.take_add,Nat.add_sub_cancel_left]
 rw[e,h,hn,Nat.add_sub_cancel_left,List.take_append_of_le_length (Nat.le_refl _),List.take_of_length_le (Nat.le_refl _)]
theorem qK {s:RS} {e:Int} {q:Nat} (he:e≠0):(fD s e q).e≠0:=by
 unfold fD;split
 · exact he
 · rename_i h;intro h0;exact h ⟨h0,he⟩
def jD {α:Type} (f:eG α) (enc:α->List UInt8):Prop:=∀l s,s.at_<=l.length->(f l s).2.e=0->(f l s).2.at_<=l.length/\l.take (f l s).2.at_=l.take s.at_++enc (f l s).1
theorem rM:jD aS encI:=fun l s hs h=>by
 have h0:=kV.ok h;unfold aS at h ⊢;rw[if_neg byOmega]at h ⊢;cases hd:dec l s.at_ with
 |short=>rw[hd]at h;exact absurd h (qK byOmega)
 |form=>rw[hd]at h;exact absurd h (qK byOmega)
 |ok n next=>
  obtain⟨h1,h2,_,h4,_⟩:=wQ hd;exact⟨h4,MV h1 h2⟩
theorem TI:jD nS qF:=fun l s hs h=>by
 have h0:=Lu.ok h;unfold nS at h ⊢;rw[if_neg byOmega]at h ⊢;cases hx:l[s.at_]? with
 |none=>rw[hx]at h;exact absurd h (qK byOmega)
 |some c=>
  rw[hx]at h;have hlt:=(List.getElem?_eq_some_iff.1 hx).1;simp only at h ⊢;by_cases h1:1<c.toNat
  · rw[if_pos h1]at h;exact absurd h (qK byOmega)
  · rw[if_neg h1];refine⟨hlt,?_⟩;show l.take (s.at_+1)=l.take s.at_++[if (c.toNat==1)=true then 1 else 0];rw[List.take_add_one,hx];show l.take s.at_++[c]=_
    congr 2
    apply UInt8.toNat_inj.1;by_cases h2:c.toNat=1
    · rw[h2];rfl
    · have:c.toNat=0:=byOmega;rw[this];rfl
theorem I8:jD fK dK:=fun l s hs h=>by
 have h0:=uO.ok h;unfold fK at h ⊢;rw[if_neg byOmega]at h ⊢;by_cases h1:l.length-s.at_<8
 · rw[if_pos h1]at h;exact absurd h (qK byOmega)
 · rw[if_neg h1]at h ⊢;simp only at h ⊢;by_cases h2:bU (jr ((l.drop s.at_).take 8))≠jr ((l.drop s.at_).take 8)
   · rw[if_pos h2]at h;exact absurd h (qK byOmega)
   · rw[if_neg h2];refine⟨by show s.at_+8<=_;omega,?_⟩;have h3:bU (jr ((l.drop s.at_).take 8))=jr ((l.drop s.at_).take 8):=Decidable.byContradiction h2;have hl:((l.drop s.at_).take 8).length=8:=(by rw[List.length_take,List.length_drop];omega);show l.take (s.at_+8)=l.take s.at_++lX 8 (bU (jr ((l.drop s.at_).take 8)));have h4:=acR ((l.drop s.at_).take 8);rw[hl]at h4;rw[h3,h4,List.take_add]
theorem TJ (l:List UInt8) (s:RS) (m e:Int) (he:e≠0) (hs:s.at_<=l.length) (h:(aX l s m e).2.e=0):(aX l s m e).2.at_<=l.length/\l.take (aX l s m e).2.at_=l.take s.at_++encI (aX l s m e).1:=by
 have h0:s.e=0:=Decidable.byContradiction fun hn=>by rw[LC l s m e hn]at h;exact hn h
 unfold aX at h ⊢;rw[if_neg byOmega]at h ⊢;cases hd:dec l s.at_ with
 |short=>rw[hd]at h;exact absurd h (qK byOmega)
 |form=>rw[hd]at h;exact absurd h (qK byOmega)
 |ok n next=>
  rw[hd]at h;simp only at h ⊢;by_cases h1:n<0
  · rw[if_pos h1]at h;exact absurd h (qK byOmega)
  · rw[if_neg h1]at h ⊢;by_cases h2:m<n
    · rw[if_pos h2]at h;exact absurd h (qK he)
    · rw[if_neg h2];obtain⟨h3,h4,_,h5,_⟩:=wQ hd;exact⟨h5,MV h3 h4⟩
theorem BO (most:Int):jD (sG most) bn:=fun l s hs h=>by
 have h0:=(Q5 most).ok h;have h':(dZ l s most).2.e=0:=h;show (dZ l s most).2.at_<=_/\l.take (dZ l s most).2.at_=l.take s.at_++jX (dZ l s most).1.toArray.toList;unfold dZ at h' ⊢;rw[if_neg byOmega]at h' ⊢;cases hd:dec l s.at_ with
 |short=>rw[hd]at h';exact absurd h' (qK byOmega)
 |form=>rw[hd]at h';exact absurd h' (qK byOmega)
 |ok n next=>
  rw[hd]at h';simp only at h' ⊢;by_cases h1:n<0
  · rw[if_pos h1]at h';exact absurd h' (qK byOmega)
  · rw[if_neg h1]at h' ⊢;by_cases h2:most<n
    · rw[if_pos h2]at h';exact absurd h' (qK byOmega)
    · rw[if_neg h2]at h' ⊢;by_cases h3:(l.length:Int)-next<n
      · rw[if_pos h3]at h';exact absurd h' (qK byOmega)
      · rw[if_neg h3];obtain⟨h4,h5,_,h6,_⟩:=wQ hd;refine⟨by show next+n.toNat<=_;omega,?_⟩;have hl:((l.drop next).take n.toNat).length=n.toNat:=(by rw[List.length_take,List.length_drop];omega);have e2:jX ((l.drop next).take n.toNat)=encI n++(l.drop next).take n.toNat:=by
         unfold jX;rw[hl,Int.toNat_of_nonneg byOmega]
        show l.take (next+n.toNat)=l.take s.at_++jX ((l.drop next).take n.toNat);rw[e2,List.take_add,MV h4 h5,List.append_assoc]
section
variable {α β γ:Type} {f:eG α} {g:eG β} {mk:α->β->γ} {ef:α->List UInt8} {eg:β->List UInt8} {e:γ->List UInt8}
theorem qL (hf:jD f ef) (hg:jD g eg) (sg:mZ g) (hm:∀a b,e (mk a b)=ef a++eg b):jD (eu f g mk) e:=fun l s hs h=>by
 have h1:(f l s).2.e=0:=sg.ok h;obtain⟨a1,a2⟩:=hf l s hs h1;obtain⟨b1,b2⟩:=hg l _ a1 h;refine⟨b1,?_⟩;show l.take (g l (f l s).2).2.at_=_++e (mk _ _);rw[b2,a2,hm,List.append_assoc]
end
theorem TK:dY=eu (eu aS aS Prod.mk) aS (fun a n=>⟨a.1,a.2,n⟩):=rfl
theorem TL:oD=eu (eu aS aS Prod.mk) aS (fun a n=>⟨a.1,a.2,n⟩):=rfl
theorem MW:jD (eu aS aS Prod.mk) (fun a=>encI a.1++encI a.2):=qL rM rM kV fun _ _=>rfl
theorem zn:jD dY aU:=by
 rw[TK];exact qL MW rM kV fun a b=>by show encI _++(encI _++encI _)=(encI _++encI _)++encI _;rw[List.append_assoc]
theorem MX:jD oD eP:=by
 rw[TL];exact qL MW rM kV fun a b=>by show encI _++(encI _++encI _)=(encI _++encI _)++encI _;rw[List.append_assoc]
theorem acS (l:List UInt8) (s:RS):(fK l s).2.e=0->bU (fK l s).1=(fK l s).1:=fun h=>by
 have h0:=uO.ok h;unfold fK at h ⊢;rw[if_neg byOmega]at h ⊢;by_cases h1:l.length-s.at_<8
 · rw[if_pos h1]at h;exact absurd h (qK byOmega)
 · rw[if_neg h1]at h ⊢;simp only at h ⊢;by_cases h2:bU (jr ((l.drop s.at_).take 8))≠jr ((l.drop s.at_).take 8)
   · rw[if_pos h2]at h;exact absurd h (qK byOmega)
   · rw[if_neg h2];exact Decidable.byContradiction h2
theorem acT (l:List UInt8) (s:RS) (m:Int) (hm:0<=m):((dZ l s m).1.length:Int)<=m:=by
 have h0:(([]:List UInt8).length:Int)<=m:=hm;unfold dZ;split
 · exact h0
 · split
   · exact h0
   · exact h0
   · split
     · exact h0
     · split
       · exact h0
       · split
         · exact h0
         · simp only[List.length_take,List.length_drop];omega
theorem TM (l:List UInt8) (s:RS):0<=(aX l s 2 4).1/\(aX l s 2 4).1<=2:=by
 have h0:(0:Int)<=0/\(0:Int)<=2:=⟨byOmega,byOmega⟩;unfold aX;split
 · exact h0
 · split
   · exact h0
   · exact h0
   · split
     · exact h0
     · split
       · exact h0
       · exact⟨by simp only;omega,by simp only;omega⟩
theorem acU (l:List UInt8) (s:RS) (h:(je l s).2.e=0):(je l s).1.may=true/\je l s=oZ l s:=by
 have e0:je l s=oZ l s:=by
  unfold je;split
  · rename_i hn;unfold je at h;rw[if_pos hn]at h;exact absurd h hn
  · rfl
 refine⟨?_,e0⟩;rw[e0]at h ⊢;have hk:=TM l s;unfold oZ at h ⊢;by_cases h1:(aX l s 2 4).1=1
 · rw[if_pos h1]at h ⊢;rw[Vl.may1 rfl];have hc:=acS l _ h;show (pU ⟨#[]⟩&&_)=true;rw[hc];simp[pU]
 · rw[if_neg h1]at h ⊢;by_cases h2:(aX l s 2 4).1=2
   · rw[if_pos h2];rw[Vl.H9 rfl];have hl:=acT l (aX l s 2 4).2 64 byOmega;have hsz:(sG 64 l (aX l s 2 4).2).1.size=(dZ l (aX l s 2 4).2 64).1.length:=by
      show (dZ l (aX l s 2 4).2 64).1.toArray.size=_;rw[List.size_toArray]
     have hd:decide (((sG 64 l (aX l s 2 4).2).1.size:Int)<=64)=true:=decide_eq_true (by rw[hsz];exact hl);show (((0:Nat):Int)==0&&decide (((sG 64 l (aX l s 2 4).2).1.size:Int)<=64))=true;rw[hd];rfl
   · rw[if_neg h2];have h3:(aX l s 2 4).1=0:=byOmega;rw[Vl.may0 h3];show (((0:Nat):Int)==0&&pU ⟨#[]⟩)=true;simp[pU]
theorem acV (l:List UInt8) (s:RS) (m e:Int):0<=(aX l s m e).1:=by
 unfold aX;split
 · exact Int.le_refl _
 · split
   · exact Int.le_refl _
   · exact Int.le_refl _
   · split
     · exact Int.le_refl _
     · split
       · exact Int.le_refl _
       · simp only;omega
theorem acW (l:List UInt8) (s:RS):(qG l s).1.toNat<=l.length:=by
 have hl:bI l s<=l.length:=by unfold bI;split<;>omega
 have h0:(0:Int).toNat<=l.length:=Nat.zero_le _;unfold qG aX;split
 · exact h0
 · split
   · exact h0
   · exact h0
   · split
     · exact h0
     · split
       · exact h0
       · simp only;omega
theorem MZ:jD je eY:=fun l s hs h=>by
 obtain⟨hm,e0⟩:=acU l s h;rw[e0]at h hm ⊢;unfold eY;rw[if_pos hm];unfold oZ at h ⊢;have hc0:(aX l s 2 4).2.e=0:=by
  by_cases h1:(aX l s 2 4).1=1
  · rw[if_pos h1]at h;exact uO.ok h
  · rw[if_neg h1]at h;by_cases h2:(aX l s 2 4).1=2
    · rw[if_pos h2]at h;exact(Q5 64).ok h
    · rw[if_neg h2]at h;exact h
 obtain⟨c1,c2⟩:=TJ l s 2 4 byOmega hs hc0;have hk:=TM l s;by_cases h1:(aX l s 2 4).1=1
 · rw[if_pos h1]at h ⊢;obtain⟨f1,f2⟩:=I8 l _ c1 h;refine⟨f1,?_⟩;show _=_++if (1:Int)=1 then encI 1++dK _ else _
   rw[if_pos rfl];show l.take (fK l (aX l s 2 4).2).2.at_=_;rw[f2,c2,h1,List.append_assoc]
 · rw[if_neg h1]at h ⊢;by_cases h2:(aX l s 2 4).1=2
   · rw[if_pos h2]at h ⊢;obtain⟨f1,f2⟩:=BO 64 l _ c1 h;refine⟨f1,?_⟩;show _=_++if (2:Int)=1 then _ else if (2:Int)=2 then encI 2++bn _ else encI 0
     rw[if_neg byOmega,if_pos rfl];show l.take (sG 64 l (aX l s 2 4).2).2.at_=_;rw[f2,c2,h2,List.append_assoc]
   · have h3:(aX l s 2 4).1=0:=byOmega;rw[if_neg h2]at h ⊢;refine⟨c1,?_⟩;show _=_++if (aX l s 2 4).1=1 then _ else if (aX l s 2 4).1=2 then _ else encI 0
     rw[if_neg h1,if_neg h2];show l.take (aX l s 2 4).2.at_=_;rw[c2,h3]
theorem I9:jD nT bP:=qL (BO _) MZ Bq fun _ _=>rfl
theorem acX:jD wU kE:=qL zn MZ Bq fun _ _=>rfl
section
variable {α:Type} {f:eG α} {ef:α->List UInt8}
theorem acY (hf:jD f ef):∀(k:Nat) (l:List UInt8) (s:RS),s.at_<=l.length->(iG f l k s).2.e=0->(iG f l k s).1.length=k/\(iG f l k s).2.at_<=l.length/\l.take (iG f l k s).2.at_=l.take s.at_++(iG f l k s).1.flatMap ef:=by
 intro k
 induction k with
 |zero=>intro l s hs h;exact⟨rfl,hs,by simp[iG]⟩
 |succ k ih=>
  intro l s hs h;by_cases he:s.e≠0
  · rw[sJ f l _ s he]at h;exact absurd h he
  · have hn:=LG f l (k:=k+1) (s:=s) byOmega (Decidable.byContradiction he);rw[Nat.add_sub_cancel]at hn;rw[hn]at h ⊢;have h1:(f l s).2.e=0:=Decidable.byContradiction fun hq=>by
        simp only at h;rw[sJ f l _ _ hq]at h;exact hq h
    obtain⟨a1,a2⟩:=hf l s hs h1;obtain⟨b1,b2,b3⟩:=ih l _ a1 h;refine⟨by simp only[List.length_cons,b1],b2,?_⟩;simp only[List.flatMap_cons];rw[b3,a2,List.append_assoc]
theorem acZ (l:List UInt8) (s:RS) (h:(dn f l s).2.e=0):(qG l s).2.e=0:=Decidable.byContradiction fun hn=>by
 unfold dn at h;rw[sJ f l _ _ hn]at h;exact hn h
theorem uo (hf:jD f ef):jD (dn f) (aH ef):=fun l s hs h=>by
 have hc:=acZ l s h;obtain⟨c1,c2⟩:=TJ l s (bI l s:Int) 3 byOmega hs hc;have hn:0<=(qG l s).1:=(acV l s (bI l s:Int) 3);obtain⟨a1,a2,a3⟩:=acY hf (qG l s).1.toNat l (qG l s).2 c1 h;refine⟨a2,?_⟩;have e:aH ef (dn f l s).1=encI (qG l s).1++(dn f l s).1.flatMap ef:=by
  unfold aH;have:(dn f l s).1.length=(qG l s).1.toNat:=a1;rw[this,Int.toNat_of_nonneg hn]
 rw[e];show l.take (iG f l (qG l s).1.toNat (qG l s).2).2.at_=_;rw[a3,<-List.append_assoc];exact congrArg (· ++_) c2
theorem ac0 (k:Nat) (l:List UInt8) (s:RS):(iG f l k s).1.length<=k:=by
 induction k generalizing s with
 |zero=>exact Nat.le_refl _
 |succ k ih=>
  show (if s.e≠0 then ([],s) else _:List α×RS).1.length<=_;split
  · exact Nat.zero_le _
  · simp only[List.length_cons];exact Nat.succ_le_succ (ih _)
theorem rO (l:List UInt8) (s:RS):(dn f l s).1.length<=l.length:=by
 have h1:=ac0 (f:=f) (qG l s).1.toNat l (qG l s).2;have h2:=acW l s;exact Nat.le_trans h1 h2
theorem ac1 {Q:α->Prop} (l:List UInt8) (hf:∀s,Q (f l s).1):∀(k:Nat) (s:RS),∀a∈(iG f l k s).1,Q a:=by
 intro k
 induction k with
 |zero=>intro s a h;cases h
 |succ k ih=>
  intro s a h;have h':a∈(if s.e≠0 then ([],s) else ((f l s).1::(iG f l k (f l s).2).1,(iG f l k (f l s).2).2):List α×RS).1:=h;split at h'
  · cases h'
  · rcases List.mem_cons.1 h' with rfl|h2
    · exact hf s
    · exact ih _ a h2
theorem Na {Q:α->Prop} (l:List UInt8) (s:RS) (hf:∀s,Q (f l s).1):∀a∈(dn f l s).1,Q a:=ac1 l hf _ _
end
theorem ac2:jD sH iQ:=qL (BO _) (uo acX) (jv _) fun _ _=>rfl
theorem ac3:jD (eu oD dY Prod.mk) (fun a=>eP a.1++aU a.2):=qL MX zn qH fun _ _=>rfl
theorem ac4:jD (eu (eu oD dY Prod.mk) (dn iF) Prod.mk) (fun a=>(eP a.1.1++aU a.1.2)++aH bn a.2):=qL ac3 (uo (BO _)) (jv _) fun _ _=>rfl
theorem TN:jD pq fH:=qL ac4 (uo I9) (jv _) fun a b=>by
 show eP _++(aU _++(aH bn _++aH bP _))=((eP _++aU _)++aH bn _)++aH bP _;simp only[List.append_assoc]
theorem ac5:jD (eu (eu aS aS Prod.mk) fK Prod.mk) (fun a=>(encI a.1.1++encI a.1.2)++dK a.2):=qL MW I8 uO fun _ _=>rfl
theorem TP:jD kF dU:=qL ac5 I8 uO fun a b=>by
 show encI _++(encI _++(dK _++dK _))=((encI _++encI _)++dK _)++dK _;simp only[List.append_assoc]
theorem ac6:jD (eu kF dY Prod.mk) (fun a=>dU a.1++aU a.2):=qL TP zn qH fun _ _=>rfl
theorem ac7:jD (eu (eu kF dY Prod.mk) dY Prod.mk) (fun a=>(dU a.1.1++aU a.1.2)++aU a.2):=qL ac6 zn qH fun _ _=>rfl
theorem ac8:jD (eu (eu (eu kF dY Prod.mk) dY Prod.mk) (dn sH) Prod.mk) (fun a=>((dU a.1.1.1++aU a.1.1.2)++aU a.1.2)++aH iQ a.2):=qL ac7 (uo ac2) (jv _) fun _ _=>rfl
theorem TQ:jD xW oC:=qL ac8 (uo TN) (jv _) fun a b=>by
 show dU _++(aU _++(aU _++(aH iQ _++aH fH _)))=(((dU _++aU _)++aU _)++aH iQ _)++aH fH _;simp only[List.append_assoc]
