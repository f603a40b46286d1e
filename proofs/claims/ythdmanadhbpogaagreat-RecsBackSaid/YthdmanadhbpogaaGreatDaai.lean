/- The walk of (*wire.Reader).number. -/
import Derived.Test.YthdmanadhbpogaaGreatDaah
namespace Go.Proofs.YthdmanadhbpogaaGreat
open Go.RowKit Fl
theorem over_snoc (pre:List UInt8) (c:UInt8):over (pre++[c])=(over pre||decide (9<pre.length)||(decide (pre.length=9)&&decide (1<c.toNat%128))):=by
 have hv:=val_snoc pre c
 have hlt:=grp_val_lt pre
 have hm:c.toNat%128<128:=Nat.mod_lt _ (by omega)
 unfold over
 rw[hv,List.length_append,List.length_singleton]
 generalize val pre=v at*
 generalize c.toNat%128=m at*
 by_cases h9:9<pre.length
 · simp[h9];omega
 · by_cases h:pre.length=9
   · have h4:decide (9<pre.length)=false:=by simp;omega
     have h5:decide (pre.length=9)=true:=by simp[h]
     have h6:decide (10<pre.length)=false:=by simp;omega
     have h7:decide (10<pre.length+1)=false:=by simp;omega
     have e:(128:Nat)^9=9223372036854775808:=by decide
     rw[h4,h5,h6,h7]
     rw[h,e]at hlt ⊢
     rw[Bool.eq_iff_iff]
     simp only[Bool.or_eq_true,decide_eq_true_eq,Bool.false_or,Bool.or_false,Bool.true_and]
     omega
   · have h8:pre.length+1≤9:=by omega
     have e1:(128:Nat)^(pre.length+1)≤128^9:=Nat.pow_le_pow_right (by omega) h8
     have e:(128:Nat)^9=9223372036854775808:=by decide
     rw[e,Nat.pow_succ]at e1
     have h3:128^pre.length*m+128^pre.length≤128^pre.length*128:=by
        rw[←Nat.mul_succ];exact Nat.mul_le_mul_left _ hm
     have h4:decide (9<pre.length)=false:=by simp;omega
     have h5:decide (pre.length=9)=false:=by simp;omega
     rw[h4,h5]
     rw[Bool.eq_iff_iff]
     simp only[Bool.or_eq_true,decide_eq_true_eq,Bool.false_and,Bool.or_false]
     omega
theorem not_over_lt {pre:List UInt8} (h:over pre=false):val pre<18446744073709551616∧pre.length≤10:=by
 unfold over at h
 simp only[Bool.or_eq_false_iff,decide_eq_false_iff_not]at h
 omega
theorem grp_take {l:List UInt8} {a j:Nat} {pre:List UInt8} {x:UInt8} (h:(l.drop a).take j=pre) (hb:∀c∈pre,128≤c.toNat) (hx:l[a+j]?=some x) (hs:x.toNat<128):grp (l.drop a)=some (pre++[x]):=by
 have e:l.drop a=pre++x::(l.drop (a+j+1)):=by
  have h1:l.drop a=(l.drop a).take j++(l.drop a).drop j:=(List.take_append_drop j _).symm
  have hlt:=(List.getElem?_eq_some_iff.1 hx).1
  have h2:(l.drop a).drop j=x::l.drop (a+j+1):=by
   rw[List.drop_drop,List.drop_eq_getElem_cons hlt,(List.getElem?_eq_some_iff.1 hx).2]
  rw[h1,h2,h]
 rw[e]
 clear e h hx
 induction pre with
 |nil=>show (if _ then _ else _)=_;rw[if_pos hs];rfl
 |cons d t ih=>
  show (if _ then _ else _)=_
  rw[if_neg (by have:=hb d (by simp);omega)]
  show Option.map _ (grp (t++_))=_
  rw[ih (fun c hc=>hb c (by simp[hc]))];rfl
theorem or_next (pre:List UInt8) (x:UInt8) (j:Nat) (hj:pre.length=j) (ho:over (pre++[x])=false):
 bits .or .u64 ((val pre:Nat):Int) (IntKind.u64.wrap ((x.toNat:Int)%128*2^(7*j)))=((val (pre++[x]):Nat):Int):=by
 have hV:=(not_over_lt ho).1
 have hv:=val_snoc pre x
 have hlt:=grp_val_lt pre
 have e:(128:Nat)^j=2^(7*j):=by rw[Nat.pow_mul]
 rw[hj,e]at hv hlt
 have e1:IntKind.u64.wrap ((x.toNat:Int)%128*2^(7*j))=((2^(7*j)*(x.toNat%128):Nat):Int):=by
  rw[IntKind.wrap_u64]
  have:((x.toNat:Int)%128*2^(7*j))=((2^(7*j)*(x.toNat%128):Nat):Int):=by
   push_cast;exact Int.mul_comm _ _
  rw[this]
  omega
 rw[e1,Go.u64_or_nat _ _ (by omega) (by omega),hv]
 congr 1
 rw[Nat.or_comm,Go.nat_join (7*j) _ _ (by simp) hlt,Nat.add_comm]
theorem not_i64 (m:Nat) (h:m<9223372036854775808):bits .xor .i64 (-1) (m:Int)= -(m:Int)-1:=by
 have h2:(BitVec.ofInt 64 (m:Int)).toNat=m:=by
  rw[BitVec.ofInt_natCast,BitVec.toNat_ofNat];exact Nat.mod_eq_of_lt (by omega)
 have h1:BitVec.ofInt 64 (-1)=BitVec.allOnes 64:=by decide
 show IntKind.i64.wrap ((BitVec.ofInt 64 (-1)^^^BitVec.ofInt 64 (m:Int)).toNat:Int)=_
 rw[h1,BitVec.allOnes_xor,BitVec.toNat_not,h2]
 simp only[IntKind.wrap,IntKind.bits,IntKind.signed]
 simp
 omega
def NumRel (l:List UInt8) (a n:Nat) (w:World) (u o i:Value) (wr:World):Prop:=
 ∃(k u0:Nat),w=wr∧a≤k∧k≤n∧i=.int .i64 (k:Int)∧o=.bool (over ((l.drop a).take (k-a)))∧u=.int .u64 (u0:Int)∧u0<18446744073709551616∧
  (over ((l.drop a).take (k-a))=false→u0=val ((l.drop a).take (k-a)))∧∀c∈(l.drop a).take (k-a),128≤c.toNat
def NumPost (w:World) (g:Nat) (A:Option Addr) (n c:Nat) (l:List UInt8) (s:RS) (a:Nat):Ending→World→Prop:=fun e w'=>
 match dec l a with
 | .short=>RdPost 136 w g A n c l (.tuple #[.int .i64 0,.int .i64 (a:Int),.bool false]) (rFail s 5 l.length) e w'
 | .form=>RdPost 136 w g A n c l (.tuple #[.int .i64 0,.int .i64 (a:Int),.bool false]) (rFail s 4 a) e w'
 | .ok k next=>RdPost 136 w g A n c l (.tuple #[.int .i64 k,.int .i64 (next:Int),.bool true]) s e w'
theorem and_low (c:UInt8):bits .and .u8 (c.toNat:Int) 127=((c.toNat%128:Nat):Int):=by
 rw[show (127:Int)=((127:Nat):Int) from rfl,Go.u8_and_nat _ _ c.toNat_lt (by omega),Go.nat_mask7]
set_option maxRecDepth 100000 in
set_option maxHeartbeats 8000000 in
theorem wnumber (g:Nat) (A:Option Addr) (n c:Nat) (l:List UInt8) (s:RS) (a:Nat) (w:World) (hR:Rd 136 w g A n c l s) (ha:a≤n):
 Calls Tryz.prog 200 #[.pointer (some ⟨g,0,none⟩),.int .i64 (a:Int)] w (NumPost w g A n c l s a):=by
 obtain⟨hgl,c0,c1,c2,c3,f0,f1,f2,f3⟩:=hR.blk.four
 have hsm:=hR.small
 have hlen:=hR.len
 go_enter Tryz.func200,Tryz.ntmps200
 go_wp2
 go_loopw [7,8,9] (fun u o i wr=>NumRel l a n w u o i wr) (fun _ _ i _=>n-(intOf i).toNat)
 case atStart=>exact⟨a,0,rfl,by omega,ha,rfl,by simp[over,val],rfl,by omega,by simp[val],by simp⟩
 case round=>
  obtain⟨k,u0,rfl,hak,hkn,rfl,rfl,rfl,hu0,hval,hbig⟩:=hrel
  by_cases hlt:k<n
  · obtain⟨ad,x,rfl,hadl,hx,hcell⟩:=hR.cell hlt
    have hxl:=x.toNat_lt
    have hand:=and_low x
    generalize hpre:(l.drop a).take (k-a)=pre at*
    have hpl:pre.length=k-a:=by rw[←hpre,List.length_take,List.length_drop];omega
    have hnext:(l.drop a).take (k+1-a)=pre++[x]:=by
        rw[show k+1-a=(k-a)+1 from by omega,List.take_add_one,List.getElem?_drop,show a+(k-a)=k from by omega,hx,hpre];rfl
    have hov:=over_snoc pre x
    have hgrp:¬128≤x.toNat→grp (l.drop a)=some (pre++[x]):=fun hx2=>grp_take hpre hbig (by rw[show a+(k-a)=k from by omega];exact hx) (by omega)
    have hform:¬128≤x.toNat→good (pre++[x])=false→dec l a=.form:=fun hx2 hg=>by unfold dec;rw[hgrp hx2];simp only;rw[if_neg (by rw[hg];decide)]
    have hok:¬128≤x.toNat→good (pre++[x])=true→dec l a=.ok (unzig (val (pre++[x]))) (k+1):=fun hx2 hg=>by
        unfold dec;rw[hgrp hx2];simp only;rw[if_pos hg,List.length_append,List.length_singleton,hpl];congr 1;omega
    have hb1:decide ((k:Int)<(n:Int))=true:=by simp;omega
    have hcase:(over (pre++[x])=true∧(over pre=true∨(over pre=false∧decide ((9:Int)<(k:Int)-(a:Int))=true)∨(over pre=false∧decide ((9:Int)<(k:Int)-(a:Int))=false∧((k:Int)-(a:Int)==9)=true∧decide ((1:Int)<(x.toNat:Int)%128)=true)))∨
     (over (pre++[x])=false∧over pre=false∧pre.length≤9∧((decide ((9:Int)<(k:Int)-(a:Int))=false∧((k:Int)-(a:Int)==9)=true∧decide ((1:Int)<(x.toNat:Int)%128)=false)∨(decide ((9:Int)<(k:Int)-(a:Int))=false∧((k:Int)-(a:Int)==9)=false))):=by
        rw[hov]
        cases ho:over pre
        · by_cases h9:9<pre.length
          · left
            refine⟨by simp[h9],.inr (.inl ⟨rfl,?_⟩)⟩
            simp;omega
          · by_cases h8:pre.length=9
            · by_cases h7:1<x.toNat%128
              · left
                refine⟨by simp[h8];omega,.inr (.inr ⟨rfl,?_,?_,?_⟩)⟩
                · simp;omega
                · simp;omega
                · simp;omega
              · right
                refine⟨by simp[h8];omega,rfl,by omega,.inl ⟨?_,?_,?_⟩⟩
                · simp;omega
                · simp;omega
                · simp;omega
            · right
              refine⟨by simp[h8];omega,rfl,by omega,.inr ⟨?_,?_⟩⟩
              · simp;omega
              · simp;omega
        · left
          exact⟨by simp,.inl rfl⟩
    clear hov
    rcases hcase with ⟨hov,hcs⟩|⟨hov,ho,hp9,hcs⟩
    · have hnok:¬128≤x.toNat→dec l a=.form:=fun hc=>hform hc (by unfold good;rw[hov];rfl)
      clear hform hok hgrp hval
      by_cases hc:128≤x.toNat
      · rcases hcs with ho|⟨ho,h9⟩|⟨ho,h9,h8,h7⟩
        all_goals (
         go_wp2
         go_roundw
         case rel=>
           refine⟨k+1,u0,rfl,by omega,by omega,by go_num,by rw[hnext,hov],rfl,hu0,?_,?_⟩
           · rw[hnext,hov];intro h;cases h
           · rw[hnext]
             intro d hd
             rcases List.mem_append.1 hd with hd|hd
             · exact hbig d hd
             · obtain rfl:=List.mem_singleton.1 hd;exact hc
         case measure=>simp[intOf];omega)
      · have hd:=hnok hc
        rcases hcs with ho|⟨ho,h9⟩|⟨ho,h9,h8,h7⟩
        all_goals (
         go_wp2_with ((with_reducible refine(wfail g _ n c l s _ _ _ hR).mono ?_);rintro e w1 ⟨rfl,hr1,hg1⟩)
         go_ret3
         unfold NumPost
         rw[hd]
         exact⟨rfl,hr1,hg1⟩)
    · obtain rfl:u0=val pre:=hval ho
      have hor:bits .or .u64 ((val pre:Nat):Int) (IntKind.u64.wrap ((x.toNat:Int)%128*2^(7*(k-a))))=((val (pre++[x]):Nat):Int):=or_next pre x (k-a) hpl hov
      have hV:=(not_over_lt hov).1
      by_cases hc:128≤x.toNat
      · rcases hcs with ⟨h9,h8,h7⟩|⟨h9,h8⟩
        all_goals (
         go_wp2
         go_roundw
         case rel=>
           refine⟨k+1,val (pre++[x]),rfl,by omega,by omega,by go_num,by rw[hnext,hov],?_,hV,?_,?_⟩
           · rfl
           · intro _;rw[hnext]
           · rw[hnext]
             intro d hd
             rcases List.mem_append.1 hd with hd|hd
             · exact hbig d hd
             · obtain rfl:=List.mem_singleton.1 hd;exact hc
         case measure=>simp[intOf];omega)
      · by_cases hx0:x.toNat=0∧0<pre.length
        · have hd:dec l a=.form:=hform hc (by
           unfold good
           have:x=0:=UInt8.toNat_inj.1 (by rw[hx0.1];rfl)
           rw[hov,this]
           simp;exact fun e=>by have:=hx0.2;rw[e]at this;simp at this)
          have hz1:((x.toNat:Int)==0)=true:=by simp;omega
          have hz2:decide ((0:Int)<(k:Int)-(a:Int))=true:=by simp;omega
          rcases hcs with ⟨h9,h8,h7⟩|⟨h9,h8⟩
          all_goals (
           go_wp2_with ((with_reducible refine(wfail g _ n c l s _ _ _ hR).mono ?_);rintro e w1 ⟨rfl,hr1,hg1⟩)
           all_goals (
                go_ret3
                unfold NumPost
                rw[hd]
                exact⟨rfl,hr1,hg1⟩))
        · have hd:=hok hc (by
           unfold good
           rw[hov]
           simp
           by_cases hp:pre=[]
           · exact .inl hp
           · right
             intro e
             refine hx0 ⟨by rw[e];rfl,?_⟩
             exact List.length_pos_iff.2 hp)
          have hz:((x.toNat:Int)==0)=false∨(((x.toNat:Int)==0)=true∧decide (a<k)=false):=by
           by_cases h0:x.toNat=0
           · right
             have:¬0<pre.length:=fun e=>hx0 ⟨h0,e⟩
             exact⟨by simp;omega,by simp;omega⟩
           · left;simp;omega
          generalize hVV:val (pre++[x])=V at*
          have hs1:wrap64 ((V:Int)/2)=(V:Int)/2:=by unfold wrap64;omega
          have hs2:bits .and .u64 (V:Int) 1=(V:Int)%2:=by
           rw[show (1:Int)=((1:Nat):Int) from rfl,Go.u64_and_nat _ _ hV (by omega),Go.nat_mask1];rfl
          have hs3:bits .xor .i64 (-1) ((V:Int)/2)= -((V:Int)/2)-1:=by
           rw[show (V:Int)/2=((V/2:Nat):Int) from by omega,not_i64 _ (by omega)]
          by_cases hodd:V%2=0
          · have hs4:((V:Int)%2==1)=false:=by simp;omega
            have huz:unzig V=(V:Int)/2:=by unfold unzig;rw[if_pos hodd];omega
            rcases hz with hz1|⟨hz1,hz2⟩<;>rcases hcs with ⟨h9,h8,h7⟩|⟨h9,h8⟩
            all_goals (
                go_wp2
                all_goals (
                 go_ret3
                 unfold NumPost
                 rw[hd,huz]
                 exact⟨rfl,hR,World.grownBy.refl _ _⟩))
          · have hs4:((V:Int)%2==1)=true:=by simp;omega
            have huz:unzig V= -((V:Int)/2)-1:=by unfold unzig;rw[if_neg hodd];omega
            rcases hz with hz1|⟨hz1,hz2⟩<;>rcases hcs with ⟨h9,h8,h7⟩|⟨h9,h8⟩
            all_goals (
                go_wp2
                all_goals (
                 go_ret3
                 unfold NumPost
                 rw[hd,huz]
                 exact⟨rfl,hR,World.grownBy.refl _ _⟩))
  · obtain rfl:k=n:=by omega
    have hb1:decide ((k:Int)<(k:Int))=false:=by simp
    have hd:dec l a=.short:=by
        unfold dec
        rw[(grp_none_iff _).2 (by
         intro c hc
         refine hbig c ?_
         rw[List.take_of_length_le (by rw[List.length_drop];omega)]
         exact hc)]
    go_wp2_with ((with_reducible refine(wfail g _ k c l s _ _ _ hR).mono ?_);rintro e w1 ⟨rfl,hr1,hg1⟩)
    go_ret3
    unfold NumPost
    rw[hd,hlen]
    exact⟨rfl,hr1,hg1⟩
end Go.Proofs.YthdmanadhbpogaaGreat
