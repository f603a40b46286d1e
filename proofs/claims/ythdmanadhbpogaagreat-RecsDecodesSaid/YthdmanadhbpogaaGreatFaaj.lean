/- The walk of the reference's (*Reader).Int. -/
import Derived.Deep.RegionHeld3
import Derived.Deep.MidRow
import Derived.Test.YthdmanadhbpogaaGreatFaab
import Derived.Test.YthdmanadhbpogaaGreatTl3
import Derived.Test.YthdmanadhbpogaaGreatFaah
import Derived.Test.YthdmanadhbpogaaGreatFabf
namespace Go.Proofs.YthdmanadhbpogaaGreat
set_option maxHeartbeats 8000000
set_option maxRecDepth 100000
open Go.RowKit Fl
def xFail (s:RS) (e:Int) (q:Nat):RS:=if s.e=0 then ⟨s.at_,e,q⟩ else s
theorem xFail_eq {s:RS} {e:Int} {q:Nat} (h:e≠0):xFail s e q=rFail s e q:=by
 unfold xFail rFail
 by_cases h1:s.e=0
 · rw[if_pos h1,if_pos ⟨h1,h⟩]
 · rw[if_neg h1,if_neg (fun h2=>h1 h2.1)]
theorem xstop (g:Nat) (A:Option Addr) (n c:Nat) (l:List UInt8) (s:RS) (e:Int) (q:Nat) (w:World) (h:Rd 117 w g A n c l s):
 Calls Tryz.prog 144 #[.pointer (some ⟨g,0,none⟩),.int .i64 e,.int .i64 (q:Int)] w (RdPost 117 w g A n c l (.tuple #[]) (xFail s e q)):=by
 obtain⟨hgl,c0,c1,c2,c3,f0,f1,f2,f3⟩:=h.blk.four
 by_cases h1:s.e=0
 · have hs:xFail s e q=⟨s.at_,e,q⟩:=by unfold xFail;rw[if_pos h1]
   have hb1:(s.e==0)=true:=by simp[h1]
   go_enter Tryz.func144,Tryz.ntmps144
   go_wp2
   go_end0
   rw[hs]
   exact⟨rfl,h.faulted e q,(grown_set _ _ _ _).trans (grown_set _ _ _ _)⟩
 · have hs:xFail s e q=s:=by unfold xFail;rw[if_neg h1]
   have hb1:(s.e==0)=false:=by simp[h1]
   go_enter Tryz.func144,Tryz.ntmps144
   go_wp2
   go_end0
   rw[hs]
   exact⟨rfl,h,World.grownBy.refl _ _⟩
theorem Reads.window {w:World} {B n l h:Nat} {ad:Addr} {xs:List Value} (hr:Reads w B 1 (some ad) n xs) (hlh:l≤h) (hh:h≤n):Reads w B 1 (some (ad.add l)) (h-l) ((xs.drop l).take (h-l)):=by
 refine⟨by rw[List.length_take,List.length_drop,hr.1];omega,fun hn=>?_⟩
 obtain⟨ad',e,hb,hc⟩:=hr.2 (by omega)
 obtain rfl:=Option.some.inj e
 refine⟨_,rfl,by rw[block_of_add];exact hb,fun j u hu=>?_⟩
 rw[add_of_add]
 rw[List.getElem?_take]at hu
 split at hu
 · exact hc _ u (by rw[←hu,List.getElem?_drop])
 · cases hu
theorem shl7_or (u:Nat) (x:UInt8):bits .or .u64 (IntKind.u64.wrap ((u:Int)*128)) ((x.toNat:Int)%128)=(((x.toNat%128+128*u)%18446744073709551616:Nat):Int):=by
 have hm:x.toNat%128<128:=Nat.mod_lt _ (by omega)
 have e:IntKind.u64.wrap ((u:Int)*128)=((u*128%18446744073709551616:Nat):Int):=by rw[IntKind.wrap_u64];omega
 have e2:(x.toNat:Int)%128=((x.toNat%128:Nat):Int):=by omega
 rw[e,e2,Go.u64_or_nat _ _ (by omega) (by omega)]
 congr 1
 rw[Go.nat_join 7 _ _ (by show _%128=0;omega) hm]
 omega
def xval (bs:List UInt8):Nat:=if bs.length≤10 then val bs%18446744073709551616 else 0
theorem xval_lt (bs:List UInt8):xval bs<18446744073709551616:=by unfold xval;split<;>omega
theorem xval_good {bs:List UInt8} (h:grp bs=some bs) (hg:good bs=true):encI (unzig (xval bs))=bs∧xval bs=val bs:=by
 obtain⟨h1,h2⟩:=enc_good h hg
 unfold good over at hg
 simp only[Bool.and_eq_true,Bool.not_eq_true',Bool.or_eq_false_iff,decide_eq_false_iff_not]at hg
 have e:xval bs=val bs:=by unfold xval;rw[if_pos (by omega),Nat.mod_eq_of_lt h2]
 exact⟨by unfold encI;rw[zig_unzig,e,h1],e⟩
theorem xval_bad {bs:List UInt8} (hg:good bs=false):encI (unzig (xval bs))≠bs:=by
 intro h
 unfold encI at h
 rw[zig_unzig]at h
 have:=good_enc (xval_lt bs)
 rw[h,hg]at this
 cases this
def XNum1 (l:List UInt8) (a n:Nat) (w:World) (i:Value) (wr:World):Prop:=
 ∃k:Nat,w=wr∧a≤k∧k≤n∧i=.int .i64 (k:Int)∧∀c∈(l.drop a).take (k-a),128≤c.toNat
def XNum2 (bs:List UInt8) (a:Nat) (w:World) (u i:Value) (wr:World):Prop:=
 ∃(j q:Nat),w.drewN q=wr∧j≤bs.length∧i=.int .i64 ((a:Int)+(j:Int)-1)∧(bs.length≤10→u=.int .u64 ((val (bs.drop j)%18446744073709551616:Nat):Int))∧(10<bs.length→u=.int .u64 0∧j=bs.length)
theorem _root_.Go.RowKit.Below.grownBy' {w w':World} (h:Below w.heap.size w w') (r:Option Nat):w.grownBy w' r:=⟨h.os,h.tape,h.output,h.size,fun k hk _=>h.block k hk⟩
set_option linter.unusedSimpArgs false in
theorem xRInt (g:Nat) (A:Option Addr) (n c:Nat) (l:List UInt8) (s:RS) (w:World) (h:Rd 117 w g A n c l s):
 Calls Tryz.prog 67 #[.pointer (some ⟨g,0,none⟩)] w (RdPost 117 w g A n c l (.int .i64 (rInt l s).1) (rInt l s).2):=by
 obtain⟨hgl,c0,c1,c2,c3,f0,f1,f2,f3⟩:=h.blk.four
 have hnc:=h.nc
 have hlen:=h.len
 have hsm:=h.small
 have hal:=h.at_le
 by_cases h1:s.e=0
 · have hb1:(s.e !=0)=false:=by simp[h1]
   have H1:=Lib.hid h1
   go_enter Tryz.func67,Tryz.ntmps67
   clear h1
   go_wp2
   go_loopw [3] (fun i wr=>XNum1 l s.at_ n w i wr) (fun i _=>n-(intOf i).toNat)
   case atStart=>exact⟨s.at_,rfl,Nat.le_refl _,hal,rfl,by simp⟩
   case round=>
    obtain⟨k,rfl,hak,hkn,rfl,hbig⟩:=hrel
    by_cases hlt:k<n
    · obtain⟨ad,x,rfl,hadl,hx,hcell⟩:=h.cell hlt
      have hb3:decide ((k:Int)<(n:Int))=true:=by simp;omega
      have hxl:=x.toNat_lt
      by_cases hc:128≤x.toNat
      · have hb4:decide ((128:Int)≤(x.toNat:Int))=true:=by simp;omega
        go_wp2
        go_roundw
        case rel=>
         refine⟨k+1,rfl,by omega,by omega,by go_num,?_⟩
         rw[show k+1-s.at_=(k-s.at_)+1 from by omega,List.take_add_one,List.getElem?_drop,show s.at_+(k-s.at_)=k from by omega,hx]
         intro d hd
         rcases List.mem_append.1 hd with hd|hd
         · exact hbig d hd
         · obtain rfl:d=x:=by simpa using hd
           exact hc
        case measure=>simp[intOf];omega
      · have hb4:decide ((128:Int)≤(x.toNat:Int))=false:=by simp;omega
        have hg:grp (l.drop s.at_)=some ((l.drop s.at_).take (k-s.at_)++[x]):=grp_take rfl hbig (by rw[show s.at_+(k-s.at_)=k from by omega];exact hx) (by omega)
        have hbs:(l.drop s.at_).take (k+1-s.at_)=(l.drop s.at_).take (k-s.at_)++[x]:=by
         rw[show k+1-s.at_=(k-s.at_)+1 from by omega,List.take_add_one,List.getElem?_drop,show s.at_+(k-s.at_)=k from by omega,hx];rfl
        have hpl:((l.drop s.at_).take (k-s.at_)).length=k-s.at_:=by rw[List.length_take,List.length_drop];omega
        have hb5:((k:Int)==(n:Int))=false:=by simp;omega
        generalize hbb:(l.drop s.at_).take (k-s.at_)++[x]=bs at*
        have hbl:bs.length=k-s.at_+1:=by rw[←hbb,List.length_append,hpl];rfl
        have hbx:∀j,j<bs.length→bs[j]?=l[s.at_+j]?:=by
         intro j hj
         rw[←hbs,List.getElem?_take_of_lt (by omega),List.getElem?_drop]
        have hgbs:grp bs=some bs:=by
         obtain⟨_,_,_,_,_,_,h⟩:=grp_some hg
         exact h
        have HS:RowKit.Hid (rInt l s=if good bs=true then (unzig (val bs),⟨k+1,s.e,s.p⟩) else (0,xFail s 4 s.at_)):=by
         unfold rInt
         rw[if_neg (by simp[H1.out])]
         unfold dec
         rw[hg]
         simp only
         by_cases hgd:good bs=true
         · rw[if_pos hgd,if_pos hgd];simp only;rw[hbl];congr 2;omega
         · rw[if_neg hgd,if_neg hgd,xFail_eq (by omega)];exact rfl
        have HG:=Lib.hid hgbs
        have HB:=Lib.hid hbs
        have hbl1:bs.length≤k-s.at_+1:=by omega
        have hbl2:k-s.at_+1≤bs.length:=by omega
        clear hgbs hg hbs hbb hbl hpl hb1 hlen hx
        go_wp2
        go_loopw [4,5] (fun u i wr=>XNum2 bs s.at_ w u i wr) (fun _ i _=>(intOf i+1).toNat)
        case atStart=>
         refine⟨bs.length,0,rfl,Nat.le_refl _,?_,?_,?_⟩
         · go_num
         · intro _;rw[List.drop_length];rfl
         · intro _;exact⟨rfl,rfl⟩
        case round=>
         obtain⟨j,q,rfl,hj,rfl,hu1,hu2⟩:=hrel
         have hexit:(10<bs.length∧j=bs.length)∨(bs.length≤10∧j=0)∨(bs.length≤10∧∃j',j=j'+1):=by
              by_cases h10:10<bs.length
              · exact .inl ⟨h10,(hu2 h10).2⟩
              · rcases j with _|j'
                · exact .inr (.inl ⟨by omega,rfl⟩)
                · exact .inr (.inr ⟨by omega,j',rfl⟩)
         rcases hexit with ⟨h10,rfl⟩|⟨h10,rfl⟩|⟨h10,j',rfl⟩
         · have hb6:decide ((k:Int)-(s.at_:Int)<10)=false:=by simp;omega
           obtain⟨rfl,_⟩:=hu2 h10
           clear hu1 hu2 hbx hcell
           have HK:RowKit.Hid (unzig (xval bs)=0):=by unfold xval;rw[if_neg (by omega)];exact rfl
           go_wp2
           have hA':=h.reads.window (l:=s.at_) (h:=k+1) (by omega) (by omega)
           rw[bytesV_drop,HB.out]at hA'
           have hne:¬c=s.at_:=by omega
           have hkc:(k:Int)+1≤(c:Int):=by omega
           have hk0:(0:Int)≤(k:Int)+1:=by omega
           have hsk:s.at_≤k+1:=by omega
           have hcv:∀w':World,(∀p:Addr,p.block<w.heap.size→w'.cell? p=w.cell? p)→(convert 48 9 (.slice (some (ad.add s.at_)) (k+1-s.at_) (c-s.at_))).run Tryz.prog w'=.ok (.string ⟨bs.toArray⟩) w':=
             fun w' hk=>run_conv_reads _ _ _ _ Tryz.underlying48 Tryz.underlying5 Tryz.underlying9 (hA'.keep hk)
           have hwr:IntKind.i64.wrap ((k:Int)+1)=(k:Int)+1:=by rw[IntKind.wrap_i64];omega
           clear hA'
           cases hgd:good bs
           · have hb7:(encI (0)==bs)=false:=by rw[←HK.out];simp;exact xval_bad hgd
             refine wp_region_held_drew (S:=fun w'=>(∀p:Addr,p.block<w.heap.size→w'.cell? p=w.cell? p)∧(w'.cell? ⟨g,0,none⟩=some (.slice (some ad) n c)∧w'.cell? ⟨g,1,none⟩=some (.int .i64 (s.at_:Int)))∧(convert 48 9 (.slice (some (ad.add s.at_)) (k+1-s.at_) (c-s.at_))).run Tryz.prog w'=.ok (.string ⟨bs.toArray⟩) w')
              (by kernel_rfl) ⟨fun p hp=>rfl,⟨c0,c1⟩,hcv _ (fun p hp=>rfl)⟩ (fun hHeld=>?_)
             refine tz 0 ?_
             try simp only[Act.put,pS]
             refine tz 3 ?_
             try simp only[Act.put,pS]
             refine tz 4 ?_
             try simp only[Act.put,pS]
             refine tz 5 ?_
             try simp only[Act.put,pS]
             refine tz 6 ?_
             try simp only[Act.put,pS]
             refine tz 7 ?_
             try simp only[Act.put,pS]
             refine tz 8 ?_
             try simp only[Act.put,pS]
             refine tz 9 ?_
             try simp only[Act.put,pS]
             refine tz 10 ?_
             try simp only[Act.put,pS]
             refine tz 11 ?_
             try simp only[Act.put,pS]
             refine tz 12 ?_
             try simp only[Act.put,pS]
             refine tz 13 ?_
             try simp only[Act.put,pS]
             refine tz 14 ?_
             try simp only[Act.put,pS]
             refine tr 1 rfl fun K hK=>?_
             go_simp
             (with_reducible refine(xint _ _ (by omega) (by omega)).mono ?_)
             rintro e w1 ⟨A1,cc,rfl,hA1,hA2,hown,hb⟩
             have hS1:=And.intro (fun (p:Addr) (hp:p.block<w.heap.size)=>hb.cell hp) (And.intro (And.intro ((hb.cell (p:=⟨g,0,none⟩) hgl).trans c0) ((hb.cell (p:=⟨g,1,none⟩) hgl).trans c1)) (hcv w1 (fun p hp=>hb.cell hp)))
             have hcv1:=run_conv_reads (P:=Tryz.prog) w1 48 9 5 (c:=cc) Tryz.underlying48 Tryz.underlying5 Tryz.underlying9 (Reads.of_own hown)
             obtain⟨hgl',c0',c1',c2',c3',f0',f1',f2',f3'⟩:=((h.drewN (q+1)).below hb).blk.four
             go_simp
             refine hK.out _ _ hS1 (fun hHeld=>?_)
             clear hK K
             try simp only[Act.put,pS]
             refine tr 2 rfl fun K hK=>?_
             go_simp
             refine hK.out _ _ hS1 (fun hHeld=>?_)
             clear hK K
             try simp only[Act.put,pS]
             refine tr 15 rfl fun K hK=>?_
             go_simp
             refine hK.out _ _ hS1 (fun hHeld=>?_)
             clear hK K
             try simp only[Act.put,pS]
             refine td ?_
             clear hS1 hHeld
             go_wp2_with ((with_reducible refine(xstop g _ _ _ _ _ _ _ _ ((h.drewN (q+1)).below hb)).mono ?_);rintro e w2 ⟨rfl,hr2,hg2⟩)
             go_ret
             rw[HS.out,if_neg (by rw[hgd];decide)]
             exact⟨rfl,hr2,((grown_drewN (World.grownBy.refl _ _) _).trans (hb.grownBy' (some g))).trans hg2⟩
           · have hb7:(encI (0)==bs)=true:=by rw[←HK.out,(xval_good HG.out hgd).1];simp
             refine wp_region_held_drew (S:=fun w'=>(∀p:Addr,p.block<w.heap.size→w'.cell? p=w.cell? p)∧(w'.cell? ⟨g,0,none⟩=some (.slice (some ad) n c)∧w'.cell? ⟨g,1,none⟩=some (.int .i64 (s.at_:Int)))∧(convert 48 9 (.slice (some (ad.add s.at_)) (k+1-s.at_) (c-s.at_))).run Tryz.prog w'=.ok (.string ⟨bs.toArray⟩) w')
              (by kernel_rfl) ⟨fun p hp=>rfl,⟨c0,c1⟩,hcv _ (fun p hp=>rfl)⟩ (fun hHeld=>?_)
             refine tz 0 ?_
             try simp only[Act.put,pS]
             refine tz 3 ?_
             try simp only[Act.put,pS]
             refine tz 4 ?_
             try simp only[Act.put,pS]
             refine tz 5 ?_
             try simp only[Act.put,pS]
             refine tz 6 ?_
             try simp only[Act.put,pS]
             refine tz 7 ?_
             try simp only[Act.put,pS]
             refine tz 8 ?_
             try simp only[Act.put,pS]
             refine tz 9 ?_
             try simp only[Act.put,pS]
             refine tz 10 ?_
             try simp only[Act.put,pS]
             refine tz 11 ?_
             try simp only[Act.put,pS]
             refine tz 12 ?_
             try simp only[Act.put,pS]
             refine tz 13 ?_
             try simp only[Act.put,pS]
             refine tz 14 ?_
             try simp only[Act.put,pS]
             refine tr 1 rfl fun K hK=>?_
             go_simp
             (with_reducible refine(xint _ _ (by omega) (by omega)).mono ?_)
             rintro e w1 ⟨A1,cc,rfl,hA1,hA2,hown,hb⟩
             have hS1:=And.intro (fun (p:Addr) (hp:p.block<w.heap.size)=>hb.cell hp) (And.intro (And.intro ((hb.cell (p:=⟨g,0,none⟩) hgl).trans c0) ((hb.cell (p:=⟨g,1,none⟩) hgl).trans c1)) (hcv w1 (fun p hp=>hb.cell hp)))
             have hcv1:=run_conv_reads (P:=Tryz.prog) w1 48 9 5 (c:=cc) Tryz.underlying48 Tryz.underlying5 Tryz.underlying9 (Reads.of_own hown)
             obtain⟨hgl',c0',c1',c2',c3',f0',f1',f2',f3'⟩:=((h.drewN (q+1)).below hb).blk.four
             go_simp
             refine hK.out _ _ hS1 (fun hHeld=>?_)
             clear hK K
             try simp only[Act.put,pS]
             refine tr 2 rfl fun K hK=>?_
             go_simp
             refine hK.out _ _ hS1 (fun hHeld=>?_)
             clear hK K
             try simp only[Act.put,pS]
             refine tr 15 rfl fun K hK=>?_
             go_simp
             refine hK.out _ _ hS1 (fun hHeld=>?_)
             clear hK K
             try simp only[Act.put,pS]
             refine td ?_
             clear hS1 hHeld
             go_wp2
             go_ret
             rw[HS.out,if_pos hgd]
             have hr1:=((h.drewN (q+1)).below hb).moved (k:=k+1) (by omega)
             rw[Int.natCast_add]at hr1
             exact⟨ret_int (by rw[←(xval_good HG.out hgd).2,HK.out]),hr1,((grown_drewN (World.grownBy.refl _ _) _).trans (hb.grownBy' (some g))).trans (grown_set _ _ _ _)⟩
         · have hu:=hu1 h10
           rw[List.drop_zero]at hu
           subst hu
           clear hu1 hu2 hbx hcell
           have hVx:xval bs=val bs%18446744073709551616:=by unfold xval;rw[if_pos h10]
           have hVl:=xval_lt bs
           rw[←hVx]
           generalize hV:xval bs=V at*
           clear hVx
           have HV:=Lib.hid hV
           clear hV
           by_cases hodd:V%2=0
           · have hs4:((V:Int)%2==1)=false:=by simp;omega
             have HK:RowKit.Hid (unzig (xval bs)=(V:Int)/2):=by rw[HV.out];unfold unzig;rw[if_pos hodd];show _=_;omega
             clear hodd
             go_wp2
             have hA':=h.reads.window (l:=s.at_) (h:=k+1) (by omega) (by omega)
             rw[bytesV_drop,HB.out]at hA'
             have hne:¬c=s.at_:=by omega
             have hkc:(k:Int)+1≤(c:Int):=by omega
             have hk0:(0:Int)≤(k:Int)+1:=by omega
             have hsk:s.at_≤k+1:=by omega
             have hcv:∀w':World,(∀p:Addr,p.block<w.heap.size→w'.cell? p=w.cell? p)→(convert 48 9 (.slice (some (ad.add s.at_)) (k+1-s.at_) (c-s.at_))).run Tryz.prog w'=.ok (.string ⟨bs.toArray⟩) w':=
              fun w' hk=>run_conv_reads _ _ _ _ Tryz.underlying48 Tryz.underlying5 Tryz.underlying9 (hA'.keep hk)
             have hwr:IntKind.i64.wrap ((k:Int)+1)=(k:Int)+1:=by rw[IntKind.wrap_i64];omega
             clear hA'
             cases hgd:good bs
             · have hb7:(encI ((V:Int)/2)==bs)=false:=by rw[←HK.out];simp;exact xval_bad hgd
               refine wp_region_held_drew (S:=fun w'=>(∀p:Addr,p.block<w.heap.size→w'.cell? p=w.cell? p)∧(w'.cell? ⟨g,0,none⟩=some (.slice (some ad) n c)∧w'.cell? ⟨g,1,none⟩=some (.int .i64 (s.at_:Int)))∧(convert 48 9 (.slice (some (ad.add s.at_)) (k+1-s.at_) (c-s.at_))).run Tryz.prog w'=.ok (.string ⟨bs.toArray⟩) w')
                (by kernel_rfl) ⟨fun p hp=>rfl,⟨c0,c1⟩,hcv _ (fun p hp=>rfl)⟩ (fun hHeld=>?_)
               refine tz 0 ?_
               try simp only[Act.put,pS]
               refine tz 3 ?_
               try simp only[Act.put,pS]
               refine tz 4 ?_
               try simp only[Act.put,pS]
               refine tz 5 ?_
               try simp only[Act.put,pS]
               refine tz 6 ?_
               try simp only[Act.put,pS]
               refine tz 7 ?_
               try simp only[Act.put,pS]
               refine tz 8 ?_
               try simp only[Act.put,pS]
               refine tz 9 ?_
               try simp only[Act.put,pS]
               refine tz 10 ?_
               try simp only[Act.put,pS]
               refine tz 11 ?_
               try simp only[Act.put,pS]
               refine tz 12 ?_
               try simp only[Act.put,pS]
               refine tz 13 ?_
               try simp only[Act.put,pS]
               refine tz 14 ?_
               try simp only[Act.put,pS]
               refine tr 1 rfl fun K hK=>?_
               go_simp
               (with_reducible refine(xint _ _ (by omega) (by omega)).mono ?_)
               rintro e w1 ⟨A1,cc,rfl,hA1,hA2,hown,hb⟩
               have hS1:=And.intro (fun (p:Addr) (hp:p.block<w.heap.size)=>hb.cell hp) (And.intro (And.intro ((hb.cell (p:=⟨g,0,none⟩) hgl).trans c0) ((hb.cell (p:=⟨g,1,none⟩) hgl).trans c1)) (hcv w1 (fun p hp=>hb.cell hp)))
               have hcv1:=run_conv_reads (P:=Tryz.prog) w1 48 9 5 (c:=cc) Tryz.underlying48 Tryz.underlying5 Tryz.underlying9 (Reads.of_own hown)
               obtain⟨hgl',c0',c1',c2',c3',f0',f1',f2',f3'⟩:=((h.drewN (q+1)).below hb).blk.four
               go_simp
               refine hK.out _ _ hS1 (fun hHeld=>?_)
               clear hK K
               try simp only[Act.put,pS]
               refine tr 2 rfl fun K hK=>?_
               go_simp
               refine hK.out _ _ hS1 (fun hHeld=>?_)
               clear hK K
               try simp only[Act.put,pS]
               refine tr 15 rfl fun K hK=>?_
               go_simp
               refine hK.out _ _ hS1 (fun hHeld=>?_)
               clear hK K
               try simp only[Act.put,pS]
               refine td ?_
               clear hS1 hHeld
               go_wp2_with ((with_reducible refine(xstop g _ _ _ _ _ _ _ _ ((h.drewN (q+1)).below hb)).mono ?_);rintro e w2 ⟨rfl,hr2,hg2⟩)
               go_ret
               rw[HS.out,if_neg (by rw[hgd];decide)]
               exact⟨rfl,hr2,((grown_drewN (World.grownBy.refl _ _) _).trans (hb.grownBy' (some g))).trans hg2⟩
             · have hb7:(encI ((V:Int)/2)==bs)=true:=by rw[←HK.out,(xval_good HG.out hgd).1];simp
               refine wp_region_held_drew (S:=fun w'=>(∀p:Addr,p.block<w.heap.size→w'.cell? p=w.cell? p)∧(w'.cell? ⟨g,0,none⟩=some (.slice (some ad) n c)∧w'.cell? ⟨g,1,none⟩=some (.int .i64 (s.at_:Int)))∧(convert 48 9 (.slice (some (ad.add s.at_)) (k+1-s.at_) (c-s.at_))).run Tryz.prog w'=.ok (.string ⟨bs.toArray⟩) w')
                (by kernel_rfl) ⟨fun p hp=>rfl,⟨c0,c1⟩,hcv _ (fun p hp=>rfl)⟩ (fun hHeld=>?_)
               refine tz 0 ?_
               try simp only[Act.put,pS]
               refine tz 3 ?_
               try simp only[Act.put,pS]
               refine tz 4 ?_
               try simp only[Act.put,pS]
               refine tz 5 ?_
               try simp only[Act.put,pS]
               refine tz 6 ?_
               try simp only[Act.put,pS]
               refine tz 7 ?_
               try simp only[Act.put,pS]
               refine tz 8 ?_
               try simp only[Act.put,pS]
               refine tz 9 ?_
               try simp only[Act.put,pS]
               refine tz 10 ?_
               try simp only[Act.put,pS]
               refine tz 11 ?_
               try simp only[Act.put,pS]
               refine tz 12 ?_
               try simp only[Act.put,pS]
               refine tz 13 ?_
               try simp only[Act.put,pS]
               refine tz 14 ?_
               try simp only[Act.put,pS]
               refine tr 1 rfl fun K hK=>?_
               go_simp
               (with_reducible refine(xint _ _ (by omega) (by omega)).mono ?_)
               rintro e w1 ⟨A1,cc,rfl,hA1,hA2,hown,hb⟩
               have hS1:=And.intro (fun (p:Addr) (hp:p.block<w.heap.size)=>hb.cell hp) (And.intro (And.intro ((hb.cell (p:=⟨g,0,none⟩) hgl).trans c0) ((hb.cell (p:=⟨g,1,none⟩) hgl).trans c1)) (hcv w1 (fun p hp=>hb.cell hp)))
               have hcv1:=run_conv_reads (P:=Tryz.prog) w1 48 9 5 (c:=cc) Tryz.underlying48 Tryz.underlying5 Tryz.underlying9 (Reads.of_own hown)
               obtain⟨hgl',c0',c1',c2',c3',f0',f1',f2',f3'⟩:=((h.drewN (q+1)).below hb).blk.four
               go_simp
               refine hK.out _ _ hS1 (fun hHeld=>?_)
               clear hK K
               try simp only[Act.put,pS]
               refine tr 2 rfl fun K hK=>?_
               go_simp
               refine hK.out _ _ hS1 (fun hHeld=>?_)
               clear hK K
               try simp only[Act.put,pS]
               refine tr 15 rfl fun K hK=>?_
               go_simp
               refine hK.out _ _ hS1 (fun hHeld=>?_)
               clear hK K
               try simp only[Act.put,pS]
               refine td ?_
               clear hS1 hHeld
               go_wp2
               go_ret
               rw[HS.out,if_pos hgd]
               have hr1:=((h.drewN (q+1)).below hb).moved (k:=k+1) (by omega)
               rw[Int.natCast_add]at hr1
               exact⟨ret_int (by rw[←(xval_good HG.out hgd).2,HK.out]),hr1,((grown_drewN (World.grownBy.refl _ _) _).trans (hb.grownBy' (some g))).trans (grown_set _ _ _ _)⟩
           · have hs4:((V:Int)%2==1)=true:=by simp;omega
             have HK:RowKit.Hid (unzig (xval bs)= -((V:Int)/2)-1):=by rw[HV.out];unfold unzig;rw[if_neg hodd];show _=_;omega
             clear hodd
             go_wp2
             have hA':=h.reads.window (l:=s.at_) (h:=k+1) (by omega) (by omega)
             rw[bytesV_drop,HB.out]at hA'
             have hne:¬c=s.at_:=by omega
             have hkc:(k:Int)+1≤(c:Int):=by omega
             have hk0:(0:Int)≤(k:Int)+1:=by omega
             have hsk:s.at_≤k+1:=by omega
             have hcv:∀w':World,(∀p:Addr,p.block<w.heap.size→w'.cell? p=w.cell? p)→(convert 48 9 (.slice (some (ad.add s.at_)) (k+1-s.at_) (c-s.at_))).run Tryz.prog w'=.ok (.string ⟨bs.toArray⟩) w':=
              fun w' hk=>run_conv_reads _ _ _ _ Tryz.underlying48 Tryz.underlying5 Tryz.underlying9 (hA'.keep hk)
             have hwr:IntKind.i64.wrap ((k:Int)+1)=(k:Int)+1:=by rw[IntKind.wrap_i64];omega
             clear hA'
             cases hgd:good bs
             · have hb7:(encI (-((V:Int)/2)-1)==bs)=false:=by rw[←HK.out];simp;exact xval_bad hgd
               refine wp_region_held_drew (S:=fun w'=>(∀p:Addr,p.block<w.heap.size→w'.cell? p=w.cell? p)∧(w'.cell? ⟨g,0,none⟩=some (.slice (some ad) n c)∧w'.cell? ⟨g,1,none⟩=some (.int .i64 (s.at_:Int)))∧(convert 48 9 (.slice (some (ad.add s.at_)) (k+1-s.at_) (c-s.at_))).run Tryz.prog w'=.ok (.string ⟨bs.toArray⟩) w')
                (by kernel_rfl) ⟨fun p hp=>rfl,⟨c0,c1⟩,hcv _ (fun p hp=>rfl)⟩ (fun hHeld=>?_)
               refine tz 0 ?_
               try simp only[Act.put,pS]
               refine tz 3 ?_
               try simp only[Act.put,pS]
               refine tz 4 ?_
               try simp only[Act.put,pS]
               refine tz 5 ?_
               try simp only[Act.put,pS]
               refine tz 6 ?_
               try simp only[Act.put,pS]
               refine tz 7 ?_
               try simp only[Act.put,pS]
               refine tz 8 ?_
               try simp only[Act.put,pS]
               refine tz 9 ?_
               try simp only[Act.put,pS]
               refine tz 10 ?_
               try simp only[Act.put,pS]
               refine tz 11 ?_
               try simp only[Act.put,pS]
               refine tz 12 ?_
               try simp only[Act.put,pS]
               refine tz 13 ?_
               try simp only[Act.put,pS]
               refine tz 14 ?_
               try simp only[Act.put,pS]
               refine tr 1 rfl fun K hK=>?_
               go_simp
               (with_reducible refine(xint _ _ (by omega) (by omega)).mono ?_)
               rintro e w1 ⟨A1,cc,rfl,hA1,hA2,hown,hb⟩
               have hS1:=And.intro (fun (p:Addr) (hp:p.block<w.heap.size)=>hb.cell hp) (And.intro (And.intro ((hb.cell (p:=⟨g,0,none⟩) hgl).trans c0) ((hb.cell (p:=⟨g,1,none⟩) hgl).trans c1)) (hcv w1 (fun p hp=>hb.cell hp)))
               have hcv1:=run_conv_reads (P:=Tryz.prog) w1 48 9 5 (c:=cc) Tryz.underlying48 Tryz.underlying5 Tryz.underlying9 (Reads.of_own hown)
               obtain⟨hgl',c0',c1',c2',c3',f0',f1',f2',f3'⟩:=((h.drewN (q+1)).below hb).blk.four
               go_simp
               refine hK.out _ _ hS1 (fun hHeld=>?_)
               clear hK K
               try simp only[Act.put,pS]
               refine tr 2 rfl fun K hK=>?_
               go_simp
               refine hK.out _ _ hS1 (fun hHeld=>?_)
               clear hK K
               try simp only[Act.put,pS]
               refine tr 15 rfl fun K hK=>?_
               go_simp
               refine hK.out _ _ hS1 (fun hHeld=>?_)
               clear hK K
               try simp only[Act.put,pS]
               refine td ?_
               clear hS1 hHeld
               go_wp2_with ((with_reducible refine(xstop g _ _ _ _ _ _ _ _ ((h.drewN (q+1)).below hb)).mono ?_);rintro e w2 ⟨rfl,hr2,hg2⟩)
               go_ret
               rw[HS.out,if_neg (by rw[hgd];decide)]
               exact⟨rfl,hr2,((grown_drewN (World.grownBy.refl _ _) _).trans (hb.grownBy' (some g))).trans hg2⟩
             · have hb7:(encI (-((V:Int)/2)-1)==bs)=true:=by rw[←HK.out,(xval_good HG.out hgd).1];simp
               refine wp_region_held_drew (S:=fun w'=>(∀p:Addr,p.block<w.heap.size→w'.cell? p=w.cell? p)∧(w'.cell? ⟨g,0,none⟩=some (.slice (some ad) n c)∧w'.cell? ⟨g,1,none⟩=some (.int .i64 (s.at_:Int)))∧(convert 48 9 (.slice (some (ad.add s.at_)) (k+1-s.at_) (c-s.at_))).run Tryz.prog w'=.ok (.string ⟨bs.toArray⟩) w')
                (by kernel_rfl) ⟨fun p hp=>rfl,⟨c0,c1⟩,hcv _ (fun p hp=>rfl)⟩ (fun hHeld=>?_)
               refine tz 0 ?_
               try simp only[Act.put,pS]
               refine tz 3 ?_
               try simp only[Act.put,pS]
               refine tz 4 ?_
               try simp only[Act.put,pS]
               refine tz 5 ?_
               try simp only[Act.put,pS]
               refine tz 6 ?_
               try simp only[Act.put,pS]
               refine tz 7 ?_
               try simp only[Act.put,pS]
               refine tz 8 ?_
               try simp only[Act.put,pS]
               refine tz 9 ?_
               try simp only[Act.put,pS]
               refine tz 10 ?_
               try simp only[Act.put,pS]
               refine tz 11 ?_
               try simp only[Act.put,pS]
               refine tz 12 ?_
               try simp only[Act.put,pS]
               refine tz 13 ?_
               try simp only[Act.put,pS]
               refine tz 14 ?_
               try simp only[Act.put,pS]
               refine tr 1 rfl fun K hK=>?_
               go_simp
               (with_reducible refine(xint _ _ (by omega) (by omega)).mono ?_)
               rintro e w1 ⟨A1,cc,rfl,hA1,hA2,hown,hb⟩
               have hS1:=And.intro (fun (p:Addr) (hp:p.block<w.heap.size)=>hb.cell hp) (And.intro (And.intro ((hb.cell (p:=⟨g,0,none⟩) hgl).trans c0) ((hb.cell (p:=⟨g,1,none⟩) hgl).trans c1)) (hcv w1 (fun p hp=>hb.cell hp)))
               have hcv1:=run_conv_reads (P:=Tryz.prog) w1 48 9 5 (c:=cc) Tryz.underlying48 Tryz.underlying5 Tryz.underlying9 (Reads.of_own hown)
               obtain⟨hgl',c0',c1',c2',c3',f0',f1',f2',f3'⟩:=((h.drewN (q+1)).below hb).blk.four
               go_simp
               refine hK.out _ _ hS1 (fun hHeld=>?_)
               clear hK K
               try simp only[Act.put,pS]
               refine tr 2 rfl fun K hK=>?_
               go_simp
               refine hK.out _ _ hS1 (fun hHeld=>?_)
               clear hK K
               try simp only[Act.put,pS]
               refine tr 15 rfl fun K hK=>?_
               go_simp
               refine hK.out _ _ hS1 (fun hHeld=>?_)
               clear hK K
               try simp only[Act.put,pS]
               refine td ?_
               clear hS1 hHeld
               go_wp2
               go_ret
               rw[HS.out,if_pos hgd]
               have hr1:=((h.drewN (q+1)).below hb).moved (k:=k+1) (by omega)
               rw[Int.natCast_add]at hr1
               exact⟨ret_int (by rw[←(xval_good HG.out hgd).2,HK.out]),hr1,((grown_drewN (World.grownBy.refl _ _) _).trans (hb.grownBy' (some g))).trans (grown_set _ _ _ _)⟩
         · clear hu2
           obtain rfl:=hu1 h10
           clear hu1
           have e1:(s.at_:Int)+((j'+1:Nat):Int)-1=(s.at_:Int)+(j':Int):=by omega
           rw[e1]
           have hlt2:s.at_+j'<n:=by omega
           obtain⟨ad',y,ead,hadl',hy,hcell'⟩:=h.cell hlt2
           obtain rfl:ad=ad':=Option.some.inj ead
           have hyl:=y.toNat_lt
           have hin:(s.at_:Int)+(j':Int)<(n:Int):=by omega
           have hb6:decide ((k:Int)-(s.at_:Int)<10)=true:=by simp;omega
           have hbj:bs[j']?=some y:=by rw[hbx j' (by omega)];exact hy
           have hdr:bs.drop j'=y::bs.drop (j'+1):=by
             have hl2:=(List.getElem?_eq_some_iff.1 hbj).1
             rw[List.drop_eq_getElem_cons hl2,(List.getElem?_eq_some_iff.1 hbj).2]
           have HD:=Lib.hid hdr
           have hand:bits .and .u8 (y.toNat:Int) 127=(y.toNat:Int)%128:=by rw[and_low];omega
           generalize hV:val (bs.drop (j'+1))%18446744073709551616=V at*
           have HV:=Lib.hid hV
           clear hy hbj hdr hbx hcell e1 ead hV
           go_wp2
           go_roundw
           case rel=>
             refine⟨j',q,rfl,by omega,rfl,fun _=>?_,fun h=>by omega⟩
             rw[shl7_or,HD.out,←HV.out]
             show Value.int .u64 _=.int .u64 (((y.toNat%128+128*val (bs.drop (j'+1)))%18446744073709551616:Nat):Int)
             congr 2
             omega
           case measure=>simp[intOf];omega
    · obtain rfl:k=n:=by omega
      have hb3:decide ((k:Int)<(k:Int))=false:=by simp
      have hd:dec l s.at_=.short:=by
       unfold dec
       rw[(grp_none_iff _).2 (by
        intro c hc
        refine hbig c ?_
        rw[List.take_of_length_le (by rw[List.length_drop];omega)]
        exact hc)]
      have hs:rInt l s=(0,xFail s 5 l.length):=by unfold rInt;rw[if_neg (by simp[H1.out]),hd,xFail_eq (by omega)]
      have hb5:((k:Int)==(k:Int))=true:=by simp
      have HS:=Lib.hid hs
      clear hs hd
      go_wp2_with ((with_reducible refine(xstop g _ _ _ _ _ _ _ _ h).mono ?_);rintro e w2 ⟨rfl,hr2,hg2⟩)
      go_ret
      rw[HS.out,hlen]
      exact⟨rfl,hr2,hg2⟩
 · have hb1:(s.e !=0)=true:=by simp[h1]
   have hs:rInt l s=(0,s):=by unfold rInt;rw[if_pos h1]
   rw[hs]
   clear hs
   go_enter Tryz.func67,Tryz.ntmps67
   go_wp2
   go_ret
   exact⟨rfl,h,World.grownBy.refl _ _⟩
end Go.Proofs.YthdmanadhbpogaaGreat
/- The walks of the reference's reader: Flag, Float, size, Count, Choice, Text, Fail, End, Left. -/
namespace Go.Proofs.YthdmanadhbpogaaGreat
set_option maxHeartbeats 4000000
set_option maxRecDepth 100000
open Go.RowKit Fl
theorem xRLeft (g:Nat) (A:Option Addr) (n c:Nat) (l:List UInt8) (s:RS) (w:World) (h:Rd 117 w g A n c l s):
 Calls Tryz.prog 186 #[.pointer (some ⟨g,0,none⟩)] w fun e w'=>e=.returned (.int .i64 (rLeft l s:Int))∧∃q,w.drewN q=w':=by
 obtain⟨hgl,c0,c1,c2,c3,f0,f1,f2,f3⟩:=h.blk.four
 have hlen:=h.len
 have hsm:=h.small
 have hal:=h.at_le
 by_cases h1:s.e=0
 · have hb1:(s.e !=0)=false:=by simp[h1]
   have hs:((rLeft l s:Nat):Int)=(n:Int)-(s.at_:Int):=by unfold rLeft;rw[if_neg (by simp[h1])];omega
   rw[hs]
   have hw:IntKind.i64.wrap ((n:Int)-(s.at_:Int))=(n:Int)-(s.at_:Int):=by rw[IntKind.wrap_i64];omega
   clear hs h1 hlen
   go_enter Tryz.func186,Tryz.ntmps186
   go_wp2
   go_quiet (fail)
   go_wp2
   go_ret
   exact⟨rfl,_,rfl⟩
 · have hb1:(s.e !=0)=true:=by simp[h1]
   have hs:rLeft l s=0:=by unfold rLeft;rw[if_pos h1]
   rw[hs]
   clear hs
   go_enter Tryz.func186,Tryz.ntmps186
   go_wp2
   go_ret
   exact⟨rfl,0,rfl⟩
def xEnd (l:List UInt8) (s:RS):Int×Nat:=if s.e≠0 then (s.e,s.p) else if s.at_<l.length then (6,s.at_) else (0,0)
theorem xREnd (g:Nat) (A:Option Addr) (n c:Nat) (l:List UInt8) (s:RS) (w:World) (h:Rd 117 w g A n c l s):
 Calls Tryz.prog 68 #[.pointer (some ⟨g,0,none⟩)] w fun e w'=>e=.returned (.tuple #[.int .i64 (xEnd l s).1,.int .i64 ((xEnd l s).2:Int)])∧∃q,w.drewN q=w':=by
 obtain⟨hgl,c0,c1,c2,c3,f0,f1,f2,f3⟩:=h.blk.four
 have hlen:=h.len
 have hsm:=h.small
 have hal:=h.at_le
 by_cases h1:s.e=0
 · have hb1:(s.e !=0)=false:=by simp[h1]
   by_cases h2:s.at_<n
   · have hs:xEnd l s=(6,s.at_):=by unfold xEnd;rw[if_neg (by simp[h1]),if_pos (by omega)]
     rw[hs]
     have hb2:decide (s.at_<n)=true:=by simp[h2]
     clear hs h1 hlen
     go_enter Tryz.func68,Tryz.ntmps68
     go_wp2
     go_quiet (fail)
     go_wp2
     go_quiet (fail)
     go_wp2
     go_ret2
     exact⟨rfl,_,(World.drewN_drewN ..).symm⟩
   · have hs:xEnd l s=(0,0):=by unfold xEnd;rw[if_neg (by simp[h1]),if_neg (by omega)]
     rw[hs]
     have hb2:decide (s.at_<n)=false:=by simp;omega
     clear hs h1 hlen
     go_enter Tryz.func68,Tryz.ntmps68
     go_wp2
     go_quiet (fail)
     go_wp2
     go_ret2
     exact⟨rfl,_,rfl⟩
 · have hb1:(s.e !=0)=true:=by simp[h1]
   have hs:xEnd l s=(s.e,s.p):=by unfold xEnd;rw[if_pos h1]
   rw[hs]
   clear hs
   go_enter Tryz.func68,Tryz.ntmps68
   go_wp2
   go_quiet (fail)
   go_wp2
   go_ret2
   exact⟨rfl,_,rfl⟩
theorem xRFlag (g:Nat) (A:Option Addr) (n c:Nat) (l:List UInt8) (s:RS) (w:World) (h:Rd 117 w g A n c l s):
 Calls Tryz.prog 142 #[.pointer (some ⟨g,0,none⟩)] w (RdPost 117 w g A n c l (.bool (rFlag l s).1) (rFlag l s).2):=by
 obtain⟨hgl,c0,c1,c2,c3,f0,f1,f2,f3⟩:=h.blk.four
 have hnc:=h.nc
 have hlen:=h.len
 have hsm:=h.small
 have hal:=h.at_le
 by_cases h1:s.e=0
 · have hb1:(s.e !=0)=false:=by simp[h1]
   by_cases h2:s.at_<n
   · have hb2:((s.at_:Int)==(n:Int))=false:=by simp;omega
     obtain⟨ad,x,rfl,hadl,hx,hcell⟩:=h.cell h2
     have hxl:=x.toNat_lt
     have hmv:=h.moved (k:=s.at_+1) (by omega)
     rw[Int.natCast_add]at hmv
     by_cases h3:1<x.toNat
     · have hs:rFlag l s=(false,xFail s 4 s.at_):=by unfold rFlag;rw[if_neg (by simp[h1]),hx];simp only;rw[if_pos h3,xFail_eq (by omega)]
       rw[hs]
       have hb3:decide ((1:Int)<(x.toNat:Int))=true:=by simp;omega
       clear hs hx h1 hlen
       go_enter Tryz.func142,Tryz.ntmps142
       go_wp2
       go_quiet (fail)
       go_wp2
       go_quiet (fail)
       go_wp2_with ((with_reducible refine(xstop g _ _ _ _ _ _ _ _ (h.drewN _)).mono ?_);rintro e w2 ⟨rfl,hr2,hg2⟩)
       go_ret
       exact⟨rfl,hr2,(grown_drewN (World.grownBy.refl _ _) _).trans hg2⟩
     · have hs:rFlag l s=(x.toNat==1,⟨s.at_+1,s.e,s.p⟩):=by unfold rFlag;rw[if_neg (by simp[h1]),hx];simp only;rw[if_neg h3]
       rw[hs]
       have hb3:decide ((1:Int)<(x.toNat:Int))=false:=by simp;omega
       have hgr:=grown_set w g 1 (.int .i64 ((s.at_:Int)+1))
       clear hs hx h1 hlen
       go_enter Tryz.func142,Tryz.ntmps142
       go_wp2
       go_quiet (fail)
       go_wp2
       go_quiet (fail)
       go_wp2
       go_ret
       exact⟨ret_bool (by rw[Bool.eq_iff_iff];simp;omega),hmv.drewN _,grown_drewN hgr _⟩
   · have hs:rFlag l s=(false,xFail s 5 l.length):=by unfold rFlag;rw[if_neg (by simp[h1]),List.getElem?_eq_none (by omega),xFail_eq (by omega)]
     rw[hs,hlen]
     have hb2:((s.at_:Int)==(n:Int))=true:=by simp;omega
     clear hs h1 hlen
     go_enter Tryz.func142,Tryz.ntmps142
     go_wp2
     go_quiet (fail)
     go_wp2_with ((with_reducible refine(xstop g _ _ _ _ _ _ _ _ (h.drewN _)).mono ?_);rintro e w2 ⟨rfl,hr2,hg2⟩)
     go_ret
     exact⟨rfl,hr2,(grown_drewN (World.grownBy.refl _ _) _).trans hg2⟩
 · have hb1:(s.e !=0)=true:=by simp[h1]
   have hs:rFlag l s=(false,s):=by unfold rFlag;rw[if_pos h1]
   rw[hs]
   clear hs
   go_enter Tryz.func142,Tryz.ntmps142
   go_wp2
   go_ret
   exact⟨rfl,h,World.grownBy.refl _ _⟩
theorem xRFloat (g:Nat) (A:Option Addr) (n c:Nat) (l:List UInt8) (s:RS) (w:World) (h:Rd 117 w g A n c l s):
 Calls Tryz.prog 143 #[.pointer (some ⟨g,0,none⟩)] w (RdPost 117 w g A n c l (.float .f64 (rFloat l s).1) (rFloat l s).2):=by
 obtain⟨hgl,c0,c1,c2,c3,f0,f1,f2,f3⟩:=h.blk.four
 have hnc:=h.nc
 have hlen:=h.len
 have hsm:=h.small
 have hal:=h.at_le
 by_cases h1:s.e=0
 · have hb1:(s.e !=0)=false:=by simp[h1]
   have hw1:IntKind.i64.wrap ((n:Int)-(s.at_:Int))=(n:Int)-(s.at_:Int):=by rw[IntKind.wrap_i64];omega
   by_cases h2:n-s.at_<8
   · have hs:rFloat l s=(0,xFail s 5 l.length):=by unfold rFloat;rw[if_neg (by simp[h1]),if_pos (by omega),xFail_eq (by omega)]
     rw[hs,hlen]
     have hb2:decide ((n:Int)-(s.at_:Int)<8)=true:=by simp;omega
     clear hs h1 hlen
     go_enter Tryz.func143,Tryz.ntmps143
     go_wp2
     go_quiet (fail)
     go_wp2_with ((with_reducible refine(xstop g _ _ _ _ _ _ _ _ (h.drewN _)).mono ?_);rintro e w2 ⟨rfl,hr2,hg2⟩)
     go_ret
     exact⟨rfl,hr2,(grown_drewN (World.grownBy.refl _ _) _).trans hg2⟩
   · have hb2:decide ((n:Int)-(s.at_:Int)<8)=false:=by simp;omega
     have hs:rFloat l s=if canonB (leV ((l.drop s.at_).take 8))≠leV ((l.drop s.at_).take 8) then (0,xFail s 4 s.at_) else (leV ((l.drop s.at_).take 8),⟨s.at_+8,s.e,s.p⟩):=by
        unfold rFloat;rw[if_neg (by simp[h1]),if_neg (by omega),xFail_eq (by omega)]
     have HS:=Lib.hid hs
     have hmv:=h.moved (k:=s.at_+8) (by omega)
     rw[Int.natCast_add]at hmv
     have hgr:=grown_set w g 1 (.int .i64 ((s.at_:Int)+8))
     clear hs h1
     go_enter Tryz.func143,Tryz.ntmps143
     go_wp2
     go_quiet (fail)
     go_wp2
     go_loopw [3,4] (fun u i wr=>RdFloatRel l s.at_ w u i wr) (fun _ i _=>(intOf i+1).toNat)
     case atStart=>exact⟨8,_,by omega,rfl,rfl,by simp[leV]⟩
     case round=>
        obtain⟨k,q,hk,rfl,rfl,rfl⟩:=hrel
        rcases k with _|j
        · have e:((0:Nat):Int)-1= -1:=rfl
          rw[e]
          simp only[Nat.add_zero,Nat.sub_zero]at*
          have hci:=canonB_idem (leV ((l.drop s.at_).take 8))
          generalize leV ((l.drop s.at_).take 8)=u at*
          by_cases h5:canonB u=u
          · rw[if_neg (by simp[h5])]at HS
            have hb5:((canonB u:Int) !=(u:Int))=false:=by simp[h5]
            have hnb:=xbits (canonB u) (w.drewN q)
            rw[hci]at hnb
            clear hci
            have H5:=Lib.hid h5
            clear h5
            go_wp2_with (first|((with_reducible refine(xof _ _).mono ?_);rintro e w' ⟨rfl,rfl⟩)|((with_reducible refine hnb.mono ?_);rintro e w' ⟨rfl,rfl⟩))
            go_ret
            rw[HS.out,H5.out]
            exact⟨rfl,hmv.drewN _,grown_drewN hgr _⟩
          · rw[if_pos h5]at HS
            have hb5:((canonB u:Int) !=(u:Int))=true:=by simp;omega
            have hnb:=xbits (canonB u) (w.drewN q)
            rw[hci]at hnb
            clear hci
            go_wp2_with (first|((with_reducible refine(xof _ _).mono ?_);rintro e w' ⟨rfl,rfl⟩)|((with_reducible refine hnb.mono ?_);rintro e w' ⟨rfl,rfl⟩)|((with_reducible refine(xstop g _ _ _ _ _ _ _ _ (h.drewN _)).mono ?_);rintro e w2 ⟨rfl,hr2,hg2⟩))
            go_ret
            rw[HS.out]
            exact⟨rfl,hr2,(grown_drewN (World.grownBy.refl _ _) _).trans hg2⟩
        · have e:((j+1:Nat):Int)-1=(j:Int):=by omega
          rw[e]
          obtain⟨ad,x,rfl,hadl,hx,hcell⟩:=h.cell (k:=s.at_+j) (by omega)
          have hxl:=x.toNat_lt
          have hin:(s.at_:Int)+(j:Int)<(n:Int):=by omega
          have hwr:IntKind.i64.wrap ((s.at_:Int)+(j:Int))=(s.at_:Int)+(j:Int):=by rw[IntKind.wrap_i64];omega
          go_wp2
          go_quiet (fail)
          go_wp2
          go_roundw
          case rel=>
           refine⟨j,q+nq,by omega,rfl,rfl,?_⟩
           have hlt:=leV_lt ((l.drop (s.at_+(j+1))).take (7-j))
           have hpw:256^((l.drop (s.at_+(j+1))).take (7-j)).length≤256^7:=Nat.pow_le_pow_right (by omega) (by rw[List.length_take];omega)
           rw[show (256:Nat)^7=72057594037927936 from rfl]at hpw
           rw[shl_or _ _ (by omega),show 8-j=(7-j)+1 from by omega,drop_one hx];rfl
          case measure=>simp[intOf]
 · have hb1:(s.e !=0)=true:=by simp[h1]
   have hs:rFloat l s=(0,s):=by unfold rFloat;rw[if_pos h1]
   rw[hs]
   clear hs
   go_enter Tryz.func143,Tryz.ntmps143
   go_wp2
   go_ret
   exact⟨rfl,h,World.grownBy.refl _ _⟩
end Go.Proofs.YthdmanadhbpogaaGreat
/- The walks of the reference's reader: size, Count, Choice, Text. -/
namespace Go.Proofs.YthdmanadhbpogaaGreat
set_option maxHeartbeats 4000000
set_option maxRecDepth 100000
open Go.RowKit Fl
section
variable {w:World} {g a:Nat} {A:Option Addr} {n c:Nat} {l:List UInt8} {s:RS}
theorem xint_bad (h:Rd 117 w g A n c l s) {s':RS} (hd:rInt l s=(0,s')):
 Calls Tryz.prog 67 #[.pointer (some ⟨g,0,none⟩)] w (RdPost 117 w g A n c l (.int .i64 0) s'):=
 (xRInt g A n c l s w h).mono fun e w' h=>by rw[hd]at h;exact h
theorem xint_ok (h:Rd 117 w g A n c l s) {k:Int} {next:Nat} (hs:s.e=0) (hd:dec l s.at_=.ok k next):
 Calls Tryz.prog 67 #[.pointer (some ⟨g,0,none⟩)] w (RdPost 117 w g A n c l (.int .i64 k) ⟨next,s.e,s.p⟩):=
 (xRInt g A n c l s w h).mono fun e w' h=>by
   have:rInt l s=(k,⟨next,s.e,s.p⟩):=by unfold rInt;rw[if_neg (by simp[hs]),hd]
   rw[this]at h;exact h
end
theorem fail_e {s:RS} {e:Int} {q:Nat} (he:e≠0):(rFail s e q).e≠0:=by
 unfold rFail
 by_cases h:s.e=0
 · rw[if_pos ⟨h,he⟩];exact he
 · rw[if_neg (fun h2=>h h2.1)];exact h
theorem xsize (g:Nat) (A:Option Addr) (n c:Nat) (l:List UInt8) (s:RS) (most ee:Int) (w:World) (h:Rd 117 w g A n c l s) (he:ee≠0):
 Calls Tryz.prog 208 #[.pointer (some ⟨g,0,none⟩),.int .i64 most,.int .i64 ee] w (RdPost 117 w g A n c l (.int .i64 (rCount l s most ee).1) (rCount l s most ee).2):=by
 obtain⟨hgl,c0,c1,c2,c3,f0,f1,f2,f3⟩:=h.blk.four
 have hal:=h.at_le
 by_cases hbad:∃s',rInt l s=(0,s')∧rCount l s most ee=(0,s')∧s'.e≠0
 · obtain⟨s',h1,h2,h3⟩:=hbad
   have hb:(s'.e !=0)=true:=by simp[h3]
   have hc:=xint_bad h h1
   rw[h2]
   clear h1 h2 h3
   go_enter Tryz.func208,Tryz.ntmps208
   go_wp2_with ((with_reducible refine hc.mono ?_);rintro e w1 ⟨rfl,hr1,hg1⟩;obtain⟨hgl',c0',c1',c2',c3',f0',f1',f2',f3'⟩:=hr1.blk.four)
   go_ret
   exact⟨rfl,hr1,hg1⟩
 · have hs0:s.e=0:=by
    by_cases h1:s.e=0
    · exact h1
    · exact absurd ⟨s,by unfold rInt;rw[if_pos h1],by unfold rCount;rw[if_pos h1],h1⟩ hbad
   cases hd:dec l s.at_ with
   |short=>exact absurd ⟨rFail s 5 l.length,by unfold rInt;rw[if_neg (by simp[hs0]),hd],by unfold rCount;rw[if_neg (by simp[hs0]),hd],fail_e (by omega)⟩ hbad
   |form=>exact absurd ⟨rFail s 4 s.at_,by unfold rInt;rw[if_neg (by simp[hs0]),hd],by unfold rCount;rw[if_neg (by simp[hs0]),hd],fail_e (by omega)⟩ hbad
   |ok k next=>
    clear hbad
    have hc:=xint_ok h hs0 hd
    have hb1:(s.e !=0)=false:=by simp[hs0]
    by_cases h2:k<0
    · have hs:rCount l s most ee=(0,xFail s 4 s.at_):=by unfold rCount;rw[if_neg (by simp[hs0]),hd];simp only;rw[if_pos h2,xFail_eq (by omega)]
      rw[hs]
      have hb2:decide (k<0)=true:=by simp[h2]
      clear hs hd hs0
      go_enter Tryz.func208,Tryz.ntmps208
      go_wp2_with (first
       |((with_reducible refine hc.mono ?_);rintro e w1 ⟨rfl,hr1,hg1⟩;obtain⟨hgl',c0',c1',c2',c3',f0',f1',f2',f3'⟩:=hr1.blk.four;have hmv:=hr1.moved (k:=s.at_) hal)
       |((with_reducible refine(xstop g _ _ _ _ _ _ _ _ hmv).mono ?_);rintro e w2 ⟨rfl,hr2,hg2⟩))
      go_ret
      exact⟨rfl,hr2,(hg1.trans (grown_set _ _ _ _)).trans hg2⟩
    · have hb2:decide (k<0)=false:=by simp;omega
      by_cases h3:most<k
      · have hs:rCount l s most ee=(0,xFail s ee s.at_):=by unfold rCount;rw[if_neg (by simp[hs0]),hd];simp only;rw[if_neg h2,if_pos h3,xFail_eq he]
        rw[hs]
        have hb3:decide (most<k)=true:=by simp[h3]
        clear hs hd hs0
        go_enter Tryz.func208,Tryz.ntmps208
        go_wp2_with (first
         |((with_reducible refine hc.mono ?_);rintro e w1 ⟨rfl,hr1,hg1⟩;obtain⟨hgl',c0',c1',c2',c3',f0',f1',f2',f3'⟩:=hr1.blk.four;have hmv:=hr1.moved (k:=s.at_) hal)
         |((with_reducible refine(xstop g _ _ _ _ _ _ _ _ hmv).mono ?_);rintro e w2 ⟨rfl,hr2,hg2⟩))
        go_ret
        exact⟨rfl,hr2,(hg1.trans (grown_set _ _ _ _)).trans hg2⟩
      · have hs:rCount l s most ee=(k,⟨next,s.e,s.p⟩):=by unfold rCount;rw[if_neg (by simp[hs0]),hd];simp only;rw[if_neg h2,if_neg h3]
        rw[hs]
        have hb3:decide (most<k)=false:=by simp;omega
        clear hs hd hs0
        go_enter Tryz.func208,Tryz.ntmps208
        go_wp2_with ((with_reducible refine hc.mono ?_);rintro e w1 ⟨rfl,hr1,hg1⟩;obtain⟨hgl',c0',c1',c2',c3',f0',f1',f2',f3'⟩:=hr1.blk.four)
        go_ret
        exact⟨rfl,hr1,hg1⟩
theorem xRCount (g:Nat) (A:Option Addr) (n c:Nat) (l:List UInt8) (s:RS) (most:Int) (w:World) (h:Rd 117 w g A n c l s):
 Calls Tryz.prog 185 #[.pointer (some ⟨g,0,none⟩),.int .i64 most] w (RdPost 117 w g A n c l (.int .i64 (rCount l s most 3).1) (rCount l s most 3).2):=by
 go_enter Tryz.func185,Tryz.ntmps185
 go_wp2_with ((with_reducible refine(xsize g _ _ _ _ _ _ _ _ h (by omega)).mono ?_);rintro e w1 ⟨rfl,hr1,hg1⟩)
 go_ret
 exact⟨rfl,hr1,hg1⟩
theorem xRChoice (g:Nat) (A:Option Addr) (n c:Nat) (l:List UInt8) (s:RS) (most:Int) (w:World) (h:Rd 117 w g A n c l s):
 Calls Tryz.prog 209 #[.pointer (some ⟨g,0,none⟩),.int .i64 most] w (RdPost 117 w g A n c l (.int .i64 (rCount l s most 4).1) (rCount l s most 4).2):=by
 go_enter Tryz.func209,Tryz.ntmps209
 go_wp2_with ((with_reducible refine(xsize g _ _ _ _ _ _ _ _ h (by omega)).mono ?_);rintro e w1 ⟨rfl,hr1,hg1⟩)
 go_ret
 exact⟨rfl,hr1,hg1⟩
theorem xsize_bad {w:World} {g:Nat} {A:Option Addr} {n c:Nat} {l:List UInt8} {s s':RS} {most:Int} (h:Rd 117 w g A n c l s) {k:Int} (hd:rCount l s most 2=(k,s')):
 Calls Tryz.prog 208 #[.pointer (some ⟨g,0,none⟩),.int .i64 most,.int .i64 2] w (RdPost 117 w g A n c l (.int .i64 k) s'):=
 (xsize g A n c l s most 2 w h (by omega)).mono fun e w' h=>by rw[hd]at h;exact h
theorem xRText (g:Nat) (A:Option Addr) (n c:Nat) (l:List UInt8) (s:RS) (most:Int) (w:World) (h:Rd 117 w g A n c l s):
 Calls Tryz.prog 187 #[.pointer (some ⟨g,0,none⟩),.int .i64 most] w (RdPost 117 w g A n c l (.string ⟨(rText l s most).1.toArray⟩) (rText l s most).2):=by
 obtain⟨hgl,c0,c1,c2,c3,f0,f1,f2,f3⟩:=h.blk.four
 have hnc:=h.nc
 have hlen:=h.len
 have hsm:=h.small
 have hal:=h.at_le
 by_cases hbad:∃s',rCount l s most 2=(0,s')∧rText l s most=([],s')∧s'.e≠0
 · obtain⟨s',h1,h2,h3⟩:=hbad
   have hb:(s'.e !=0)=true:=by simp[h3]
   have hc:=xsize_bad h h1
   rw[h2]
   clear h1 h2 h3
   go_enter Tryz.func187,Tryz.ntmps187
   go_wp2_with ((with_reducible refine hc.mono ?_);rintro e w1 ⟨rfl,hr1,hg1⟩;obtain⟨hgl',c0',c1',c2',c3',f0',f1',f2',f3'⟩:=hr1.blk.four)
   go_ret
   exact⟨rfl,hr1,hg1⟩
 · have hs0:s.e=0:=by
    by_cases h1:s.e=0
    · exact h1
    · exact absurd ⟨s,by unfold rCount;rw[if_pos h1],by unfold rText;rw[if_pos h1],h1⟩ hbad
   have hC:=rCount_cnt l s most 2 hs0
   have hT:=rText_cnt l s most hs0
   rcases hd:cnt l s most 2 with ⟨_|⟨k,next⟩,s'⟩
   · exfalso
     refine hbad ⟨s',by rw[hC,hd],by rw[hT,hd],?_⟩
     unfold cnt at hd
     cases hdd:dec l s.at_ with
     |short=>rw[hdd]at hd;injection hd with _ e;rw[←e];exact fail_e (by omega)
     |form=>rw[hdd]at hd;injection hd with _ e;rw[←e];exact fail_e (by omega)
     |ok k next=>
      rw[hdd]at hd
      simp only at hd
      by_cases h1:k<0
      · rw[if_pos h1]at hd;injection hd with _ e;rw[←e];exact fail_e (by omega)
      · rw[if_neg h1]at hd
        by_cases h2:most<k
        · rw[if_pos h2]at hd;injection hd with _ e;rw[←e];exact fail_e (by omega)
        · rw[if_neg h2]at hd;injection hd with e _;cases e
   · clear hbad
     have hck:=cnt_ok hd
     have hdk:=dec_ok hck.2.2.2
     have hle:=hdk.2.2.2.1
     have hk0:=hck.2.1
     have hkm:k≤9223372036854775807:=hdk.2.2.2.2.2
     rw[hd]at hC hT
     simp only at hC hT
     have hc:=xsize_bad h hC
     obtain⟨m,rfl⟩:=Int.eq_ofNat_of_zero_le hk0
     have HT:=Lib.hid hT
     have hb1:(s.e !=0)=false:=by simp[hs0]
     have hwr1:IntKind.i64.wrap ((n:Int)-(next:Int))=(n:Int)-(next:Int):=by rw[IntKind.wrap_i64];omega
     clear hd hck hdk hC hT hs0
     by_cases h2:(l.length:Int)-next<m
     · have hb2:decide ((n:Int)-(next:Int)<(m:Int))=true:=by rw[hlen]at h2;simp[h2]
       have HT2:RowKit.Hid (rText l s most=([],xFail s 5 n)):=by have:=HT.out;rw[if_pos h2]at this;rw[this,xFail_eq (by omega),hlen];exact rfl
       clear h2 HT hlen
       go_enter Tryz.func187,Tryz.ntmps187
       go_wp2_with ((with_reducible refine hc.mono ?_);rintro e w1 ⟨rfl,hr1,hg1⟩;obtain⟨hgl',c0',c1',c2',c3',f0',f1',f2',f3'⟩:=hr1.blk.four;have hmv:=hr1.moved (k:=s.at_) hal)
       go_quiet (fail)
       have hmv2:Rd 117 ((w1.drewN nq).setCell ⟨g,1,none⟩ (.int .i64 (s.at_:Int))) g A n c l ⟨s.at_,s.e,s.p⟩:=hmv.drewN nq
       go_wp2_with ((with_reducible refine(xstop g _ _ _ _ _ _ _ _ hmv2).mono ?_);rintro e w2 ⟨rfl,hr2,hg2⟩)
       go_ret
       rw[HT2.out]
       exact⟨rfl,hr2,(grown_drewN (hg1.trans (grown_set _ _ _ _)) _).trans hg2⟩
     · have hb2:decide ((n:Int)-(next:Int)<(m:Int))=false:=by rw[hlen]at h2;simp;omega
       have hnm:next+m≤n:=by omega
       have HT2:RowKit.Hid (rText l s most=((l.drop next).take m,⟨next+m,s.e,s.p⟩)):=by have:=HT.out;rw[if_neg h2,Int.toNat_natCast]at this;rw[this];exact rfl
       have hwr2:IntKind.i64.wrap ((next:Int)+(m:Int))=(next:Int)+(m:Int):=by rw[IntKind.wrap_i64];omega
       have hnc2:(next:Int)+(m:Int)≤(c:Int):=by omega
       have hn0:(0:Int)≤(next:Int)+(m:Int):=by omega
       clear h2 HT hlen
       go_enter Tryz.func187,Tryz.ntmps187
       go_wp2_with ((with_reducible refine hc.mono ?_);rintro e w1 ⟨rfl,hr1,hg1⟩;obtain⟨hgl',c0',c1',c2',c3',f0',f1',f2',f3'⟩:=hr1.blk.four)
       go_quiet (fail)
       go_wp2
       obtain⟨A',hsl,hA'⟩:=run_cut (P:=Tryz.prog) _ 48 5 Tryz.underlying48 size_u8 hr1.reads hnc next (next+m) (by omega) hnm
       rw[Int.natCast_add]at hsl
       have hcv:∀q,(convert 48 9 (.slice A' (next+m-next) (c-next))).run Tryz.prog (w1.drewN q)=.ok (.string ⟨((l.drop next).take (next+m-next)).toArray⟩) (w1.drewN q):=
        fun q=>run_conv_reads _ _ _ _ Tryz.underlying48 Tryz.underlying5 Tryz.underlying9 (by rw[bytesV_drop]at hA';exact hA'.drewN q)
       clear hA'
       rw[show next+m-next=m from by omega]at hcv hsl
       have hmv:=hr1.moved (k:=next+m) hnm
       rw[Int.natCast_add]at hmv
       go_quiet (fail)
       go_wp2
       go_ret
       rw[HT2.out]
       exact⟨rfl,hmv.drewN _,grown_drewN (hg1.trans (grown_set _ _ _ _)) _⟩
end Go.Proofs.YthdmanadhbpogaaGreat
/- The document's reading: words; the walks of stamp, txn and Get. -/
namespace Go.Proofs.YthdmanadhbpogaaGreat
set_option maxHeartbeats 8000000
set_option maxRecDepth 100000
set_option linter.unusedVariables false
open Go.RowKit Fl
attribute [local go_sem] run_store_float
theorem Rd.low {t:TypeId} {w w':World} {g B:Nat} {A:Option Addr} {n c:Nat} {l:List UInt8} {s:RS} (h:Rd t w g A n c l s) (hb:Below B w w') (hg:g<B) (ha:∀a,A=some a→0<n→a.block<B):Rd t w' g A n c l s:=
 ⟨h.blk.below hb hg,⟨h.reads.1,fun hn=>by
  obtain⟨ad,e,hlt,hx⟩:=h.reads.2 hn
  exact⟨ad,e,Nat.lt_of_lt_of_le hlt hb.size,fun j u hu=>(hb.cell (by rw[block_of_add];exact ha ad e hn)).trans (hx j u hu)⟩⟩,h.len,h.small,h.apart,h.at_le,h.nc,h.cm⟩
theorem Rd.al {t:TypeId} {w:World} {g:Nat} {A:Option Addr} {n c:Nat} {l:List UInt8} {s:RS} (h:Rd t w g A n c l s):∀a,A=some a→0<n→a.block<w.heap.size:=fun a ha hn=>by
 obtain⟨ad,e,hlt,_⟩:=h.reads.2 hn
 rw[ha]at e
 obtain rfl:=Option.some.inj e
 exact hlt
theorem grown_low {w W W':World} {g:Nat} (h:w.grownBy W (some g)) (hb:Below w.heap.size W W'):w.grownBy W' (some g):=
 ⟨hb.os.trans h.os,hb.tape.trans h.tape,hb.output.trans h.output,Nat.le_trans h.size hb.size,fun j hj hne=>(hb.block j hj).trans (h.block j hj hne)⟩
theorem xGStamp (g:Nat) (A:Option Addr) (n c:Nat) (l:List UInt8) (s:RS) (w:World) (h:Rd 117 w g A n c l s):
 Calls Tryz.prog 138 #[.pointer (some ⟨g,0,none⟩)] w (RdPost 117 w g A n c l (rSp l s).1.val (rSp l s).2):=by
 have hb0:Below w.heap.size w (w.alloc (.cells #[.int .i64 0,.int .i64 0,.int .i64 0] 25)):=by go_grown
 have h0:=h.below hb0
 have gl:=h.blk.lt
 have B0:=Blk.new w 25 #[.int .i64 0,.int .i64 0,.int .i64 0]
 have HF:=Lib.hid (show rSp l s=(⟨(rInt l s).1,(rInt l (rInt l s).2).1,(rInt l (rInt l (rInt l s).2).2).1⟩,(rInt l (rInt l (rInt l s).2).2).2) from rfl)
 generalize rSp l s=res at*
 go_enter Tryz.func138,Tryz.ntmps138
 go_wp2_with fail
 refine(xRInt g A n c l s _ h0).mono ?_
 rintro e w1 ⟨rfl,h1,hg1⟩
 have B1:=B0.grown hg1 (by intro e;injection e with e;omega)
 have hG1:=(below_grown hb0 (some g)).trans hg1
 generalize rInt l s=x1 at*
 clear hg1 B0 h0
 go_wp2_with fail
 refine(xRInt g A n c l x1.2 _ h1).mono ?_
 rintro e w2 ⟨rfl,h2,hg2⟩
 have B2:=B1.grown hg2 (by intro e;injection e with e;omega)
 have hG2:=hG1.trans hg2
 generalize rInt l x1.2=x2 at*
 clear hg2 B1 h1 hG1
 go_wp2_with fail
 refine(xRInt g A n c l x2.2 _ h2).mono ?_
 rintro e w3 ⟨rfl,h3,hg3⟩
 have B3:=B2.grown hg3 (by intro e;injection e with e;omega)
 have hG3:=hG2.trans hg3
 generalize rInt l x2.2=x3 at*
 clear hg3 B2 h2 hG2
 go_wp2_with (guard_target=~ wpList _ _ _ _ _ _;refine wpList_store_row rfl 25 _ _ rfl w.heap.size #[.int .i64 x1.1,.int .i64 x2.1,.int .i64 x3.1] (by kernel_rfl) (by kernel_rfl) _ _ B3 (by kernel_rfl) (by kernel_rfl) (by kernel_rfl) ?_)
 rw[HF.out]
 exact post_cell rfl rfl (B3.setRow _) Tryz.underlying25 rfl (by kernel_rfl) ⟨rfl,h3.low (below_setRow (Below.refl w.heap.size _) (Nat.le_refl _) _) gl h.al,grown_low hG3 (below_setRow (Below.refl w.heap.size _) (Nat.le_refl _) _)⟩
theorem xGTxn (g:Nat) (A:Option Addr) (n c:Nat) (l:List UInt8) (s:RS) (w:World) (h:Rd 117 w g A n c l s):
 Calls Tryz.prog 137 #[.pointer (some ⟨g,0,none⟩)] w (RdPost 117 w g A n c l (rTx l s).1.val (rTx l s).2):=by
 have hb0:Below w.heap.size w (w.alloc (.cells #[.int .i64 0,.int .i64 0,.int .i64 0] 23)):=by go_grown
 have h0:=h.below hb0
 have gl:=h.blk.lt
 have B0:=Blk.new w 23 #[.int .i64 0,.int .i64 0,.int .i64 0]
 have HF:=Lib.hid (show rTx l s=(⟨(rInt l s).1,(rInt l (rInt l s).2).1,(rInt l (rInt l (rInt l s).2).2).1⟩,(rInt l (rInt l (rInt l s).2).2).2) from rfl)
 generalize rTx l s=res at*
 go_enter Tryz.func137,Tryz.ntmps137
 go_wp2_with fail
 refine(xRInt g A n c l s _ h0).mono ?_
 rintro e w1 ⟨rfl,h1,hg1⟩
 have B1:=B0.grown hg1 (by intro e;injection e with e;omega)
 have hG1:=(below_grown hb0 (some g)).trans hg1
 generalize rInt l s=x1 at*
 clear hg1 B0 h0
 go_wp2_with fail
 refine(xRInt g A n c l x1.2 _ h1).mono ?_
 rintro e w2 ⟨rfl,h2,hg2⟩
 have B2:=B1.grown hg2 (by intro e;injection e with e;omega)
 have hG2:=hG1.trans hg2
 generalize rInt l x1.2=x2 at*
 clear hg2 B1 h1 hG1
 go_wp2_with fail
 refine(xRInt g A n c l x2.2 _ h2).mono ?_
 rintro e w3 ⟨rfl,h3,hg3⟩
 have B3:=B2.grown hg3 (by intro e;injection e with e;omega)
 have hG3:=hG2.trans hg3
 generalize rInt l x2.2=x3 at*
 clear hg3 B2 h2 hG2
 go_wp2_with (guard_target=~ wpList _ _ _ _ _ _;refine wpList_store_row rfl 23 _ _ rfl w.heap.size #[.int .i64 x1.1,.int .i64 x2.1,.int .i64 x3.1] (by kernel_rfl) (by kernel_rfl) _ _ B3 (by kernel_rfl) (by kernel_rfl) (by kernel_rfl) ?_)
 rw[HF.out]
 exact post_cell rfl rfl (B3.setRow _) Tryz.underlying23 rfl (by kernel_rfl) ⟨rfl,h3.low (below_setRow (Below.refl w.heap.size _) (Nat.le_refl _) _) gl h.al,grown_low hG3 (below_setRow (Below.refl w.heap.size _) (Nat.le_refl _) _)⟩
theorem xGet (g:Nat) (A:Option Addr) (n c:Nat) (l:List UInt8) (s:RS) (w:World) (h:Rd 117 w g A n c l s):
 Calls Tryz.prog 188 #[.pointer (some ⟨g,0,none⟩)] w (RdPost 117 w g A n c l (rVl l s).1.val (rVl l s).2):=by
 have hb0:Below w.heap.size w (w.alloc (.cells (vArr 0 0 ⟨#[]⟩) 58)):=by go_grown
 have h0:=h.below hb0
 have gl:=h.blk.lt
 have B0:=Blk.new w 58 (vArr 0 0 ⟨#[]⟩)
 go_enter Tryz.func188,Tryz.ntmps188
 go_wp2_with fail
 refine(xRChoice g A n c l s 2 _ h0).mono ?_
 rintro e w1 ⟨rfl,h1,hg1⟩
 have B1:=B0.grown hg1 (by intro e;injection e with e;omega)
 have hg:=(below_grown hb0 (some g)).trans hg1
 have hs1:=hg.size
 have hgl1:g<w1.heap.size:=by omega
 have hbl1:=B1.lt
 have had:∀a,A=some a→0<n→a.block≠w1.heap.size:=fun a ha hn=>by have:=h.al a ha hn;omega
 have hX:Below w1.heap.size w1 (w1.alloc (.cells (vArr (rCount l s 2 4).1 0 ⟨#[]⟩) 58)):=by go_grown
 have hV:rVl l s=(if (rVl0 l s).2.e≠0 then (⟨0,0,⟨#[]⟩⟩,(rVl0 l s).2) else rVl0 l s):=rfl
 have hV0:rVl0 l s=if (rCount l s 2 4).1=1 then (⟨1,(rFloat l (rCount l s 2 4).2).1,⟨#[]⟩⟩,(rFloat l (rCount l s 2 4).2).2) else if (rCount l s 2 4).1=2 then (⟨2,0,(rKy 64 l (rCount l s 2 4).2).1⟩,(rKy 64 l (rCount l s 2 4).2).2) else (⟨(rCount l s 2 4).1,0,⟨#[]⟩⟩,(rCount l s 2 4).2):=rfl
 clear hg1 hb0 h0 B0
 generalize rVl l s=res at*
 generalize rVl0 l s=res0 at*
 generalize rCount l s 2 4=kd at*
 obtain⟨k,s1⟩:=kd
 simp only at*
 have h2:=h1.below hX
 have B2:=B1.below hX B1.lt
 have C2:=Blk.new w1 58 (vArr k 0 ⟨#[]⟩)
 have hg2:=hg.trans (below_grown hX (some g))
 have hgs:∀(W:World) (i:Nat) (u:Value),w.grownBy W (some g)→w.grownBy (W.setCell ⟨w1.heap.size,i,none⟩ u) (some g):=fun W i u hh=>⟨hh.os,hh.tape,hh.output,by have:=hh.size;simpa [World.setCell] using this,fun j hj hne=>(Below.heap_setCell W _ _ _ (by simp;omega)).trans (hh.block j hj hne)⟩
 clear hg hX B1 h1
 have HV:=Lib.hid hV
 clear hV
 by_cases hk1:k=1
 case' pos=>
  subst hk1
  rw[if_pos rfl]at hV0
  have HV0:=Lib.hid hV0
  clear hV0
  go_wp2_with fail
  refine(xRFloat g A n c l s1 _ h2).mono ?_
  rintro e w3 ⟨rfl,h3,hg3⟩
  have B3:=B2.grown hg3 (by intro e;injection e with e;omega)
  have C3:=C2.grown hg3 (by intro e;injection e with e;omega)
  have z3:=cl (C3.cell 1)
  have f3:=C3.frozen 1
  have hg5:=hgs _ 1 (.float .f64 (rFloat l s1).1) (hg2.trans hg3)
  have h5:=h3.far (grown_set w3 w1.heap.size 1 (.float .f64 (rFloat l s1).1)) (by omega) had
  have B5:=B3.far (p:=⟨w1.heap.size,1,none⟩) (by simp;omega) (.float .f64 (rFloat l s1).1)
  have C5:=C3.set_ 1 (.float .f64 (rFloat l s1).1)
  generalize rFloat l s1=x at*
  obtain⟨xv,x⟩:=x
  have C5':Blk _ w1.heap.size 58 (vArr 1 xv ⟨#[]⟩):=C5
  have y5:_=some (Value.int .i64 1):=C5'.cell 0
 case' neg=>
  rw[if_neg hk1]at hV0
  have k1:(k==1)=false:=by simp[hk1]
  by_cases hk2:k=2
  case' pos=>
   subst hk2
   rw[if_pos rfl]at hV0
   replace hV0:res0=(⟨2,0,⟨(rText l s1 64).1.toArray⟩⟩,(rText l s1 64).2):=hV0
   have HV0:=Lib.hid hV0
   clear hV0
   go_wp2_with fail
   refine(xRText g A n c l s1 64 _ h2).mono ?_
   rintro e w3 ⟨rfl,h3,hg3⟩
   have B3:=B2.grown hg3 (by intro e;injection e with e;omega)
   have C3:=C2.grown hg3 (by intro e;injection e with e;omega)
   have z3:=cl (C3.cell 2)
   have f3:=C3.frozen 2
   have hg5:=hgs _ 2 (.string ⟨(rText l s1 64).1.toArray⟩) (hg2.trans hg3)
   have h5:=h3.far (grown_set w3 w1.heap.size 2 (.string ⟨(rText l s1 64).1.toArray⟩)) (by omega) had
   have B5:=B3.far (p:=⟨w1.heap.size,2,none⟩) (by simp;omega) (.string ⟨(rText l s1 64).1.toArray⟩)
   have C5:=C3.set_ 2 (.string ⟨(rText l s1 64).1.toArray⟩)
   generalize rText l s1 64=x at*
   obtain⟨xv,x⟩:=x
   have C5':Blk _ w1.heap.size 58 (vArr 2 0 ⟨xv.toArray⟩):=C5
   have y5:_=some (Value.int .i64 2):=C5'.cell 0
  case' neg=>
   rw[if_neg hk2]at hV0
   have k2:(k==2)=false:=by simp[hk2]
   obtain⟨x,hx⟩:∃x:RS,x=s1:=⟨_,rfl⟩
   subst hx
   have HV0:=Lib.hid hV0
   clear hV0
   have h5:Rd 117 (w1.alloc (.cells #[.int .i64 k,.float .f64 0,.string ⟨#[]⟩] 58)) g A n c l x:=h2
   have B5:Blk (w1.alloc (.cells #[.int .i64 k,.float .f64 0,.string ⟨#[]⟩] 58)) w.heap.size 58 (vArr 0 0 ⟨#[]⟩):=B2
   have C5':Blk (w1.alloc (.cells #[.int .i64 k,.float .f64 0,.string ⟨#[]⟩] 58)) w1.heap.size 58 (vArr k 0 ⟨#[]⟩):=C2
   have y5:_=some (Value.int .i64 k):=C5'.cell 0
   have C5:=C2
   have hg5:w.grownBy (w1.alloc (.cells #[.int .i64 k,.float .f64 0,.string ⟨#[]⟩] 58)) (some g):=hg2
 all_goals
  have e5:=h5.blk.cell 2
  have e5':_=some (Value.int .i64 x.e):=e5
  clear e5 C5 B2 C2 h2 hg2 hgs
  by_cases he:x.e=0
  · have he1:(x.e==0)=true:=by simp[he]
    have HR:=HV.out
    rw[HV0.out,if_neg (by simp[he])]at HR
    replace HR:=Lib.hid HR
    go_wp2_with (first
        |(guard_target=~ wpList _ _ _ _ _ _;refine wpList_load_row rfl 58 _ rfl w1.heap.size (by kernel_rfl) _ _ (0,0) _ C5' rfl rfl (by kernel_rfl) ?_)
        |(guard_target=~ wpList _ _ _ _ _ _;refine wpList_store_row rfl 58 _ _ rfl w.heap.size (vArr 1 xv ⟨#[]⟩) (by kernel_rfl) (by kernel_rfl) _ _ B5 (by kernel_rfl) (by kernel_rfl) (by kernel_rfl) ?_)
        |(guard_target=~ wpList _ _ _ _ _ _;refine wpList_store_row rfl 58 _ _ rfl w.heap.size (vArr 2 0 ⟨xv.toArray⟩) (by kernel_rfl) (by kernel_rfl) _ _ B5 (by kernel_rfl) (by kernel_rfl) (by kernel_rfl) ?_)
        |(guard_target=~ wpList _ _ _ _ _ _;refine wpList_store_row rfl 58 _ _ rfl w.heap.size (vArr k 0 ⟨#[]⟩) (by kernel_rfl) (by kernel_rfl) _ _ B5 (by kernel_rfl) (by kernel_rfl) (by kernel_rfl) ?_))
    rw[HR.out]
    exact post_cell rfl rfl (B5.setRow _) Tryz.underlying58 rfl (by kernel_rfl) ⟨rfl,h5.low (below_setRow (Below.refl w.heap.size _) (Nat.le_refl _) _) gl h.al,grown_low hg5 (below_setRow (Below.refl w.heap.size _) (Nat.le_refl _) _)⟩
  · have he1:(x.e==0)=false:=by simp[he]
    have HR:=HV.out
    rw[HV0.out,if_pos (by simp[he])]at HR
    replace HR:=Lib.hid HR
    go_wp2_with (guard_target=~ wpList _ _ _ _ _ _;refine wpList_store_row rfl 58 _ _ rfl w.heap.size (vArr 0 0 ⟨#[]⟩) (by kernel_rfl) (by kernel_rfl) _ _ B5 (by kernel_rfl) (by kernel_rfl) (by kernel_rfl) ?_)
    rw[HR.out]
    exact post_cell rfl rfl (B5.setRow _) Tryz.underlying58 rfl (by kernel_rfl) ⟨rfl,h5.low (below_setRow (Below.refl w.heap.size _) (Nat.le_refl _) _) gl h.al,grown_low hg5 (below_setRow (Below.refl w.heap.size _) (Nat.le_refl _) _)⟩
end Go.Proofs.YthdmanadhbpogaaGreat
/- The document's reading: lists. -/
namespace Go.Proofs.YthdmanadhbpogaaGreat
set_option maxHeartbeats 4000000
set_option maxRecDepth 100000
set_option linter.unusedVariables false
open Go.RowKit Fl
attribute [local go_sem] run_store_float
structure XInv {α:Type} (R:Rel α) (E size:Nat) (f:Rdf α) (w:World) (g:Nat) (A:Option Addr) (n c:Nat) (l:List UInt8) (b N:Nat) (s1:RS) (k:Nat) (L:List α) (sk:RS) (v:Value) (wr:World):Prop where
 hk:k≤N
 len:L.length=k
 rd:Rd 117 wr g A n c l sk
 row:Single R E size w.heap.size wr v L
 two:Two2 w wr g b
 eq:rLoop f l N s1=(L++(rLoop f l (N-k) sk).1,(rLoop f l (N-k) sk).2)
theorem Two2.one {w w':World} {g:Nat} (h:Two2 w w' g g):w.grownBy w' (some g):=⟨h.os,h.tape,h.output,h.size,fun k hk hne=>h.block k hk (fun e=>hne (by rw[e])) (fun e=>hne (by rw[e]))⟩
section
variable {α:Type} {R:Rel α} {E size:Nat} {f:Rdf α} {w:World} {g:Nat} {A:Option Addr} {n c:Nat} {l:List UInt8} {b N:Nat} {s1 sk:RS} {k:Nat} {L:List α} {v:Value} {wr:World}
theorem XInv.start (h:Rd 117 w g A n c l s1):XInv R E size f w g A n c l b N s1 0 [] s1 (.slice none 0 0) w:=⟨Nat.zero_le _,rfl,h,Single.nil _,Two2.refl _ _ _,by simp⟩
theorem XInv.done (h:XInv R E size f w g A n c l b N s1 k L sk v wr) (hx:¬k<N∨sk.e≠0):rLoop f l N s1=(L,sk):=by
 rw[h.eq]
 have e:rLoop f l (N-k) sk=([],sk):=by
  rcases hx with hx|hx
  · obtain e:N-k=0:=by omega
    rw[e];rfl
  · exact rLoop_stk f l _ _ hx
 rw[e,List.append_nil]
theorem XInv.turn (hR:R.Kept) (hm:R.Mono) (gl:g<w.heap.size) (bl:b<w.heap.size) (h:XInv R E size f w g A n c l b N s1 k L sk v wr) {w7:World} (rd':Rd 117 w7 g A n c l sk) (t:Two2 wr w7 g b):XInv R E size f w g A n c l b N s1 k L sk v w7:=
 ⟨h.hk,h.len,rd',Single.two hR hm h.row t gl bl,h.two.trans t,h.eq⟩
theorem XInv.round (hR:R.Kept) (hm:R.Mono) (gl:g<w.heap.size) (bl:b<w.heap.size) (al:∀a,A=some a→0<n→a.block<w.heap.size) (h:XInv R E size f w g A n c l b N s1 k L sk v wr) (hlt:k<N) (he:sk.e=0)
 {w1 X:World} (rd1:Rd 117 w1 g A n c l (f l sk).2) (h1:Two2 wr w1 g b) (hX:Below w1.heap.size w1 X) {cs:List Value} (hz:cs.length=size) (hin:Inn R (rng wr.heap.size X.heap.size) X cs (f l sk).1):
 ∃xs,X.ownsRow w.heap.size E size v k xs∧w.heap.size≤X.heap.size∧
  ∀(v':Value) (w5:World),w5.ownsRow w.heap.size E size v' (k+1) (xs++cs)→X.grownBy w5 v.ownBlock→(v'.ownBlock=v.ownBlock∨v'.ownBlock=some X.heap.size)→
   XInv R E size f w g A n c l b N s1 (k+1) (L++[(f l sk).1]) (f l sk).2 v' w5:=by
 have z0:=h.two.size
 have z1:=h1.size
 have z2:=hX.size
 have row1:=Single.two hR hm h.row h1 gl bl
 have rowX:Single R E size w.heap.size X v L:=Pair.same hR hm row1 hX.size fun q _ hq=>hX.block q hq
 have lt0:=h.row.1.lt
 obtain⟨xs,hown,hpush⟩:=Pair.own1 hR hm rowX
 rw[h.len]at hown hpush
 refine⟨xs,hown,by omega,fun v' w5 h5 hg hat=>?_⟩
 have z5:=hg.size
 have hB:Below w.heap.size X w5:=(Below.refl _ _).grown hg (by omega) (fun q hq=>(hown.lt q hq).1)
 refine⟨by omega,by rw[List.length_append,h.len];rfl,(rd1.below hX).low hB gl al,?_,?_,?_⟩
 · refine hpush cs _ w5 v' hz (hin.wider hm fun q hq=>?_) h5 hg hat
   rw[rng_iff]at hq
   rw[freeB_iff]
   refine⟨by omega,hq.2,fun e=>?_,fun e=>by simp[Value.ownBlock]at e⟩
   have:=(lt0 q e).2
   omega
 · have t:=h.two.trans h1
   exact⟨hB.os.trans (hX.os.trans t.os),hB.tape.trans (hX.tape.trans t.tape),hB.output.trans (hX.output.trans t.output),by omega,fun q hq e1 e2=>(hB.block q hq).trans ((hX.block q (by omega)).trans (t.block q hq e1 e2))⟩
 · have hnx:=rLoop_next f l (k:=N-k) (s:=sk) (by omega) he
   rw[h.eq,hnx,List.append_assoc]
   have e1:N-k-1=N-(k+1):=by omega
   rw[e1];rfl
theorem XInv.form (h:XInv R E size f w g A n c l b N s1 k L sk v wr):∃Av q,v=.slice Av k q∧k≤q∧q≤maxLen:=by
 have:=Single.form h.row
 rwa [h.len]at this
end
def XLP {α:Type} (R:Rel α) (E size:Nat) (w:World) (g:Nat) (A:Option Addr) (n c:Nat) (l:List UInt8) (x:List α×RS):Ending→World→Prop:=fun e w'=>
 ∃v,e=.returned v∧Single R E size w.heap.size w' v x.1∧Rd 117 w' g A n c l x.2∧w.grownBy w' (some g)
theorem Single.base {α:Type} {R:Rel α} {E size b1 b2:Nat} {w:World} {v:Value} {l:List α} (hR:R.Kept) (hm:R.Mono) (h:Single R E size b1 w v l) (hb:b2≤b1):Single R E size b2 w v l:=by
 obtain⟨⟨css,ho,h1,h2,h3⟩,h4,h5⟩:=h
 refine⟨⟨css,?_,h1,h2,fun i cs a hi ha=>(h3 i cs a hi ha).wider hm fun k hk=>?_⟩,RowR.nil _,h5⟩
 · obtain⟨hl,e|⟨rb,cap,cur,e,hrb,r⟩⟩:=ho
   · exact⟨hl,.inl e⟩
   · exact⟨hl,.inr ⟨rb,cap,cur,e,by omega,r⟩⟩
 · rw[freeB_iff]at*
   exact⟨by omega,hk.2⟩
theorem flatIn {α:Type} {cells:α→List Value} {ok:α→Prop} {K:Nat→Bool} {w:World} {a:α} (h:ok a):Inn (Flat cells ok) K w (cells a) a:=⟨rfl,h⟩
theorem xGInts (g:Nat) (A:Option Addr) (n c:Nat) (l:List UInt8) (s:RS) (w:World) (h:Rd 117 w g A n c l s):
 Calls Tryz.prog 141 #[.pointer (some ⟨g,0,none⟩)] w (XLP NmRel 3 1 w g A n c l (rLs rInt l s)):=by
 obtain⟨i0,hi0,hz0,hz1,hz2⟩:=info_parts nmR_info
 have gl:=h.blk.lt
 have al:=h.al
 have hL:=xRLeft g A n c l s w h
 have hC:=fun q=>xRCount g A n c l s (rLeft l s:Int) (w.drewN q) (h.below (belowN q))
 have hkn:=rCount_ok l s (rLeft l s:Int) 3
 have hsm:=h.small
 have hln:=h.len
 have hlf:rLeft l s≤n:=by rw[←h.len];unfold rLeft;split<;>omega
 have HR:=Lib.hid (show rLs rInt l s=rLoop rInt l (rCount l s (rLeft l s:Int) 3).1.toNat (rCount l s (rLeft l s:Int) 3).2 from rfl)
 generalize rLs rInt l s=res at*
 generalize rCount l s (rLeft l s:Int) 3=x at*
 obtain⟨xn,s1⟩:=x
 obtain⟨N,rfl⟩:∃N:Nat,xn=(N:Int):=⟨xn.toNat,by have:=hkn.2.1;omega⟩
 have hN:N≤n:=by have:=hkn.2.2 (by omega);simp only at this;omega
 clear hkn hlf h
 go_enter Tryz.func141,Tryz.ntmps141
 go_wp2_with fail
 refine hL.mono ?_
 rintro e w1 ⟨rfl,q,rfl⟩
 go_wp2_with fail
 refine(hC q).mono ?_
 rintro e w2 ⟨rfl,h2,hg2⟩
 have hg:=(below_grown (belowN (w:=w) q) _).trans hg2
 have hz:=hg.size
 have gl2:g<w2.heap.size:=by omega
 have al2:∀a,A=some a→0<n→a.block<w2.heap.size:=fun a ha hn=>by have:=al a ha hn;omega
 clear hg2 hL hC
 have hst:XInv NmRel 3 1 rInt w2 g A n c l g N s1 0 [] s1 (.slice none 0 0) w2:=XInv.start h2
 clear h2
 go_wp2_with fail
 go_loopw [3,5] (fun v iv wr=>∃(k:Nat) (L:List _) (sk:RS),iv=.int .i64 (k:Int)∧XInv NmRel 3 1 rInt w2 g A n c l g N s1 k L sk v wr) (fun _ iv _=>N-(intOf iv).toNat)
 case atStart=>exact⟨0,_,_,rfl,hst⟩
 case round=>
  clear hst
  obtain⟨k,L,sk,rfl,hI⟩:=hrel
  obtain⟨Av,qv,rfl,hqv,hqvm⟩:=hI.form
  have e5:=hI.rd.blk.cell 2
  have e5':_=some (Value.int .i64 sk.e):=e5
  clear e5
  by_cases hlt:k<N
  · have hd1:decide ((k:Int)<(N:Int))=true:=by simp;omega
    have hk0:(0:Int)≤(k:Int):=by omega
    by_cases he:sk.e=0
    · have he1:(sk.e==0)=true:=by simp[he]
      have HI:=Lib.hid hI
      clear hI
      go_wp2_with fail
      refine(xRInt g A n c l sk _ HI.out.rd).mono ?_
      rintro e w3 ⟨rfl,h3,hg3⟩
      have hX:Below w3.heap.size w3 (w3.alloc (.cells #[.int .i64 (rInt l sk).1] 3)):=by go_grown
      obtain⟨xs,hown,hzX,hfin⟩:=HI.out.round NmRel.kept NmRel.mono gl2 gl2 al2 hlt he h3 (Two2.left hg3 _) hX (cs:=[.int .i64 (rInt l sk).1]) rfl (flatIn (rInt_ok l sk))
      have HF:=Lib.hid hfin
      have hrd0:=reads_new' w3 3 [.int .i64 (rInt l sk).1] 1 rfl
      clear hfin
      go_wp2_with (first
       |(at_builtin
         refine wpList_append_any _ rfl (.tmp 22) (.tmp 25) _ rfl w2.heap.size 3 i0 _ 1 8 Tryz.underlying29 hi0 hz0 hz1 hz2 rfl (by omega) (.slice Av k qv) _ xs (by rfl) hown _ (some ⟨w3.heap.size,0,none⟩) 1 1 [.int .i64 (rInt l sk).1] (by rfl) hrd0 (nm_one _) (by unfold maxLen;omega) (by omega) (by simpa using hzX) ?_
         intro v5 w5 hown5 hg5 hat5
         have hfin:=HF.out v5 w5 hown5 hg5 hat5
         clear hown5 hg5 hat5 HF hrd0 hown)
       |fail)
      go_roundw
      case rel=>exact⟨k+1,_,_,by go_num,hfin⟩
      case measure=>simp[intOf];omega
    · have he1:(sk.e==0)=false:=by simp[he]
      have hD:=hI.done (.inr he)
      go_wp2_with fail
      go_ret
      rw[HR.out]
      show XLP _ _ _ _ _ _ _ _ _ (rLoop _ _ N _) _ _
      rw[hD]
      exact⟨_,rfl,Single.base NmRel.kept NmRel.mono hI.row (by omega),hI.rd,hg.trans hI.two.one⟩
  · have hd1:decide ((k:Int)<(N:Int))=false:=by simp;omega
    have hD:=hI.done (.inl hlt)
    go_wp2_with fail
    go_ret
    rw[HR.out]
    show XLP _ _ _ _ _ _ _ _ _ (rLoop _ _ N _) _ _
    rw[hD]
    exact⟨_,rfl,Single.base NmRel.kept NmRel.mono hI.row (by omega),hI.rd,hg.trans hI.two.one⟩
theorem xGTexts (g:Nat) (A:Option Addr) (n c:Nat) (l:List UInt8) (s:RS) (w:World) (h:Rd 117 w g A n c l s):
 Calls Tryz.prog 139 #[.pointer (some ⟨g,0,none⟩)] w (XLP KyRel 9 1 w g A n c l (rLs rKey l s)):=by
 obtain⟨i0,hi0,hz0,hz1,hz2⟩:=info_parts ky_info
 have gl:=h.blk.lt
 have al:=h.al
 have hL:=xRLeft g A n c l s w h
 have hC:=fun q=>xRCount g A n c l s (rLeft l s:Int) (w.drewN q) (h.below (belowN q))
 have hkn:=rCount_ok l s (rLeft l s:Int) 3
 have hsm:=h.small
 have hln:=h.len
 have hlf:rLeft l s≤n:=by rw[←h.len];unfold rLeft;split<;>omega
 have HR:=Lib.hid (show rLs rKey l s=rLoop rKey l (rCount l s (rLeft l s:Int) 3).1.toNat (rCount l s (rLeft l s:Int) 3).2 from rfl)
 generalize rLs rKey l s=res at*
 generalize rCount l s (rLeft l s:Int) 3=x at*
 obtain⟨xn,s1⟩:=x
 obtain⟨N,rfl⟩:∃N:Nat,xn=(N:Int):=⟨xn.toNat,by have:=hkn.2.1;omega⟩
 have hN:N≤n:=by have:=hkn.2.2 (by omega);simp only at this;omega
 clear hkn hlf h
 go_enter Tryz.func139,Tryz.ntmps139
 go_wp2_with fail
 refine hL.mono ?_
 rintro e w1 ⟨rfl,q,rfl⟩
 go_wp2_with fail
 refine(hC q).mono ?_
 rintro e w2 ⟨rfl,h2,hg2⟩
 have hg:=(below_grown (belowN (w:=w) q) _).trans hg2
 have hz:=hg.size
 have gl2:g<w2.heap.size:=by omega
 have al2:∀a,A=some a→0<n→a.block<w2.heap.size:=fun a ha hn=>by have:=al a ha hn;omega
 clear hg2 hL hC
 have hst:XInv KyRel 9 1 rKey w2 g A n c l g N s1 0 [] s1 (.slice none 0 0) w2:=XInv.start h2
 clear h2
 go_wp2_with fail
 go_loopw [3,5] (fun v iv wr=>∃(k:Nat) (L:List _) (sk:RS),iv=.int .i64 (k:Int)∧XInv KyRel 9 1 rKey w2 g A n c l g N s1 k L sk v wr) (fun _ iv _=>N-(intOf iv).toNat)
 case atStart=>exact⟨0,_,_,rfl,hst⟩
 case round=>
  clear hst
  obtain⟨k,L,sk,rfl,hI⟩:=hrel
  obtain⟨Av,qv,rfl,hqv,hqvm⟩:=hI.form
  have e5:=hI.rd.blk.cell 2
  have e5':_=some (Value.int .i64 sk.e):=e5
  clear e5
  by_cases hlt:k<N
  · have hd1:decide ((k:Int)<(N:Int))=true:=by simp;omega
    have hk0:(0:Int)≤(k:Int):=by omega
    by_cases he:sk.e=0
    · have he1:(sk.e==0)=true:=by simp[he]
      have HI:=Lib.hid hI
      clear hI
      go_wp2_with fail
      refine(xRText g A n c l sk 262144 _ HI.out.rd).mono ?_
      rintro e w3 ⟨rfl,h3,hg3⟩
      have hX:Below w3.heap.size w3 (w3.alloc (.cells #[.string (rKey l sk).1] 9)):=by go_grown
      obtain⟨xs,hown,hzX,hfin⟩:=HI.out.round KyRel.kept KyRel.mono gl2 gl2 al2 hlt he h3 (Two2.left hg3 _) hX (cs:=[.string (rKey l sk).1]) rfl (flatIn (rKy_ok l sk _ (by omega)))
      have HF:=Lib.hid hfin
      have hrd0:=reads_new' w3 9 [.string (rKey l sk).1] 1 rfl
      clear hfin
      go_wp2_with (first
       |(at_builtin
         refine wpList_append_any _ rfl (.tmp 22) (.tmp 25) _ rfl w2.heap.size 9 i0 _ 1 16 Tryz.underlying27 hi0 hz0 hz1 hz2 rfl (by omega) (.slice Av k qv) _ xs (by rfl) hown _ (some ⟨w3.heap.size,0,none⟩) 1 1 [.string (rKey l sk).1] (by rfl) hrd0 (ky_one _) (by unfold maxLen;omega) (by omega) (by simpa using hzX) ?_
         intro v5 w5 hown5 hg5 hat5
         have hfin:=HF.out v5 w5 hown5 hg5 hat5
         clear hown5 hg5 hat5 HF hrd0 hown)
       |fail)
      go_roundw
      case rel=>exact⟨k+1,_,_,by go_num,hfin⟩
      case measure=>simp[intOf];omega
    · have he1:(sk.e==0)=false:=by simp[he]
      have hD:=hI.done (.inr he)
      go_wp2_with fail
      go_ret
      rw[HR.out]
      show XLP _ _ _ _ _ _ _ _ _ (rLoop _ _ N _) _ _
      rw[hD]
      exact⟨_,rfl,Single.base KyRel.kept KyRel.mono hI.row (by omega),hI.rd,hg.trans hI.two.one⟩
  · have hd1:decide ((k:Int)<(N:Int))=false:=by simp;omega
    have hD:=hI.done (.inl hlt)
    go_wp2_with fail
    go_ret
    rw[HR.out]
    show XLP _ _ _ _ _ _ _ _ _ (rLoop _ _ N _) _ _
    rw[hD]
    exact⟨_,rfl,Single.base KyRel.kept KyRel.mono hI.row (by omega),hI.rd,hg.trans hI.two.one⟩
theorem xGWrites (g:Nat) (A:Option Addr) (n c:Nat) (l:List UInt8) (s:RS) (w:World) (h:Rd 117 w g A n c l s):
 Calls Tryz.prog 140 #[.pointer (some ⟨g,0,none⟩)] w (XLP WtRel 60 4 w g A n c l (rLs rWt l s)):=by
 obtain⟨i0,hi0,hz0,hz1,hz2⟩:=info_parts wt_info
 have gl:=h.blk.lt
 have al:=h.al
 have hL:=xRLeft g A n c l s w h
 have hC:=fun q=>xRCount g A n c l s (rLeft l s:Int) (w.drewN q) (h.below (belowN q))
 have hkn:=rCount_ok l s (rLeft l s:Int) 3
 have hsm:=h.small
 have hln:=h.len
 have hlf:rLeft l s≤n:=by rw[←h.len];unfold rLeft;split<;>omega
 have HR:=Lib.hid (show rLs rWt l s=rLoop rWt l (rCount l s (rLeft l s:Int) 3).1.toNat (rCount l s (rLeft l s:Int) 3).2 from rfl)
 generalize rLs rWt l s=res at*
 generalize rCount l s (rLeft l s:Int) 3=x at*
 obtain⟨xn,s1⟩:=x
 obtain⟨N,rfl⟩:∃N:Nat,xn=(N:Int):=⟨xn.toNat,by have:=hkn.2.1;omega⟩
 have hN:N≤n:=by have:=hkn.2.2 (by omega);simp only at this;omega
 clear hkn hlf h
 go_enter Tryz.func140,Tryz.ntmps140
 go_wp2_with fail
 refine hL.mono ?_
 rintro e w1 ⟨rfl,q,rfl⟩
 go_wp2_with fail
 refine(hC q).mono ?_
 rintro e w2 ⟨rfl,h2,hg2⟩
 have hg:=(below_grown (belowN (w:=w) q) _).trans hg2
 have hz:=hg.size
 have gl2:g<w2.heap.size:=by omega
 have al2:∀a,A=some a→0<n→a.block<w2.heap.size:=fun a ha hn=>by have:=al a ha hn;omega
 clear hg2 hL hC
 have hst:XInv WtRel 60 4 rWt w2 g A n c l g N s1 0 [] s1 (.slice none 0 0) w2:=XInv.start h2
 clear h2
 go_wp2_with fail
 go_loopw [3,5] (fun v iv wr=>∃(k:Nat) (L:List _) (sk:RS),iv=.int .i64 (k:Int)∧XInv WtRel 60 4 rWt w2 g A n c l g N s1 k L sk v wr) (fun _ iv _=>N-(intOf iv).toNat)
 case atStart=>exact⟨0,_,_,rfl,hst⟩
 case round=>
  clear hst
  obtain⟨k,L,sk,rfl,hI⟩:=hrel
  obtain⟨Av,qv,rfl,hqv,hqvm⟩:=hI.form
  have e5:=hI.rd.blk.cell 2
  have e5':_=some (Value.int .i64 sk.e):=e5
  clear e5
  by_cases hlt:k<N
  · have hd1:decide ((k:Int)<(N:Int))=true:=by simp;omega
    have hk0:(0:Int)≤(k:Int):=by omega
    by_cases he:sk.e=0
    · have he1:(sk.e==0)=true:=by simp[he]
      have HI:=Lib.hid hI
      clear hI
      go_wp2_with fail
      refine(xRText g A n c l sk 262144 _ HI.out.rd).mono ?_
      rintro e w4 ⟨rfl,h4,hg4⟩
      go_wp2_with fail
      refine(xGet g A n c l _ _ h4).mono ?_
      rintro e w3 ⟨rfl,h3,hg3⟩
      have hX:Below w3.heap.size w3 (w3.alloc (.cells #[.string (rWt l sk).1.key,.int .i64 (rWt l sk).1.v.k,.float .f64 (rWt l sk).1.v.n,.string (rWt l sk).1.v.t] 60)):=by go_grown
      obtain⟨xs,hown,hzX,hfin⟩:=HI.out.round WtRel.kept WtRel.mono gl2 gl2 al2 hlt he h3 (Two2.left (hg4.trans hg3) _) hX (cs:=[.string (rWt l sk).1.key,.int .i64 (rWt l sk).1.v.k,.float .f64 (rWt l sk).1.v.n,.string (rWt l sk).1.v.t]) rfl (flatIn ⟨rKy_ok l sk _ (by omega),rVl_ok l _ (by omega)⟩)
      have HF:=Lib.hid hfin
      have hrd0:=reads_new' w3 60 [.string (rWt l sk).1.key,.int .i64 (rWt l sk).1.v.k,.float .f64 (rWt l sk).1.v.n,.string (rWt l sk).1.v.t] 4 rfl
      clear hfin
      go_wp2_with (first
       |(at_builtin
         refine wpList_append_any _ rfl (.tmp 25) (.tmp 30) _ rfl w2.heap.size 60 i0 _ 4 48 Tryz.underlying28 hi0 hz0 hz1 hz2 rfl (by omega) (.slice Av k qv) _ xs (by rfl) hown _ (some ⟨w3.heap.size,0,none⟩) 1 1 [.string (rWt l sk).1.key,.int .i64 (rWt l sk).1.v.k,.float .f64 (rWt l sk).1.v.n,.string (rWt l sk).1.v.t] (by rfl) hrd0 (wt_one _) (by unfold maxLen;omega) (by omega) (by simpa using hzX) ?_
         intro v5 w5 hown5 hg5 hat5
         have hfin:=HF.out v5 w5 hown5 hg5 hat5
         clear hown5 hg5 hat5 HF hrd0 hown)
       |fail)
      go_roundw
      case rel=>exact⟨k+1,_,_,by go_num,hfin⟩
      case measure=>simp[intOf];omega
    · have he1:(sk.e==0)=false:=by simp[he]
      have hD:=hI.done (.inr he)
      go_wp2_with fail
      go_ret
      rw[HR.out]
      show XLP _ _ _ _ _ _ _ _ _ (rLoop _ _ N _) _ _
      rw[hD]
      exact⟨_,rfl,Single.base WtRel.kept WtRel.mono hI.row (by omega),hI.rd,hg.trans hI.two.one⟩
  · have hd1:decide ((k:Int)<(N:Int))=false:=by simp;omega
    have hD:=hI.done (.inl hlt)
    go_wp2_with fail
    go_ret
    rw[HR.out]
    show XLP _ _ _ _ _ _ _ _ _ (rLoop _ _ N _) _ _
    rw[hD]
    exact⟨_,rfl,Single.base WtRel.kept WtRel.mono hI.row (by omega),hI.rd,hg.trans hI.two.one⟩
end Go.Proofs.YthdmanadhbpogaaGreat
/- The document's reading: words for a struct that is read field by field. -/
namespace Go.Proofs.YthdmanadhbpogaaGreat
set_option linter.unusedVariables false
open Go.RowKit Fl
structure XSt (w:World) (g:Nat) (A:Option Addr) (n c:Nat) (l:List UInt8) (t:TypeId) (zR:Array Value) (bR b:Nat) (cs:Array Value) (s:RS) (W:World):Prop where
 rd:Rd 117 W g A n c l s
 box:Blk W bR t zR
 blk:Blk W b t cs
 gr:w.grownBy W (some g)
 gl:g<w.heap.size
 al:∀a,A=some a→0<n→a.block<w.heap.size
 rl:w.heap.size≤bR
 bl:bR<b
section
variable {w W W':World} {g:Nat} {A:Option Addr} {n c:Nat} {l:List UInt8} {t:TypeId} {zR cs:Array Value} {bR b:Nat} {s s':RS}
theorem XSt.call (h:XSt w g A n c l t zR bR b cs s W) (hr:Rd 117 W' g A n c l s') (hg:W.grownBy W' (some g)):XSt w g A n c l t zR bR b cs s' W':=
 have h1:=h.gl
 have h2:=h.rl
 have h3:=h.bl
 ⟨hr,h.box.grown hg (by intro e;injection e with e;omega),h.blk.grown hg (by intro e;injection e with e;omega),h.gr.trans hg,h.gl,h.al,h.rl,h.bl⟩
theorem XSt.below (h:XSt w g A n c l t zR bR b cs s W) (hb:Below W.heap.size W W'):XSt w g A n c l t zR bR b cs s W':=
 ⟨h.rd.below hb,h.box.below hb h.box.lt,h.blk.below hb h.blk.lt,h.gr.trans (below_grown hb _),h.gl,h.al,h.rl,h.bl⟩
theorem XSt.set (h:XSt w g A n c l t zR bR b cs s W) (i:Nat) (u:Value):XSt w g A n c l t zR bR b (cs.setIfInBounds i u) s (W.setCell ⟨b,i,none⟩ u):=
 have h1:=h.gl
 have h2:=h.rl
 have h3:=h.bl
 have hg:=grown_set W b i u
 ⟨h.rd.far hg (by omega) (fun a ha hn=>by have:=h.al a ha hn;omega),h.box.grown hg (by intro e;injection e with e;omega),h.blk.set_ i u,
  ⟨hg.os.trans h.gr.os,hg.tape.trans h.gr.tape,hg.output.trans h.gr.output,Nat.le_trans h.gr.size hg.size,fun j hj hne=>(hg.block j (Nat.lt_of_lt_of_le hj h.gr.size) (by intro e;injection e;omega)).trans (h.gr.block j hj hne)⟩,h.gl,h.al,h.rl,h.bl⟩
theorem XSt.puts_:∀(us:List Value) (i:Nat) (cs:Array Value) (W:World),XSt w g A n c l t zR bR b cs s W→XSt w g A n c l t zR bR b (put cs i us) s (W.setCells b i us)
 |[],i,_,_,h=>h
 |u::us,i,_,_,h=>XSt.puts_ us (i+1) _ _ (h.set i u)
theorem XSt.puts (h:XSt w g A n c l t zR bR b cs s W) (us:List Value) (i:Nat):XSt w g A n c l t zR bR b (put cs i us) s (W.setCells b i us):=XSt.puts_ us i _ _ h
theorem XSt.two (h:XSt w g A n c l t zR bR b cs s W) (hr:Rd 117 W' g A n c l s') {b':Nat} (k:Two2 W W' g b') (hb:b<b'):XSt w g A n c l t zR bR b cs s' W':=
 have h1:=h.gl
 have h2:=h.rl
 have h3:=h.bl
 ⟨hr,(k.block _ h.box.lt (by omega) (by omega)).trans h.box,(k.block _ h.blk.lt (by omega) (by omega)).trans h.blk,
  ⟨k.os.trans h.gr.os,k.tape.trans h.gr.tape,k.output.trans h.gr.output,Nat.le_trans h.gr.size k.size,fun j hj hne=>(k.block j (Nat.lt_of_lt_of_le hj h.gr.size) (by intro e;exact hne (by rw[e])) (by omega)).trans (h.gr.block j hj hne)⟩,h.gl,h.al,h.rl,h.bl⟩
theorem XSt.low (h:XSt w g A n c l t zR bR b cs s W) {B:Nat} (k:Below B W W') (hb:b<B):XSt w g A n c l t zR bR b cs s W':=
 have h1:=h.gl
 have h2:=h.rl
 have h3:=h.bl
 ⟨h.rd.low k (by omega) (fun a ha hn=>by have:=h.al a ha hn;omega),h.box.below k (by omega),h.blk.below k hb,
  ⟨k.os.trans h.gr.os,k.tape.trans h.gr.tape,k.output.trans h.gr.output,Nat.le_trans h.gr.size k.size,fun j hj hne=>(k.block j (by omega)).trans (h.gr.block j hj hne)⟩,h.gl,h.al,h.rl,h.bl⟩
theorem there_of (hb:Blk W b t cs) {i k:Nat} (h:i+k≤cs.size):W.there b i k:=fun j hj=>by
 refine⟨?_,hb.frozen (i+j)⟩
 rw[hb.cell (i+j),Array.getElem?_eq_getElem (by omega)]
 rfl
theorem XSt.tell (h:XSt w g A n c l t zR bR b cs s W) (us:Array Value):Blk (W.setRow bR us) bR t us∧Rd 117 (W.setRow bR us) g A n c l s∧w.grownBy (W.setRow bR us) (some g):=
 have hL:Below w.heap.size W (W.setRow bR us):=below_setRow (Below.refl w.heap.size W) h.rl us
 ⟨h.box.setRow _,h.rd.low hL h.gl h.al,grown_low h.gr hL⟩
end
theorem Single.row {α:Type} {R:Rel α} {E size base g:Nat} {w:World} {v:Value} {l:List α} (hR:R.Kept) (hm:R.Mono) (h:Single R E size base w v l) (hg:g<base) (us:Array Value):Single R E size base (w.setRow g us) v l:=
 Pair.same hR hm h (by simp) fun q hq _=>setRow_other _ _ _ _ (by omega)
structure XPt (w:World) (g:Nat) (A:Option Addr) (n c:Nat) (l:List UInt8) (t:TypeId) (b:Nat) (cs:Array Value) (s:RS) (W:World):Prop where
 rd:Rd 117 W g A n c l s
 blk:Blk W b t cs
 gr:w.grownBy W (some g)
 gl:g<w.heap.size
 al:∀a,A=some a→0<n→a.block<w.heap.size
 rl:w.heap.size≤b
section
variable {w W W':World} {g:Nat} {A:Option Addr} {n c:Nat} {l:List UInt8} {t:TypeId} {cs:Array Value} {b:Nat} {s s':RS}
theorem XPt.call (h:XPt w g A n c l t b cs s W) (hr:Rd 117 W' g A n c l s') (hg:W.grownBy W' (some g)):XPt w g A n c l t b cs s' W':=
 have h1:=h.gl
 have h2:=h.rl
 ⟨hr,h.blk.grown hg (by intro e;injection e with e;omega),h.gr.trans hg,h.gl,h.al,h.rl⟩
theorem XPt.below (h:XPt w g A n c l t b cs s W) (hb:Below W.heap.size W W'):XPt w g A n c l t b cs s W':=
 ⟨h.rd.below hb,h.blk.below hb h.blk.lt,h.gr.trans (below_grown hb _),h.gl,h.al,h.rl⟩
theorem XPt.set (h:XPt w g A n c l t b cs s W) (i:Nat) (u:Value):XPt w g A n c l t b (cs.setIfInBounds i u) s (W.setCell ⟨b,i,none⟩ u):=
 have h1:=h.gl
 have h2:=h.rl
 have hg:=grown_set W b i u
 ⟨h.rd.far hg (by omega) (fun a ha hn=>by have:=h.al a ha hn;omega),h.blk.set_ i u,
  ⟨hg.os.trans h.gr.os,hg.tape.trans h.gr.tape,hg.output.trans h.gr.output,Nat.le_trans h.gr.size hg.size,fun j hj hne=>(hg.block j (Nat.lt_of_lt_of_le hj h.gr.size) (by intro e;injection e;omega)).trans (h.gr.block j hj hne)⟩,h.gl,h.al,h.rl⟩
end
abbrev pnCells (t:Tx) (s:Sp) (v1 v2:Value):Array Value:=#[.int .i64 t.c,.int .i64 t.l,.int .i64 t.s,.int .i64 s.w,.int .i64 s.l,.int .i64 s.n,v1,v2]
abbrev stCells (a b:Int) (x y:Nat) (f c:Sp) (v1 v2:Value):Array Value:=#[.int .i64 a,.int .i64 b,.float .f64 x,.float .f64 y,.int .i64 f.w,.int .i64 f.l,.int .i64 f.n,.int .i64 c.w,.int .i64 c.l,.int .i64 c.n,v1,v2]
end Go.Proofs.YthdmanadhbpogaaGreat
