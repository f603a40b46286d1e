/- What the chapter's examples fix, by Decode in general; the walk of MsgsDecodes. -/
import Derived.Test.YtcalkfgibflbnaaGreatBadg
import Derived.Test.YtcalkfgibflbnaaGreatBafc
namespace Go.Proofs.YtcalkfgibflbnaaGreat
set_option maxHeartbeats 4000000
set_option maxRecDepth 100000
set_option linter.unusedVariables false
open Go.RowKit Fl
attribute [local go_sem] dJ
theorem OM {k:Int} (h:0<=k/\k<=1000):bG k:=by unfold bG;omega
abbrev vJ (k fr aG rg:Int):Mg:=⟨k,fr,aG,sQ,rg,0,0,iq,iq,false,0,0,[],[],[],[],[],[],nY⟩
theorem aiW (w:World):Reads (w.alloc (.cells #[.int .u8 22,.int .u8 4,.int .u8 2,.int .u8 4] 5)) (w.alloc (.cells #[.int .u8 22,.int .u8 4,.int .u8 2,.int .u8 4] 5)).heap.size 1 (some ⟨w.heap.size,0,none⟩) 4 (bytesV [22,4,2,4]):=
 Reads.kK (World.ownsRow_lit w #[.int .u8 22,.int .u8 4,.int .u8 2,.int .u8 4] 4 (Nat.le_refl _) dX rfl)
theorem aiX (w:World):Reads (w.alloc (.cells #[.int .u8 26,.int .u8 62] 5)) (w.alloc (.cells #[.int .u8 26,.int .u8 62] 5)).heap.size 1 (some ⟨w.heap.size,0,none⟩) 2 (bytesV [26,62]):=
 Reads.kK (World.ownsRow_lit w #[.int .u8 26,.int .u8 62] 2 (Nat.le_refl _) dX rfl)
theorem EL (w:World):Calls Tryz.prog 8 #[] w fun e w'=>e=.returned (.bool true)/\Below w.heap.size w w':=by
 have ok:(vJ 13 31 32 0).ok:=⟨OM (k:=13) byOmega,OM (k:=31) byOmega,OM (k:=32) byOmega,MS,lK,lK,lK,sU,sU,lK,lK,IK,sU,sU⟩;have hN:=fun W:World=>VK (vJ 13 31 32 0) AL W ok ⟨Sl.nil,Sl.nil,Sl.nil,Sl.nil,Sl.nil,Sl.nil,Sl.nil,Sl.nil⟩ (yE W 0).2.1 ⟨Nat.zero_le _,Nat.zero_le _,Nat.zero_le _,Nat.zero_le _,Nat.zero_le _,Nat.zero_le _,⟨Nat.zero_le _,fun x hx=>by cases hx⟩,⟨Nat.zero_le _,fun x hx=>by cases hx⟩⟩ (fun r hr=>by cases hr) (by rw[show bT (vJ 13 31 32 0)=[26,62,64] from ah];decide)
 rw[show og (vJ 13 31 32 0) (bT (vJ 13 31 32 0))=[26,62,64] from ah,show kJ (vJ 13 31 32 0) (bT (vJ 13 31 32 0))=0 from ah]at hN;have hA:=fun W c h=>EK (some ⟨W,0,none⟩) 4 4 [22,4,2,4] c h byOmega byOmega
 have hB:=fun W c h=>EK (some ⟨W,0,none⟩) 2 2 [26,62] c h byOmega byOmega
 rw[show kQ [22,4,2,4]=0 from ah,show iC [22,4,2,4]=vJ 11 2 1 2 from ah]at hA;rw[show kQ [26,62]=4 from ah,show iC [26,62]=vJ 0 0 0 0 from ah]at hB;have n1:=fun W=>IU 22 W
 have n2:=fun W=>IU 23 W
 rw[show nZ 22=true from ah]at n1;rw[show nZ 23=false from ah]at n2;clear ok;go_enter Tryz.func8,Tryz.ntmps8;go_wp2_with fail;refine(hN _).mono ?_;rintro e w1 ⟨A1,c1,rfl,hq1,hm1,hown1,hb1⟩;have hR1:Reads w1 w1.heap.size 1 A1 3 (bytesV [26,62,64]):=Reads.kK hown1;have AP:Below w1.heap.size w1 (w1.alloc (.cells #[.int .u8 22,.int .u8 4,.int .u8 2,.int .u8 4] 5)):=aJ;clear hown1 hN;go_wp2_with fail;refine(hA _ _ (aiW w1)).mono ?_;rintro e w2 ⟨hd,he,-,hb2⟩;replace he:e=.returned (.tuple #[.agg ((vJ 11 2 1 2).vals hd),.int .i64 0]):=he;subst he;have hB2:=AP.trans (hb2.mono AP.size);clear AP hb2;obtain⟨cs,hcs⟩:∃cs:Array Value,cs=(vJ 11 2 1 2).vals hd:=⟨_,rfl⟩;rw[<-hcs];have hsz:(Tryz.prog.info? 41).map (·.size)=some cs.size:=by rw[hcs];kernel_rfl
 have hs2:kN.size=cs.size:=by rw[hcs];kernel_rfl
 have hone:cs.all (·.oneCell')=true:=by rw[hcs];kernel_rfl
 have HC:=au hcs;clear hcs;have HZ:=au hsz;have HS:=au hs2;clear hsz hs2;go_wp2_with (guard_target=~ wpList _ _ _ _ _ _;refine iO rfl 41 _ _ rfl w2.heap.size cs rfl rfl rfl _ _ HZ.out HS.out hone ?_);have hRb:Reads ((w2.alloc (.cells cs 41)).alloc (.cells #[.int .u8 26,.int .u8 62] 5)) ((w2.alloc (.cells cs 41)).alloc (.cells #[.int .u8 26,.int .u8 62] 5)).heap.size 1 (some ⟨w2.heap.size+1,0,none⟩) 2 (bytesV [26,62]):=by
  have h3:=aiX (w2.alloc (.cells cs 41));rw[show (w2.alloc (.cells cs 41)).heap.size=w2.heap.size+1 from World.size_alloc _ _]at h3;exact h3
 have B2:aj ((w2.alloc (.cells cs 41)).alloc (.cells #[.int .u8 26,.int .u8 62] 5)) w2.heap.size 41 cs:=(aj.new _ _ _).alloc _;have OO:Below w2.heap.size w2 ((w2.alloc (.cells cs 41)).alloc (.cells #[.int .u8 26,.int .u8 62] 5)):=aJ;refine(hB _ _ hRb).mono ?_;rintro e w3 ⟨he,hE,-,hb3⟩;replace hE:e=.returned (.tuple #[.agg ((vJ 0 0 0 0).vals he),.int .i64 4]):=hE;subst hE;obtain⟨ds,hds⟩:∃ds:Array Value,ds=(vJ 0 0 0 0).vals he:=⟨_,rfl⟩;rw[<-hds];have aiY:ds.all (·.oneCell')=true:=by rw[hds];kernel_rfl
 have HZ2:=au (show (Tryz.prog.info? 41).map (·.size)=some ds.size by rw[hds];kernel_rfl);have HS2:=au (show kN.size=ds.size by rw[hds];rfl);clear hds;have B3:=B2.below hb3 B2.lt;have hB3:=OO.trans (hb3.mono OO.size);clear hRb B2 OO hb3;have Xf:=hB2.trans (hB3.mono hB2.size);have Hg:=(hR1.below Xf).more Xf.size;have B4:=B3.alloc (.cells ds 41);have jV:Below w3.heap.size w3 (w3.alloc (.cells ds 41)):=aJ;have uI:=(Hg.below jV).more jV.size;have hcv:∀c1:Nat,(convert 49 9 (.slice A1 3 c1)).run Tryz.prog (w3.alloc (.cells ds 41))=.ok (.string ⟨#[26,62,64]⟩) (w3.alloc (.cells ds 41)):=fun c1=>DU (P:=Tryz.prog) (w3.alloc (.cells ds 41)) 49 9 5 Tryz.underlying49 Tryz.underlying5 Tryz.underlying9 (c:=c1) uI
 have z0:(w3.alloc (.cells ds 41)).cell? ⟨w2.heap.size,0,none⟩=some (.int .i64 11):=by have h:=(B4.cell 0);rw[HC.out]at h;exact h
 have z1:(w3.alloc (.cells ds 41)).cell? ⟨w2.heap.size,1,none⟩=some (.int .i64 2):=by have h:=(B4.cell 1);rw[HC.out]at h;exact h
 have z2:(w3.alloc (.cells ds 41)).cell? ⟨w2.heap.size,2,none⟩=some (.int .i64 1):=by have h:=(B4.cell 2);rw[HC.out]at h;exact h
 have z3:(w3.alloc (.cells ds 41)).cell? ⟨w2.heap.size,6,none⟩=some (.int .i64 2):=by have h:=(B4.cell 6);rw[HC.out]at h;exact h
 go_wp2_with (first
  |(guard_target=~ wpList _ _ _ _ _ _;refine iO rfl 41 _ _ rfl w3.heap.size ds rfl rfl rfl _ _ HZ2.out HS2.out aiY ?_)
  |((with_reducible refine(n1 _).mono ?_);rintro e v1 ⟨rfl,rfl⟩)
  |((with_reducible refine(n2 _).mono ?_);rintro e v2 ⟨rfl,rfl⟩))
 go_ret;have hB4:=hB3.trans (jV.mono hB3.size);have hB6:=hB2.trans (hB4.mono hB2.size);exact⟨rfl,hb1.trans (hB6.mono hb1.size)⟩
theorem OQ {l:List UInt8} (h:kQ l=0):kJ (iC l) (bT (iC l))=0/\og (iC l) (bT (iC l))=l/\iC l=(mG l ⟨0,0,0⟩).1/\l.length<=4194304:=by
 have hr:iC l=(mG l ⟨0,0,0⟩).1:=by unfold iC;rw[if_pos h]
 rw[hr];unfold kQ at h
 repeat' split at h
 all_goals first
  |exact absurd h (by decide)
  |exact⟨Decidable.byContradiction fun hn=>by contradiction,Decidable.byContradiction fun hn=>by contradiction,rfl,byOmega⟩
theorem Xg (l:List UInt8):kQ l=0∨kQ l=4:=by
 unfold kQ
 repeat' split
 all_goals first
  |exact .inl rfl
  |exact .inr rfl
end Go.Proofs.YtcalkfgibflbnaaGreat
namespace Go.Proofs.YtcalkfgibflbnaaGreat
set_option linter.unusedVariables false
open Go.RowKit Fl
theorem EM {m:Mg} (h:kJ m (bT m)=0):lD m=0/\(bT m).length<=4194304/\og m (bT m)=bT m:=by
 have h0:=h;unfold kJ at h;split at h
 · rename_i hm;split at h
   · omega
   · exact⟨hm,byOmega,by unfold og;rw[if_pos h0]⟩
 · rename_i hm;exact absurd h hm
theorem aiZ {m:Mg} (h:kJ m (bT m)=0) (ok:CS m):kQ (bT m)=0/\iC (bT m)=m:=by
 obtain⟨hm,hl,ho⟩:=EM h;have hr:=JM hm ok [];rw[List.append_nil]at hr;have he:kQ (bT m)=0:=by
  unfold kQ;rw[hr,if_neg byOmega,if_neg aA,if_neg,if_neg (by simp[h]),if_neg (by simp[ho])];unfold lY;rw[if_neg aA];simp
 refine⟨he,?_⟩;unfold iC;rw[if_pos he,hr]
theorem ai0 {l:List UInt8} {w:World} {h:Hm} (he:kQ l=0) (hl:l.length<=5000000) (ok:(iC l).ok) (i:bH w w.heap.size (iC l) h):CS (iC l):=by
 have hc:=VY l ⟨0,0,0⟩ hl;rw[<-(OQ he).2.2.1]at hc;exact V5 ok i (hc.sm hl i) hc.pl
theorem ai1 {m:Mg} (h:kJ m (bT m)=0) (ok:CS m) {k:Nat} (hk:k<(bT m).length) {w:World} {g:Hm} (OT:(iC ((bT m).take k)).ok) (i:bH w w.heap.size (iC ((bT m).take k)) g):kQ ((bT m).take k)=4:=by
 rcases Xg ((bT m).take k) with h0|h0
 · exfalso;obtain⟨hm,hl,ho⟩:=EM h;obtain⟨a1,a2,a3,a4⟩:=OQ h0;have hw:=ai0 h0 (by rw[List.length_take];omega) OT i;obtain⟨b1,b2,b3⟩:=EM a1;have h1:=JM hm ok [];have h2:=JM b1 hw ((bT m).drop k);rw[b3]at a2;rw[List.append_nil]at h1;rw[a2,List.take_append_drop,h1]at h2;have h3:=congrArg (fun x=>x.2.at_) h2;simp only[List.length_take]at h3;omega
 · exact h0
theorem ai2 {m:Mg} (h:kJ m (bT m)=0) (ok:CS m) (x:UInt8):kQ (bT m++[x])=4:=by
 obtain⟨hm,hl,ho⟩:=EM h;have hr:=JM hm ok [x];unfold kQ;split
 · rfl
 · rw[hr,if_neg aA,if_pos];unfold lY;rw[if_pos ⟨rfl,aA⟩];simp
theorem ai3 {m:Mg} (h:kJ m (bT m)=0) {l:List UInt8} (hl:l≠bT m) (hd:kQ l=0):iC l≠m:=fun e=>by
 obtain⟨-,a2,-,-⟩:=OQ hd;rw[e,(EM h).2.2]at a2;exact hl a2.symm
theorem ai4 (m:Mg):0<(bT m).length:=by
 unfold bT;rw[aK];have:=Ap m.k;omega
theorem ai5 {l:List UInt8} {k:Nat} {a x:UInt8} (hk:l[k]?=some a) (hx:x≠0):l.set k (a^^^x)≠l:=fun e=>by
 have h1:(l.set k (a^^^x))[k]?=some (a^^^x):=List.getElem?_set_self (List.getElem?_eq_some_iff.1 hk).1;rw[e,hk]at h1;have h2:=Option.some.inj h1;apply hx;have h3:a^^^(a^^^x)=x:=by rw[<-UInt8.xor_assoc,UInt8.xor_self,UInt8.zero_xor]
 rw[<-h2,UInt8.xor_self]at h3;exact h3.symm
end Go.Proofs.YtcalkfgibflbnaaGreat
namespace Go.Proofs.YtcalkfgibflbnaaGreat
open Go.ChangeShapes Go.WideShapes Go.RowKit
theorem ai6 {n:Int} (h:(Lit.int .u8 n).wf=true):∃b:UInt8,n=(b.toNat:Int):=by
 have hb:0<=n/\n<=255:=by simpa [Lit.wf,IntKind.min,IntKind.max,IntKind.signed,IntKind.bits] using h
 refine⟨n.toNat.toUInt8,?_⟩;show n=((n.toNat%256:Nat):Int);omega
section
variable {H:Type} {enc:TypeId×Value->H} {P:Program} {w:World} {base:Nat} {spare:Nat->Bool} {held:Bool}
end
