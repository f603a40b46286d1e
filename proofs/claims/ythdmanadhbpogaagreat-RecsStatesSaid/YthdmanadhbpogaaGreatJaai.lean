/- The walks of a reader's functions: Count, Choice, Text, Left, Fail, Place, Fault, End. -/
import Derived.WalkLawsBesides
import Derived.Deep.MidRow
import Derived.Laws.OwnMore
import Derived.Test.YthdmanadhbpogaaGreatJaab
import Derived.Test.YthdmanadhbpogaaGreatJaag
import Derived.Test.YthdmanadhbpogaaGreatJaah
namespace Go.Proofs.YthdmanadhbpogaaGreat
set_option maxHeartbeats 4000000
set_option maxRecDepth 100000
open Go.RowKit Fl
section
variable {w:World} {g a:Nat} {A:Option Addr} {n c:Nat} {l:List UInt8} {s:RS} {most e:Int}
theorem cnt_none (h:Rd 136 w g A n c l s) {s':RS} (hd:cnt l s most e=(none,s')):
 Calls Tryz.prog 203 #[.pointer (some ⟨g,0,none⟩),.int .i64 most,.int .i64 e] w (RdPost 136 w g A n c l (.tuple #[.int .i64 0,.int .i64 (s.at_:Int),.bool false]) s'):=
 (wRcount g A n c l s most e w h).mono fun e w' h=>by rw[hd]at h;exact h
theorem cnt_some (h:Rd 136 w g A n c l s) {k:Int} {next:Nat} {s':RS} (hd:cnt l s most e=(some (k,next),s')):
 Calls Tryz.prog 203 #[.pointer (some ⟨g,0,none⟩),.int .i64 most,.int .i64 e] w (RdPost 136 w g A n c l (.tuple #[.int .i64 k,.int .i64 (next:Int),.bool true]) s):=
 (wRcount g A n c l s most e w h).mono fun e w' h=>by obtain⟨rfl,_⟩:=cnt_ok hd;rw[hd]at h;exact h
end
theorem wRCount (g:Nat) (A:Option Addr) (n c:Nat) (l:List UInt8) (s:RS) (most:Int) (w:World) (h:Rd 136 w g A n c l s):
 Calls Tryz.prog 177 #[.pointer (some ⟨g,0,none⟩),.int .i64 most] w (RdPost 136 w g A n c l (.int .i64 (rCount l s most 3).1) (rCount l s most 3).2):=by
 obtain⟨hgl,c0,c1,c2,c3,f0,f1,f2,f3⟩:=h.blk.four
 by_cases h1:s.e=0
 · have hb1:(s.e !=0)=false:=by simp[h1]
   have hs:=rCount_cnt l s most 3 h1
   rcases hd:cnt l s most 3 with ⟨_|⟨k,next⟩,s'⟩
   · rw[hs,hd]
     have hc:=cnt_none h hd
     clear hd hs h1
     go_enter Tryz.func177,Tryz.ntmps177
     go_wp2_with ((with_reducible refine hc.mono ?_);rintro e w1 ⟨rfl,hr1,hg1⟩)
     go_ret
     exact⟨rfl,hr1,hg1⟩
   · rw[hs,hd]
     have hc:=cnt_some h hd
     have hle:=(dec_ok (cnt_ok hd).2.2.2).2.2.2.1
     have hlen:=h.len
     clear hd hs h1
     go_enter Tryz.func177,Tryz.ntmps177
     go_wp2_with ((with_reducible refine hc.mono ?_);rintro e w1 ⟨rfl,hr1,hg1⟩;obtain⟨hgl',c0',c1',c2',c3',f0',f1',f2',f3'⟩:=hr1.blk.four)
     go_ret
     exact⟨rfl,hr1.moved (by omega),hg1.trans (grown_set _ _ _ _)⟩
 · have hb1:(s.e !=0)=true:=by simp[h1]
   have hs:rCount l s most 3=(0,s):=by unfold rCount;rw[if_pos h1]
   rw[hs]
   clear hs
   go_enter Tryz.func177,Tryz.ntmps177
   go_wp2
   go_ret
   exact⟨rfl,h,World.grownBy.refl _ _⟩
theorem wRChoice (g:Nat) (A:Option Addr) (n c:Nat) (l:List UInt8) (s:RS) (most:Int) (w:World) (h:Rd 136 w g A n c l s):
 Calls Tryz.prog 212 #[.pointer (some ⟨g,0,none⟩),.int .i64 most] w (RdPost 136 w g A n c l (.int .i64 (rCount l s most 4).1) (rCount l s most 4).2):=by
 obtain⟨hgl,c0,c1,c2,c3,f0,f1,f2,f3⟩:=h.blk.four
 by_cases h1:s.e=0
 · have hb1:(s.e !=0)=false:=by simp[h1]
   have hs:=rCount_cnt l s most 4 h1
   rcases hd:cnt l s most 4 with ⟨_|⟨k,next⟩,s'⟩
   · rw[hs,hd]
     have hc:=cnt_none h hd
     clear hd hs h1
     go_enter Tryz.func212,Tryz.ntmps212
     go_wp2_with ((with_reducible refine hc.mono ?_);rintro e w1 ⟨rfl,hr1,hg1⟩)
     go_ret
     exact⟨rfl,hr1,hg1⟩
   · rw[hs,hd]
     have hc:=cnt_some h hd
     have hle:=(dec_ok (cnt_ok hd).2.2.2).2.2.2.1
     have hlen:=h.len
     clear hd hs h1
     go_enter Tryz.func212,Tryz.ntmps212
     go_wp2_with ((with_reducible refine hc.mono ?_);rintro e w1 ⟨rfl,hr1,hg1⟩;obtain⟨hgl',c0',c1',c2',c3',f0',f1',f2',f3'⟩:=hr1.blk.four)
     go_ret
     exact⟨rfl,hr1.moved (by omega),hg1.trans (grown_set _ _ _ _)⟩
 · have hb1:(s.e !=0)=true:=by simp[h1]
   have hs:rCount l s most 4=(0,s):=by unfold rCount;rw[if_pos h1]
   rw[hs]
   clear hs
   go_enter Tryz.func212,Tryz.ntmps212
   go_wp2
   go_ret
   exact⟨rfl,h,World.grownBy.refl _ _⟩
theorem wRText (g:Nat) (A:Option Addr) (n c:Nat) (l:List UInt8) (s:RS) (most:Int) (w:World) (h:Rd 136 w g A n c l s):
 Calls Tryz.prog 202 #[.pointer (some ⟨g,0,none⟩),.int .i64 most] w (RdPost 136 w g A n c l (.string ⟨(rText l s most).1.toArray⟩) (rText l s most).2):=by
 obtain⟨hgl,c0,c1,c2,c3,f0,f1,f2,f3⟩:=h.blk.four
 have hnc:=h.nc
 have hlen:=h.len
 have hsm:=h.small
 by_cases h1:s.e=0
 · have hb1:(s.e !=0)=false:=by simp[h1]
   have hs:=rText_cnt l s most h1
   rcases hd:cnt l s most 2 with ⟨_|⟨k,next⟩,s'⟩
   · rw[hs,hd]
     have hc:=cnt_none h hd
     clear hd hs h1
     go_enter Tryz.func202,Tryz.ntmps202
     go_wp2_with ((with_reducible refine hc.mono ?_);rintro e w1 ⟨rfl,hr1,hg1⟩)
     go_ret
     exact⟨rfl,hr1,hg1⟩
   · rw[hs,hd]
     have hc:=cnt_some h hd
     have hck:=cnt_ok hd
     have hdk:=dec_ok hck.2.2.2
     have hle:=hdk.2.2.2.1
     have hk0:=hck.2.1
     have hkm:k≤9223372036854775807:=hdk.2.2.2.2.2
     clear hd hs h1 hck hdk
     by_cases h2:(l.length:Int)-next<k
     · simp only[if_pos h2]
       have hb2:decide ((n:Int)-(next:Int)<k)=true:=by rw[hlen]at h2;simp[h2]
       have hln:(l.length:Int)=(n:Int):=by rw[hlen]
       go_enter Tryz.func202,Tryz.ntmps202
       clear hln
       go_wp2_with (first
        |((with_reducible refine hc.mono ?_);rintro e w1 ⟨rfl,hr1,hg1⟩;obtain⟨hgl',c0',c1',c2',c3',f0',f1',f2',f3'⟩:=hr1.blk.four)
        |((with_reducible refine(wfail g _ _ _ _ _ _ _ _ hr1).mono ?_);rintro e w2 ⟨rfl,hr2,hg2⟩))
       go_ret
       rw[hlen]
       exact⟨rfl,hr2,hg1.trans hg2⟩
     · simp only[if_neg h2]
       have hb2:decide ((n:Int)-(next:Int)<k)=false:=by rw[hlen]at h2;simp;omega
       obtain⟨m,rfl⟩:=Int.eq_ofNat_of_zero_le hk0
       rw[Int.toNat_natCast]
       have hnm:next+m≤n:=by omega
       go_enter Tryz.func202,Tryz.ntmps202
       go_wp2_with (first
        |((with_reducible refine hc.mono ?_);rintro e w1 ⟨rfl,hr1,hg1⟩;obtain⟨hgl',c0',c1',c2',c3',f0',f1',f2',f3'⟩:=hr1.blk.four))
       have hmv:=hr1.moved (k:=next+m) hnm
       rw[Int.natCast_add]at hmv
       obtain⟨A',hsl,hA'⟩:=run_cut (P:=Tryz.prog) _ 48 5 Tryz.underlying48 size_u8 hmv.reads hnc next (next+m) (by omega) hnm
       rw[Int.natCast_add]at hsl
       have hcv:∀q,(convert 48 9 (.slice A' (next+m-next) (c-next))).run Tryz.prog (((w1.setCell ⟨g,1,none⟩ (.int .i64 ((next:Int)+(m:Int))))).drewN q)=.ok (.string ⟨((l.drop next).take (next+m-next)).toArray⟩) (((w1.setCell ⟨g,1,none⟩ (.int .i64 ((next:Int)+(m:Int))))).drewN q):=
        fun q=>run_conv_reads _ _ _ _ Tryz.underlying48 Tryz.underlying5 Tryz.underlying9 (by rw[bytesV_drop]at hA';exact hA'.drewN q)
       have hg2:=hg1.trans (grown_set w1 g 1 (.int .i64 ((next:Int)+(m:Int))))
       clear hA'
       rw[show next+m-next=m from by omega]at hcv hsl
       generalize w1.setCell ⟨g,1,none⟩ (.int .i64 ((next:Int)+(m:Int)))=w2 at*
       obtain⟨hgl2,d0,d1,d2,d3,e0,e1,e2,e3⟩:=hmv.blk.four
       clear c0' c1' c2' c3' f0' f1' f2' f3' c0 c1 c2 c3 f0 f1 f2 f3
       rw[Int.natCast_add]at d1
       go_quiet (fail)
       go_wp2
       go_ret
       exact⟨rfl,hmv.drewN _,grown_drewN hg2 _⟩
 · have hb1:(s.e !=0)=true:=by simp[h1]
   have hs:rText l s most=([],s):=by unfold rText;rw[if_pos h1]
   rw[hs]
   clear hs
   go_enter Tryz.func202,Tryz.ntmps202
   go_wp2
   go_ret
   exact⟨rfl,h,World.grownBy.refl _ _⟩
end Go.Proofs.YthdmanadhbpogaaGreat
/- The walks of a reader's functions: NewReader, Flag, Float, Left, Fail, Place, Fault, End. -/
namespace Go.Proofs.YthdmanadhbpogaaGreat
set_option maxHeartbeats 4000000
open Go.RowKit Fl
theorem wRPlace (g:Nat) (A:Option Addr) (n c:Nat) (l:List UInt8) (s:RS) (w:World) (h:Rd 136 w g A n c l s):
 Calls Tryz.prog 35 #[.pointer (some ⟨g,0,none⟩)] w fun e w'=>e=.returned (.int .i64 (s.at_:Int))∧w=w':=by
 obtain⟨hgl,c0,c1,c2,c3,f0,f1,f2,f3⟩:=h.blk.four
 go_enter Tryz.func35,Tryz.ntmps35
 go_wp2
 go_ret
 exact⟨rfl,rfl⟩
theorem wRFault (g:Nat) (A:Option Addr) (n c:Nat) (l:List UInt8) (s:RS) (w:World) (h:Rd 136 w g A n c l s):
 Calls Tryz.prog 34 #[.pointer (some ⟨g,0,none⟩)] w fun e w'=>e=.returned (.tuple #[.int .i64 s.e,.int .i64 (s.p:Int)])∧∃q,w.drewN q=w':=by
 obtain⟨hgl,c0,c1,c2,c3,f0,f1,f2,f3⟩:=h.blk.four
 go_enter Tryz.func34,Tryz.ntmps34
 go_wp2
 go_quiet (fail)
 go_wp2
 go_ret2
 exact⟨rfl,_,rfl⟩
theorem wRLeft (g:Nat) (A:Option Addr) (n c:Nat) (l:List UInt8) (s:RS) (w:World) (h:Rd 136 w g A n c l s):
 Calls Tryz.prog 178 #[.pointer (some ⟨g,0,none⟩)] w fun e w'=>e=.returned (.int .i64 (rLeft l s:Int))∧∃q,w.drewN q=w':=by
 obtain⟨hgl,c0,c1,c2,c3,f0,f1,f2,f3⟩:=h.blk.four
 have hlen:=h.len
 have hsm:=h.small
 have hal:=h.at_le
 by_cases h1:s.e=0
 · have hb1:(s.e !=0)=false:=by simp[h1]
   have hs:((rLeft l s:Nat):Int)=(n:Int)-(s.at_:Int):=by unfold rLeft;rw[if_neg (by simp[h1])];omega
   rw[hs]
   have hw:IntKind.i64.wrap ((n:Int)-(s.at_:Int))=(n:Int)-(s.at_:Int):=by rw[IntKind.wrap_i64];omega
   clear hs h1 hlen
   go_enter Tryz.func178,Tryz.ntmps178
   go_wp2
   go_quiet (fail)
   go_wp2
   go_ret
   exact⟨rfl,_,rfl⟩
 · have hb1:(s.e !=0)=true:=by simp[h1]
   have hs:rLeft l s=0:=by unfold rLeft;rw[if_pos h1]
   rw[hs]
   clear hs
   go_enter Tryz.func178,Tryz.ntmps178
   go_wp2
   go_ret
   exact⟨rfl,0,rfl⟩
theorem wREnd (g:Nat) (A:Option Addr) (n c:Nat) (l:List UInt8) (s:RS) (w:World) (h:Rd 136 w g A n c l s):
 Calls Tryz.prog 32 #[.pointer (some ⟨g,0,none⟩)] w fun e w'=>e=.returned (.tuple #[.int .i64 (rEnd l s).1,.int .i64 ((rEnd l s).2:Int)])∧∃q,w.drewN q=w':=by
 obtain⟨hgl,c0,c1,c2,c3,f0,f1,f2,f3⟩:=h.blk.four
 have hlen:=h.len
 have hsm:=h.small
 have hal:=h.at_le
 by_cases h1:s.e=0
 · have hb1:(s.e==0)=true:=by simp[h1]
   by_cases h2:s.at_<n
   · have hs:rEnd l s=(6,s.at_):=by unfold rEnd;rw[if_pos ⟨h1,by omega⟩]
     rw[hs]
     have hb2:decide (s.at_<n)=true:=by simp[h2]
     clear hs h1 hlen
     go_enter Tryz.func32,Tryz.ntmps32
     go_wp2
     go_quiet (fail)
     go_wp2
     go_quiet (fail)
     go_wp2
     go_ret2
     exact⟨rfl,_,(World.drewN_drewN ..).symm⟩
   · have hs:rEnd l s=(s.e,s.p):=by unfold rEnd;rw[if_neg (by rintro⟨_,h3⟩;omega)]
     rw[hs]
     have hb2:decide (s.at_<n)=false:=by simp;omega
     clear hs h1 hlen
     go_enter Tryz.func32,Tryz.ntmps32
     go_wp2
     go_quiet (fail)
     go_wp2_with ((with_reducible refine(wRFault g _ _ _ _ _ _ (h.drewN _)).mono ?_);rintro e w2 ⟨rfl,q,rfl⟩)
     go_ret2
     exact⟨rfl,_,rfl⟩
 · have hb1:(s.e==0)=false:=by simp[h1]
   have hs:rEnd l s=(s.e,s.p):=by unfold rEnd;rw[if_neg (by rintro⟨h3,_⟩;exact h1 h3)]
   rw[hs]
   clear hs
   go_enter Tryz.func32,Tryz.ntmps32
   go_wp2
   go_quiet (fail)
   go_wp2_with ((with_reducible refine(wRFault g _ _ _ _ _ _ (h.drewN _)).mono ?_);rintro e w2 ⟨rfl,q,rfl⟩)
   go_ret2
   exact⟨rfl,_,rfl⟩
end Go.Proofs.YthdmanadhbpogaaGreat
/- The walks of a reader's functions: NewReader, Flag, Float. -/
namespace Go.Proofs.YthdmanadhbpogaaGreat
set_option maxHeartbeats 4000000
set_option maxRecDepth 100000
open Go.RowKit Fl
def NewRd (t:TypeId) (w:World) (l:List UInt8):Ending→World→Prop:=fun e w'=>
 ∃A n c,e=.returned (.pointer (some ⟨w'.heap.size-1,0,none⟩))∧0<w'.heap.size∧w.heap.size≤w'.heap.size-1∧Rd t w' (w'.heap.size-1) A n c l ⟨0,0,0⟩∧(∀ad,A=some ad→w.heap.size≤ad.block)∧Below w.heap.size w w'
theorem wRNew (A:Option Addr) (n c:Nat) (l:List UInt8) (w:World) (h:Reads w w.heap.size 1 A n (bytesV l)) (hsm:n≤1000000000000):
 Calls Tryz.prog 30 #[.slice A n c] w (NewRd 136 w l):=by
 obtain⟨i0,hi0,hz0,hz1,hz2⟩:=info_partsW u8_info
 have hlen:l.length=n:=by have:=h.1;simpa using this
 go_enter Tryz.func30,Tryz.ntmps30
 go_wp2_with (first
         |(at_builtin
           refine wpList_append_any _ rfl (.tmp 3) (.tmp 4) _ rfl w.heap.size 5 i0 _ 1 1 Tryz.underlying48 hi0 hz0 hz1 hz2 rfl (by omega) (.slice (some ⟨w.heap.size,0,none⟩) 0 0) 0 [] (by rfl)
              (World.ownsRow_made w #[] 0 (Nat.le_refl _) (by unfold maxLen;omega) rfl) w.heap.size A n c (bytesV l) (by rfl) (h.alloc (Nat.le_refl _) _) (bytesV_one _) (by unfold maxLen;omega) (by omega) (by simp) ?_
           intro v1 w1 hown1 hg1 hat1
           simp only[Nat.zero_add,List.nil_append]at hown1
           obtain⟨A1,c1,rfl,hn1,hc1⟩:=own_form hown1))
 have hb1:Below w.heap.size w w1:=((Below.refl _ _).alloc (Nat.le_refl _) _).grown hg1 (by simp) (by intro k hk;simp[Value.ownBlock]at hk;omega)
 go_ret
 have hz:=hb1.size
 have hrd:=Reads.of_own hown1
 refine⟨A1,n,c1,by simp,by simp,by simpa using hz,?_,?_,hb1.alloc hz _⟩
 · refine⟨Blk.new' _ _ (by simp),?_,hlen,hsm,?_,Nat.zero_le _,hn1,hc1⟩
   · simpa using (hrd.alloc (Nat.le_refl _) _).more (Nat.le_succ _)
   · intro ad e hn
     subst e
     have h5:=hown1.lt ad.block (by obtain⟨g,cap,hv,_,_⟩:=hown1.form hn;injection hv with e1;injection e1 with e1;subst e1;rfl)
     have:=h5.2
     simp;omega
 · intro ad e
   subst e
   rcases hown1.2 with ⟨hv,_⟩|⟨g,cap,cur,hv,hg,_⟩
   · cases hv
   · injection hv with e1;injection e1 with e1;subst e1;exact hg
theorem wRFlag (g:Nat) (A:Option Addr) (n c:Nat) (l:List UInt8) (s:RS) (w:World) (h:Rd 136 w g A n c l s):
 Calls Tryz.prog 180 #[.pointer (some ⟨g,0,none⟩)] w (RdPost 136 w g A n c l (.bool (rFlag l s).1) (rFlag l s).2):=by
 obtain⟨hgl,c0,c1,c2,c3,f0,f1,f2,f3⟩:=h.blk.four
 have hnc:=h.nc
 have hlen:=h.len
 have hsm:=h.small
 have hal:=h.at_le
 by_cases h1:s.e=0
 · have hb1:(s.e !=0)=false:=by simp[h1]
   by_cases h2:s.at_<n
   · have hb2:decide (n≤s.at_)=false:=by simp;omega
     obtain⟨ad,x,rfl,hadl,hx,hcell⟩:=h.cell h2
     have hxl:=x.toNat_lt
     have hmv:=h.moved (k:=s.at_+1) (by omega)
     by_cases h3:1<x.toNat
     · have hs:rFlag l s=(false,rFail s 4 s.at_):=by unfold rFlag;rw[if_neg (by simp[h1]),hx];simp only;rw[if_pos h3]
       rw[hs]
       have hb3:decide ((1:Int)<(x.toNat:Int))=true:=by simp;omega
       clear hs hx h1 hlen
       go_enter Tryz.func180,Tryz.ntmps180
       go_wp2
       go_quiet (fail)
       go_wp2
       go_quiet (fail)
       go_wp2_with ((with_reducible refine(wfail g _ _ _ _ _ _ _ _ (h.drewN _)).mono ?_);rintro e w2 ⟨rfl,hr2,hg2⟩)
       go_ret
       exact⟨rfl,hr2,(grown_drewN (World.grownBy.refl _ _) _).trans hg2⟩
     · have hs:rFlag l s=(x.toNat==1,⟨s.at_+1,s.e,s.p⟩):=by unfold rFlag;rw[if_neg (by simp[h1]),hx];simp only;rw[if_neg h3]
       rw[hs]
       have hb3:decide ((1:Int)<(x.toNat:Int))=false:=by simp;omega
       clear hs hx h1 hlen
       go_enter Tryz.func180,Tryz.ntmps180
       go_wp2
       go_quiet (fail)
       go_wp2
       go_quiet (fail)
       go_wp2
       have hmv':=hmv
       rw[Int.natCast_add]at hmv'
       have hw1:IntKind.i64.wrap (((s.at_:Int)+1)-1)=(s.at_:Int):=by rw[IntKind.wrap_i64];omega
       have hcell':=hcell
       rw[←World.cell?_setCell_other w ⟨g,1,none⟩ (ad.add s.at_) (.int .i64 ((s.at_:Int)+1)) (by intro e;have:=h.apart ad rfl (by omega);rw[←block_of_add ad s.at_,←e]at this;exact this rfl)]at hcell'
       have hgr:=grown_set w g 1 (.int .i64 ((s.at_:Int)+1))
       have hwn:∀q,(w.drewN q).setCell ⟨g,1,none⟩ (.int .i64 ((s.at_:Int)+1))=(w.setCell ⟨g,1,none⟩ (.int .i64 ((s.at_:Int)+1))).drewN q:=fun _=>rfl
       rw[hwn]
       obtain⟨hgl2,d0,d1,d2,d3,e0,e1,e2,e3⟩:=hmv'.blk.four
       generalize w.setCell ⟨g,1,none⟩ (.int .i64 ((s.at_:Int)+1))=w2 at*
       clear c0 c1 c2 c3 f0 f1 f2 f3 hwn
       clear hcell
       go_quiet (fail)
       go_wp2
       go_ret
       exact⟨ret_bool (by rw[Bool.eq_iff_iff];simp;omega),hmv'.drewN _,grown_drewN hgr _⟩
   · have hs:rFlag l s=(false,rFail s 5 l.length):=by unfold rFlag;rw[if_neg (by simp[h1]),List.getElem?_eq_none (by omega)]
     rw[hs,hlen]
     have hb2:decide (n≤s.at_)=true:=by simp;omega
     clear hs h1 hlen
     go_enter Tryz.func180,Tryz.ntmps180
     go_wp2
     go_quiet (fail)
     go_wp2_with ((with_reducible refine(wfail g _ _ _ _ _ _ _ _ (h.drewN _)).mono ?_);rintro e w2 ⟨rfl,hr2,hg2⟩)
     go_ret
     exact⟨rfl,hr2,(grown_drewN (World.grownBy.refl _ _) _).trans hg2⟩
 · have hb1:(s.e !=0)=true:=by simp[h1]
   have hs:rFlag l s=(false,s):=by unfold rFlag;rw[if_pos h1]
   rw[hs]
   clear hs
   go_enter Tryz.func180,Tryz.ntmps180
   go_wp2
   go_ret
   exact⟨rfl,h,World.grownBy.refl _ _⟩
end Go.Proofs.YthdmanadhbpogaaGreat
/- The walks of a coder that reads and meets no fault: numbers, numbers of transactions. -/
namespace Go.Proofs.YthdmanadhbpogaaGreat
set_option maxHeartbeats 1000000
set_option maxRecDepth 100000
set_option linter.unusedVariables false
open Go.RowKit Fl
attribute [local go_sem] run_store_float
structure CR (w:World) (g:Nat) (A:Option Addr) (n c:Nat) (l:List UInt8) (s:RS) (gc:Nat):Prop where
 rd:Rd 136 w g A n c l s
 blk:Blk w gc 109 #[.pointer none,.pointer (some ⟨g,0,none⟩)]
 ne:gc≠g
 ad:∀a,A=some a→0<n→a.block≠gc
structure Two2 (w w':World) (g b:Nat):Prop where
 os:w'.os=w.os
 tape:w'.tape=w.tape
 output:w'.output=w.output
 size:w.heap.size≤w'.heap.size
 block:∀k,k<w.heap.size→k≠g→k≠b→w'.heap[k]?=w.heap[k]?
theorem Two2.trans {w w1 w2:World} {g b:Nat} (h:Two2 w w1 g b) (k:Two2 w1 w2 g b):Two2 w w2 g b:=
 ⟨k.os.trans h.os,k.tape.trans h.tape,k.output.trans h.output,Nat.le_trans h.size k.size,fun i hi h1 h2=>(k.block i (Nat.lt_of_lt_of_le hi h.size) h1 h2).trans (h.block i hi h1 h2)⟩
theorem Two2.below {w w':World} {g b B:Nat} (h:Two2 w w' g b) (hg:B≤g) (hb:B≤b) (hB:B≤w.heap.size):Below B w w':=
 ⟨h.os,h.tape,h.output,h.size,fun k hk=>h.block k (by omega) (by omega) (by omega)⟩
theorem Two2.ofBelow {w w':World} (g b:Nat) (h:Below w.heap.size w w'):Two2 w w' g b:=⟨h.os,h.tape,h.output,h.size,fun k hk _ _=>h.block k hk⟩
theorem CR.below {w w':World} {g gc:Nat} {A:Option Addr} {n c:Nat} {l:List UInt8} {s:RS} (h:CR w g A n c l s gc) (hb:Below w.heap.size w w'):CR w' g A n c l s gc:=
 ⟨h.rd.below hb,h.blk.below hb h.blk.lt,h.ne,h.ad⟩
theorem look_ok (w:World) (g:Nat) (A:Option Addr) (n c:Nat) (l:List UInt8) (s:RS) (gc:Nat) (h:CR w g A n c l s gc) (hs:s.e=0):
 Calls Tryz.prog 174 #[.pointer (some ⟨gc,0,none⟩)] w fun e w'=>e=.returned (.tuple #[])∧∃q,w.drewN q=w':=by
 have c1:=cl (h.blk.cell 1)
 have hF:=wRFault g A n c l s w h.rd
 rw[hs]at hF
 go_enter Tryz.func174,Tryz.ntmps174
 go_wp2_with ((with_reducible refine hF.mono ?_);rintro e w1 ⟨rfl,q,rfl⟩)
 go_end0
 exact⟨rfl,q,rfl⟩
end Go.Proofs.YthdmanadhbpogaaGreat
/- The walk of (*wire.Reader).Float. -/
namespace Go.Proofs.YthdmanadhbpogaaGreat
set_option maxHeartbeats 4000000
set_option maxRecDepth 100000
open Go.RowKit Fl
theorem leV_lt:∀bs:List UInt8,leV bs<256^bs.length:=by
 intro bs
 induction bs with
 |nil=>simp[leV]
 |cons c t ih=>
  have:=c.toNat_lt
  simp only[leV,List.length_cons,Nat.pow_succ]
  omega
theorem drop_one {l:List UInt8} {k m:Nat} {x:UInt8} (hx:l[k]?=some x):(l.drop k).take (m+1)=x::(l.drop (k+1)).take m:=by
 have hlt:=(List.getElem?_eq_some_iff.1 hx).1
 rw[List.drop_eq_getElem_cons hlt,(List.getElem?_eq_some_iff.1 hx).2];rfl
theorem shl_or (u:Nat) (x:UInt8) (h:u*256<18446744073709551616):bits .or .u64 (IntKind.u64.wrap ((u:Int)*256)) (x.toNat:Int)=((x.toNat+256*u:Nat):Int):=by
 have hx:=x.toNat_lt
 have e:IntKind.u64.wrap ((u:Int)*256)=((u*256:Nat):Int):=by rw[IntKind.wrap_u64];omega
 rw[e,Go.u64_or_nat _ _ h (by omega)]
 congr 1
 rw[Go.nat_join 8 _ _ (by simp) hx,Nat.add_comm]
 omega
theorem canonB_idem (a:Nat):canonB (canonB a)=canonB a:=by
 by_cases h:dnan a=true
 · have e:canonB a=9221120237041090560:=by simp[canonB,h]
   rw[e];unfold canonB;split<;>rfl
 · have e:canonB a=a:=by simp[canonB,h]
   rw[e,e]
theorem nof (a:Nat) (w:World):
 Calls Tryz.prog 205 #[.int .u64 (a:Int)] w fun e w'=>e=.returned (.float .f64 (canonB a))∧w=w':=by
 go_enter Tryz.func205,Tryz.ntmps205
 go_wp2_with ((with_reducible refine(canon _ _).mono ?_);rintro e w' ⟨rfl,rfl⟩)
 go_ret
 exact⟨rfl,rfl⟩
def RdFloatRel (l:List UInt8) (a:Nat) (w:World) (u i:Value) (wr:World):Prop:=
 ∃(k:Nat) (q:Nat),k≤8∧w.drewN q=wr∧i=.int .i64 ((k:Int)-1)∧u=.int .u64 ((leV ((l.drop (a+k)).take (8-k)):Nat):Int)
theorem wRFloat (g:Nat) (A:Option Addr) (n c:Nat) (l:List UInt8) (s:RS) (w:World) (h:Rd 136 w g A n c l s):
 Calls Tryz.prog 182 #[.pointer (some ⟨g,0,none⟩)] w (RdPost 136 w g A n c l (.float .f64 (rFloat l s).1) (rFloat l s).2):=by
 obtain⟨hgl,c0,c1,c2,c3,f0,f1,f2,f3⟩:=h.blk.four
 have hnc:=h.nc
 have hlen:=h.len
 have hsm:=h.small
 have hal:=h.at_le
 by_cases h1:s.e=0
 · have hb1:(s.e !=0)=false:=by simp[h1]
   have hw1:IntKind.i64.wrap ((n:Int)-(s.at_:Int))=(n:Int)-(s.at_:Int):=by rw[IntKind.wrap_i64];omega
   by_cases h2:n-s.at_<8
   · have hs:rFloat l s=(0,rFail s 5 l.length):=by unfold rFloat;rw[if_neg (by simp[h1]),if_pos (by omega)]
     rw[hs,hlen]
     have hb2:decide ((n:Int)-(s.at_:Int)<8)=true:=by simp;omega
     clear hs h1 hlen
     go_enter Tryz.func182,Tryz.ntmps182
     go_wp2
     go_quiet (fail)
     go_wp2_with ((with_reducible refine(wfail g _ _ _ _ _ _ _ _ (h.drewN _)).mono ?_);rintro e w2 ⟨rfl,hr2,hg2⟩)
     go_ret
     exact⟨rfl,hr2,(grown_drewN (World.grownBy.refl _ _) _).trans hg2⟩
   · have hb2:decide ((n:Int)-(s.at_:Int)<8)=false:=by simp;omega
     have hs:rFloat l s=if canonB (leV ((l.drop s.at_).take 8))≠leV ((l.drop s.at_).take 8) then (0,rFail s 4 s.at_) else (leV ((l.drop s.at_).take 8),⟨s.at_+8,s.e,s.p⟩):=by
        unfold rFloat;rw[if_neg (by simp[h1]),if_neg (by omega)]
     have HS:=Lib.hid hs
     have hmv:=h.moved (k:=s.at_+8) (by omega)
     rw[Int.natCast_add]at hmv
     have hgr:=grown_set w g 1 (.int .i64 ((s.at_:Int)+8))
     clear hs h1
     go_enter Tryz.func182,Tryz.ntmps182
     go_wp2
     go_quiet (fail)
     go_wp2
     go_loopw [3,4] (fun u i wr=>RdFloatRel l s.at_ w u i wr) (fun _ i _=>(intOf i+1).toNat)
     case atStart=>exact⟨8,_,by omega,rfl,rfl,by simp[leV]⟩
     case round=>
        obtain⟨k,q,hk,rfl,rfl,rfl⟩:=hrel
        rcases k with _|j
        · have e:((0:Nat):Int)-1= -1:=rfl
          rw[e]
          simp only[Nat.add_zero,Nat.sub_zero]at*
          have hci:=canonB_idem (leV ((l.drop s.at_).take 8))
          have hcl:canonB (leV ((l.drop s.at_).take 8))<18446744073709551616:=canonB_lt (by
           have:=leV_lt ((l.drop s.at_).take 8)
           rw[List.length_take,List.length_drop,show min 8 (l.length-s.at_)=8 from by omega]at this
           exact this)
          generalize leV ((l.drop s.at_).take 8)=u at*
          by_cases h5:canonB u=u
          · rw[if_neg (by simp[h5])]at HS
            have hb5:((canonB u:Int) !=(u:Int))=false:=by simp[h5]
            have hnb:=nbits (canonB u) (w.drewN q)
            rw[hci]at hnb
            clear hci
            have H5:=Lib.hid h5
            clear h5
            go_wp2_with (first|((with_reducible refine(nof _ _).mono ?_);rintro e w' ⟨rfl,rfl⟩)|((with_reducible refine hnb.mono ?_);rintro e w' ⟨rfl,rfl⟩))
            go_ret
            rw[HS.out,H5.out]
            exact⟨rfl,hmv.drewN _,grown_drewN hgr _⟩
          · rw[if_pos h5]at HS
            have hb5:((canonB u:Int) !=(u:Int))=true:=by simp;omega
            have hnb:=nbits (canonB u) (w.drewN q)
            rw[hci]at hnb
            clear hci
            go_wp2_with (first|((with_reducible refine(nof _ _).mono ?_);rintro e w' ⟨rfl,rfl⟩)|((with_reducible refine hnb.mono ?_);rintro e w' ⟨rfl,rfl⟩)|((with_reducible refine(wfail g _ _ _ _ _ _ _ _ (h.drewN _)).mono ?_);rintro e w2 ⟨rfl,hr2,hg2⟩))
            go_ret
            rw[HS.out]
            exact⟨rfl,hr2,(grown_drewN (World.grownBy.refl _ _) _).trans hg2⟩
        · have e:((j+1:Nat):Int)-1=(j:Int):=by omega
          rw[e]
          obtain⟨ad,x,rfl,hadl,hx,hcell⟩:=h.cell (k:=s.at_+j) (by omega)
          have hxl:=x.toNat_lt
          have hin:(s.at_:Int)+(j:Int)<(n:Int):=by omega
          have hwr:IntKind.i64.wrap ((s.at_:Int)+(j:Int))=(s.at_:Int)+(j:Int):=by rw[IntKind.wrap_i64];omega
          go_wp2
          go_quiet (fail)
          go_wp2
          go_roundw
          case rel=>
           refine⟨j,q+nq,by omega,rfl,rfl,?_⟩
           have hlt:=leV_lt ((l.drop (s.at_+(j+1))).take (7-j))
           have hpw:256^((l.drop (s.at_+(j+1))).take (7-j)).length≤256^7:=Nat.pow_le_pow_right (by omega) (by rw[List.length_take];omega)
           rw[show (256:Nat)^7=72057594037927936 from rfl]at hpw
           rw[shl_or _ _ (by omega),show 8-j=(7-j)+1 from by omega,drop_one hx];rfl
          case measure=>simp[intOf]
 · have hb1:(s.e !=0)=true:=by simp[h1]
   have hs:rFloat l s=(0,s):=by unfold rFloat;rw[if_pos h1]
   rw[hs]
   clear hs
   go_enter Tryz.func182,Tryz.ntmps182
   go_wp2
   go_ret
   exact⟨rfl,h,World.grownBy.refl _ _⟩
end Go.Proofs.YthdmanadhbpogaaGreat
/- Words of a coder that reads: a place in a block that is read into, what a reading function leaves; rows that grow by what is read. -/
namespace Go.Proofs.YthdmanadhbpogaaGreat
set_option linter.unusedVariables false
open Go.RowKit Fl
def put (cs:Array Value) (i:Nat):List Value→Array Value
 |[]=>cs
 |u::us=>put (cs.setIfInBounds i u) (i+1) us
theorem put_size:∀(us:List Value) (cs:Array Value) (i:Nat),(put cs i us).size=cs.size
 |[],cs,i=>rfl
 |u::us,cs,i=>by unfold put;rw[put_size us];exact Array.size_setIfInBounds
theorem put_app:∀(a b:List Value) (cs:Array Value) (i:Nat),put cs i (a++b)=put (put cs i a) (i+a.length) b
 |[],b,cs,i=>rfl
 |u::us,b,cs,i=>by
  show put _ _ (us++b)=put (put _ _ us) _ b
  rw[put_app us b]
  congr 1
  rw[List.length_cons];omega
theorem put_out:∀(us:List Value) (cs:Array Value) (i j:Nat),(j<i∨i+us.length≤j)→(put cs i us)[j]?=cs[j]?
 |[],cs,i,j,h=>rfl
 |u::us,cs,i,j,h=>by
  rw[List.length_cons]at h
  show (put _ _ us)[j]?=_
  rw[put_out us _ _ _ (by omega),Array.getElem?_setIfInBounds_ne (by omega)]
theorem put_in:∀(us:List Value) (cs:Array Value) (i j:Nat) (u:Value),us[j]?=some u→i+us.length≤cs.size→(put cs i us)[i+j]?=some u
 |[],cs,i,j,u,h,_=>by cases h
 |a::us,cs,i,j,u,h,hs=>by
  rw[List.length_cons]at hs
  show (put _ _ us)[i+j]?=_
  cases j with
  |zero=>
   rw[put_out us _ _ _ (by omega)]
   simp only[List.getElem?_cons_zero,Option.some.injEq]at h
   rw[Nat.add_zero,Array.getElem?_setIfInBounds_self_of_lt (by omega),h]
  |succ j=>
   have e:i+(j+1)=i+1+j:=by omega
   rw[e]
   exact put_in us _ _ _ _ (by simpa using h) (by rw[Array.size_setIfInBounds];omega)
theorem put_take (us:List Value) (cs:Array Value) (i:Nat) (h:i+us.length≤cs.size):(put cs i us).toList.take (i+us.length)=cs.toList.take i++us:=by
 apply List.ext_getElem?
 intro j
 by_cases h1:j<i
 · rw[List.getElem?_take_of_lt (by omega),List.getElem?_append_left (by simp;omega),List.getElem?_take_of_lt h1,Array.getElem?_toList,Array.getElem?_toList,put_out us cs i j (.inl h1)]
 · by_cases h2:j<i+us.length
   · have hl:(cs.toList.take i).length=i:=by simp;omega
     have hu:us[j-i]?=some us[j-i]:=List.getElem?_eq_getElem (by omega)
     rw[List.getElem?_take_of_lt h2,List.getElem?_append_right (by omega),hl,hu,Array.getElem?_toList]
     have:=put_in us cs i (j-i) _ hu h
     rwa [show i+(j-i)=j by omega]at this
   · rw[List.getElem?_eq_none (by rw[List.length_take];omega),List.getElem?_eq_none (by simp;omega)]
theorem put_all (us:List Value) (cs:Array Value) (h:us.length=cs.size):put cs 0 us=us.toArray:=by
 have h1:=put_take us cs 0 (by omega)
 rw[Nat.zero_add,List.take_of_length_le (by rw[Array.length_toList,put_size];omega)]at h1
 apply Array.toList_inj.1
 rw[h1];rfl
theorem Blk.puts {t:TypeId} {b:Nat}:∀(us:List Value) (w:World) (cs:Array Value) (i:Nat),Blk w b t cs→Blk (w.setCells b i us) b t (put cs i us)
 |[],w,cs,i,h=>h
 |u::us,w,cs,i,h=>Blk.puts us _ _ _ (h.set_ i u)
theorem grown_puts (b:Nat):∀(us:List Value) (w:World) (i:Nat),w.grownBy (w.setCells b i us) (some b)
 |[],w,i=>World.grownBy.refl _ _
 |u::us,w,i=>(grown_set _ _ _ _).trans (grown_puts b us _ _)
theorem below_grown {w w':World} (h:Below w.heap.size w w') (r:Option Nat):w.grownBy w' r:=⟨h.os,h.tape,h.output,h.size,fun k hk _=>h.block k hk⟩
structure Dst (w:World) (A:Option Addr) (n g gc b:Nat) (t:TypeId) (cs:Array Value) (i:Nat) (z:List Value):Prop where
 blk:Blk w b t cs
 has:∀j u,z[j]?=some u→cs[i+j]?=some u
 ng:b≠g
 nc:b≠gc
 ap:∀a,A=some a→0<n→a.block≠b
section
variable {w w1 w2:World} {A:Option Addr} {n c g gc b i:Nat} {t:TypeId} {cs:Array Value} {x y z vs:List Value} {l:List UInt8} {s s':RS}
theorem Dst.fst (h:Dst w A n g gc b t cs i (x++y)):Dst w A n g gc b t cs i x:=
 ⟨h.blk,fun j u hj=>h.has j u (by rw[List.getElem?_append_left (List.getElem?_eq_some_iff.1 hj).1];exact hj),h.ng,h.nc,h.ap⟩
theorem Dst.snd (h:Dst w A n g gc b t cs i (x++y)) (hk:Blk w1 b t (put cs i vs)) (hl:vs.length=x.length):Dst w1 A n g gc b t (put cs i vs) (i+x.length) y:=
 ⟨hk,fun j u hj=>by
  rw[put_out _ _ _ _ (.inr (by omega)),Nat.add_assoc]
  exact h.has _ u (by rw[List.getElem?_append_right (by omega),Nat.add_sub_cancel_left];exact hj),h.ng,h.nc,h.ap⟩
theorem Dst.nxt {m:Nat} (h:Dst w A n g gc b t cs i (x++y)) (hk:Blk w1 b t (put cs i vs)) (hl:vs.length=m) (hx:x.length=m) (j:Nat) (hj:j=i+m):Dst w1 A n g gc b t (put cs i vs) j y:=by
 subst hj hx
 exact h.snd hk hl
theorem Dst.at0 (h:Dst w A n g gc b t cs i z) {u:Value} (hz:z[0]?=some u):w.cell? ⟨b,i,none⟩=some u:=(h.blk.cell i).trans (h.has 0 u hz)
theorem Two2.refl (w:World) (g b:Nat):Two2 w w g b:=⟨rfl,rfl,rfl,Nat.le_refl _,fun _ _ _ _=>rfl⟩
theorem Two2.left (h:w.grownBy w1 (some g)) (b:Nat):Two2 w w1 g b:=⟨h.os,h.tape,h.output,h.size,fun k hk h4 _=>h.block k hk (by intro e;exact h4 (by injection e))⟩
theorem Two2.right (h:w.grownBy w1 (some b)) (g:Nat):Two2 w w1 g b:=⟨h.os,h.tape,h.output,h.size,fun k hk _ h5=>h.block k hk (by intro e;exact h5 (by injection e))⟩
theorem CR.read (h:CR w g A n c l s gc) (hr:Rd 136 w1 g A n c l s') (hg:w.grownBy w1 (some g)):CR w1 g A n c l s' gc:=
 ⟨hr,h.blk.grown hg (by intro e;exact h.ne (by injection e)),h.ne,h.ad⟩
theorem CR.laid (h:CR w g A n c l s gc) (hg:w.grownBy w1 (some b)) (h1:b≠g) (h2:b≠gc) (h3:∀a,A=some a→0<n→a.block≠b):CR w1 g A n c l s gc:=
 ⟨h.rd.far hg (fun e=>h1 e.symm) h3,h.blk.grown hg (by intro e;exact h2 (by injection e with e;exact e.symm)),h.ne,h.ad⟩
end
abbrev stopP:Ending:=.panicked [{v:=.iface 114 (.agg #[]),recovered:=false}]
def RPost {α:Type} (R:Rel α) (size:Nat) (w:World) (g:Nat) (A:Option Addr) (n c:Nat) (l:List UInt8) (gc b:Nat) (t:TypeId) (cs:Array Value) (i:Nat) (x:α×RS):Ending→World→Prop:=fun e w'=>
 CR w' g A n c l x.2 gc∧Two2 w w' g b∧((x.2.e=0∧e=.returned (.tuple #[])∧∃vs,vs.length=size∧Blk w' b t (put cs i vs)∧Inn R (rng w.heap.size w'.heap.size) w' vs x.1)∨
    (x.2.e≠0∧e=stopP∧∃cs',cs'.size=cs.size∧Blk w' b t cs'))
def ElemR {α:Type} (F:Nat) (R:Rel α) (size:Nat) (z:List Value) (f:Rdf α):Prop:=
 ∀(w:World) (g:Nat) (A:Option Addr) (n c:Nat) (l:List UInt8) (s:RS) (gc b:Nat) (t:TypeId) (cs:Array Value) (i:Nat),CR w g A n c l s gc→s.e=0→Dst w A n g gc b t cs i z→
  Calls Tryz.prog F #[.pointer (some ⟨gc,0,none⟩),.pointer (some ⟨b,i,none⟩)] w (RPost R size w g A n c l gc b t cs i (f l s))
theorem RPost.bad {α:Type} {R:Rel α} {size:Nat} {w w1:World} {g:Nat} {A:Option Addr} {n c:Nat} {l:List UInt8} {gc b:Nat} {t:TypeId} {cs cs':Array Value} {i:Nat} {x:α×RS} {s':RS} (hs:x.2=s') (he:s'.e≠0) (h:CR w1 g A n c l s' gc) (ht:Two2 w w1 g b) (hl:cs'.size=cs.size) (hb:Blk w1 b t cs'):
 RPost R size w g A n c l gc b t cs i x stopP w1:=⟨by rw[hs];exact h,ht,.inr ⟨by rw[hs];exact he,rfl,cs',hl,hb⟩⟩
def LsRel {α:Type} (R:Rel α) (size:Nat):Rel (List α):=fun w B cs l=>∃v,cs=[v]∧HdRel R size w B v l
theorem LsRel.kept {α:Type} {R:Rel α} {size:Nat} (hR:R.Kept):(LsRel R size).Kept:=
 ⟨fun _ _ _ _ _ ⟨v,e,h⟩ hw=>⟨v,e,h.keep hR hw⟩,fun _ _ _ _ _ ⟨v,e,h⟩ hB=>⟨v,e,h.more hR hB⟩⟩
theorem LsRel.mono {α:Type} {R:Rel α} {size:Nat} (hR:R.Mono):(LsRel R size).Mono:=fun _ _ _ _ _ ⟨v,e,h⟩ hw=>⟨v,e,h.mono hR hw⟩
def ListR {α:Type} (F cl:Nat) (R:Rel α) (size:Nat) (f:Rdf α):Prop:=
 ∀(w:World) (g:Nat) (A:Option Addr) (n c:Nat) (l:List UInt8) (s:RS) (gc b:Nat) (t:TypeId) (cs:Array Value) (i:Nat),CR w g A n c l s gc→s.e=0→Dst w A n g gc b t cs i [.slice none 0 0]→
  Calls Tryz.prog F #[.pointer (some ⟨gc,0,none⟩),.pointer (some ⟨b,i,none⟩),.func (.func cl) #[.pointer (some ⟨gc,0,none⟩)] #[]] w (RPost (LsRel R size) 1 w g A n c l gc b t cs i (rLs f l s))
theorem Inn.on {α:Type} {R:Rel α} {w w1 w2:World} {g b:Nat} {vs:List Value} {a:α} (hR:R.Kept) (hm:R.Mono) (h:Inn R (rng w.heap.size w1.heap.size) w1 vs a) (ht:Two2 w1 w2 g b) (hg:g<w.heap.size) (hb:b<w.heap.size) {lo hi:Nat} (h1:lo≤w.heap.size) (h2:w1.heap.size≤hi):
 Inn R (rng lo hi) w2 vs a:=
 (h.keep hR (fun k hk=>by rw[rng_iff]at hk;exact ht.block k hk.2 (by omega) (by omega)) ht.size).wider hm fun k hk=>by rw[rng_iff]at*;omega
theorem own_last {w:World} {base E size k:Nat} {v:Value} {xs zs:List Value} (h:w.ownsRow base E size v (k+1) (xs++zs)) (hz:zs.length=size):∃(rb cap:Nat) (cur:Array Value),v=.slice (some ⟨rb,0,none⟩) (k+1) cap∧base≤rb∧Blk w rb E cur∧
 (∀j u,zs[j]?=some u→cur[k*size+j]?=some u)∧∀(w':World) (vs:List Value),vs.length=size→Blk w' rb E (put cur (k*size) vs)→w'.ownsRow base E size v (k+1) (xs++vs):=by
 obtain⟨hl,h|⟨rb,cap,cur,rfl,hb,hg,h1,h2,h3,h4⟩⟩:=h
 · omega
 · have hx:xs.length=k*size:=by rw[List.length_append,Nat.succ_mul]at hl;omega
   have hc:(k+1)*size≤cur.size:=by rw[h3];exact Nat.mul_le_mul_right _ h1
   rw[Nat.succ_mul]at hc
   refine⟨rb,cap,cur,rfl,hb,hg,fun j u hj=>?_,fun w' vs hv hk=>?_⟩
   · have hj':=(List.getElem?_eq_some_iff.1 hj).1
     have e:(cur.toList.take ((k+1)*size))[k*size+j]?=some u:=by rw[h4,List.getElem?_append_right (by omega),hx,Nat.add_sub_cancel_left];exact hj
     rw[List.getElem?_take_of_lt (by rw[Nat.succ_mul];omega),Array.getElem?_toList]at e
     exact e
   · subst hv
     refine⟨by rw[List.length_append,Nat.succ_mul];omega,.inr ⟨rb,cap,_,rfl,hb,hk,h1,h2,by rw[put_size];exact h3,?_⟩⟩
     rw[Nat.succ_mul,put_take vs cur _ (by omega)]
     congr 1
     have:=congrArg (List.take (k*vs.length)) h4
     rw[List.take_take,Nat.min_eq_left (by rw[Nat.succ_mul];omega),List.take_left' hx]at this
     exact this
theorem Single.push {α:Type} {R:Rel α} {E size base:Nat} {w:World} {v:Value} {l:List α} (hR:R.Kept) (hm:R.Mono) (h:Single R E size base w v l):∃xs,w.ownsRow base E size v l.length xs∧
 ∀(cs:List Value) (a:α) (w1 w2:World) (v':Value) (b:Nat),cs.length=size→w2.ownsRow base E size v' (l.length+1) (xs++cs)→w.grownBy w1 v.ownBlock→(v'.ownBlock=v.ownBlock∨v'.ownBlock=some w.heap.size)→v'.ownBlock=some b→b<w1.heap.size→
  (∀k,base≤k→k<w1.heap.size→k≠b→w2.heap[k]?=w1.heap[k]?)→w1.heap.size≤w2.heap.size→∀{lo:Nat},w1.heap.size≤lo→Inn R (rng lo w2.heap.size) w2 cs a→base≤w1.heap.size→Single R E size base w2 v' (l++[a]):=by
 obtain⟨⟨css,ho,hlen,hl,hc⟩,-,hd⟩:=h
 refine⟨css.flatten,ho,fun cs a w1 w2 v' b hcs hown hg hat hvb hbl ht hsz2 lo hlo hin hbase=>?_⟩
 have hsz:=hg.size
 have hnil:∀k:Nat,(Value.slice none 0 0).ownBlock≠some k:=fun k e=>by simp[Value.ownBlock]at e
 have hK:∀k,freeB base w.heap.size v (.slice none 0 0) k=true→freeB base w2.heap.size v' (.slice none 0 0) k=true∧w2.heap[k]?=w.heap[k]?:=fun k hk=>by
  rw[freeB_iff]at*
  have hkb:k≠b:=by
   rintro rfl
   rcases hat with e2|e2
   · rw[hvb]at e2;exact hk.2.2.1 e2.symm
   · rw[hvb]at e2;injection e2 with e2;omega
  refine⟨⟨hk.1,by omega,?_,hnil k⟩,(ht k hk.1 (by omega) hkb).trans (hg.block k hk.2.1 (fun e=>hk.2.2.1 e.symm))⟩
  rw[hvb]
  intro e;injection e with e;exact hkb e.symm
 refine⟨⟨css++[cs],?_,by simp[hlen],?_,?_⟩,RowR.nil _,fun k _=>hnil k⟩
 · rw[List.length_append,List.flatten_append]
   simpa using hown
 · intro c hc'
   rcases List.mem_append.1 hc' with h1|h1
   · exact hl c h1
   · simp only[List.mem_cons,List.not_mem_nil,or_false]at h1
     rw[h1];exact hcs
 · intro i c d h1 h2
   by_cases hi:i<l.length
   · rw[List.getElem?_append_left (by omega)]at h1 h2
     exact((hc i c d h1 h2).keep hR (fun k hk=>(hK k hk).2) (by omega)).wider hm fun k hk=>(hK k hk).1
   · have hi2:i=l.length:=by
        have:=(List.getElem?_eq_some_iff.1 h2).1
        rw[List.length_append,List.length_cons,List.length_nil]at this
        omega
     subst hi2
     rw[List.getElem?_append_right (Nat.le_refl _)]at h2
     rw[←hlen,List.getElem?_append_right (Nat.le_refl _)]at h1
     simp only[Nat.sub_self,List.getElem?_cons_zero,Option.some.injEq]at h1 h2
     subst h1 h2
     refine hin.wider hm fun k hk=>?_
     rw[rng_iff]at hk
     rw[freeB_iff,hvb]
     exact⟨by omega,hk.2,fun e=>by injection e;omega,hnil k⟩
theorem Single.nil {α:Type} {R:Rel α} {E size base:Nat} (w:World):Single R E size base w (.slice none 0 0) []:=Pair.nil _
theorem Single.form {α:Type} {R:Rel α} {E size base:Nat} {w:World} {v:Value} {l:List α} (h:Single R E size base w v l):∃A c,v=.slice A l.length c∧l.length≤c∧c≤maxLen:=Pair.form1 h
theorem Single.inn {α:Type} {R:Rel α} {E size base:Nat} {w:World} {v:Value} {l:List α} (hm:R.Mono) (hsz:0<size) (h:Single R E size base w v l):Inn (LsRel R size) (rng base w.heap.size) w [v] l:=⟨v,rfl,(Pair.held hm hsz h).1⟩
theorem Single.two {α:Type} {R:Rel α} {E size base g b:Nat} {w w':World} {v:Value} {l:List α} (hR:R.Kept) (hm:R.Mono) (h:Single R E size base w v l) (ht:Two2 w w' g b) (hg:g<base) (hb:b<base):Single R E size base w' v l:=
 Pair.same hR hm h ht.size fun k hk hk2=>ht.block k hk2 (by omega) (by omega)
theorem nmR_info:(Tryz.prog.info? 3).map (fun i=>(i.zero,i.size,i.bytes))=some (some (.int .i64 0),1,8):=by kernel_rfl
theorem prR_info:(Tryz.prog.info? 61).map (fun i=>(i.zero,i.size,i.bytes))=some (some (.agg #[.string ⟨#[]⟩,.int .i64 0,.float .f64 0,.string ⟨#[]⟩]),4,48):=by kernel_rfl
theorem leV_bound {l:List UInt8} (h:l.length≤8):leV l<18446744073709551616:=Nat.lt_of_lt_of_le (leV_lt l) (Nat.le_trans (Nat.pow_le_pow_right (by omega) h) (by decide))
theorem rInt_ok (l:List UInt8) (s:RS):i64ok (rInt l s).1:=by
 have h0:i64ok 0:=by unfold i64ok;omega
 unfold rInt
 split
 · exact h0
 · split
   · exact h0
   · exact h0
   · rename_i n next hd
     exact⟨(dec_ok hd).2.2.2.2.1,(dec_ok hd).2.2.2.2.2⟩
theorem rFloat_ok (l:List UInt8) (s:RS):(rFloat l s).1<18446744073709551616:=by
 unfold rFloat
 split
 · omega
 · split
   · omega
   · simp only
     split
     · omega
     · exact leV_bound (by rw[List.length_take];omega)
theorem rCount_ok (l:List UInt8) (s:RS) (m e:Int):i64ok (rCount l s m e).1∧0≤(rCount l s m e).1∧(0≤m→(rCount l s m e).1≤m):=by
 have h0:i64ok 0∧(0:Int)≤0∧(0≤m→0≤m):=⟨by unfold i64ok;omega,by omega,id⟩
 unfold rCount
 split
 · exact h0
 · split
   · exact h0
   · exact h0
   · rename_i n next hd
     split
     · exact h0
     · split
       · exact h0
       · exact⟨⟨(dec_ok hd).2.2.2.2.1,(dec_ok hd).2.2.2.2.2⟩,by simp only;omega,fun _=>by simp only;omega⟩
theorem rText_le (l:List UInt8) (s:RS) (m:Int):(rText l s m).1.length≤l.length:=by
 have h0:([]:List UInt8).length≤l.length:=Nat.zero_le _
 unfold rText
 split
 · exact h0
 · split
   · exact h0
   · exact h0
   · split
     · exact h0
     · split
       · exact h0
       · split
         · exact h0
         · simp only[List.length_take,List.length_drop];omega
theorem rKy_ok (l:List UInt8) (s:RS) (m:Int) (h:l.length≤1000000000000):(rKy m l s).1.size≤140737488351232:=by
 have:=rText_le l s m
 show (rText l s m).1.toArray.size≤_
 rw[List.size_toArray];omega
theorem rVl_ok (l:List UInt8) (s:RS) (h:l.length≤1000000000000):(rVl l s).1.ok:=by
 have h0:(⟨0,0,⟨#[]⟩⟩:Vl).ok:=⟨(by unfold i64ok;omega:i64ok 0),by show 0<_;omega,Nat.zero_le _⟩
 have i1:i64ok 1:=by unfold i64ok;omega
 have i2:i64ok 2:=by unfold i64ok;omega
 unfold rVl
 split
 · exact h0
 · unfold rVl0
   split
   · exact⟨i1,rFloat_ok _ _,Nat.zero_le _⟩
   · split
     · exact⟨i2,by show 0<_;omega,rKy_ok _ _ _ h⟩
     · exact⟨(rCount_ok _ _ _ _).1,by show 0<_;omega,Nat.zero_le _⟩
end Go.Proofs.YthdmanadhbpogaaGreat
/- The walks of a coder that reads: numbers, flags, floats, texts, values, stamps, numbers of transactions. -/
namespace Go.Proofs.YthdmanadhbpogaaGreat
set_option maxHeartbeats 1000000
set_option maxRecDepth 100000
set_option linter.unusedVariables false
open Go.RowKit Fl
attribute [local go_sem] run_store_float
def LookPost (s:RS) (w:World):Ending→World→Prop:=fun e w'=>(∃q,w.drewN q=w')∧((s.e=0∧e=.returned (.tuple #[]))∨(s.e≠0∧e=stopP))
theorem look_any (w:World) (g:Nat) (A:Option Addr) (n c:Nat) (l:List UInt8) (s:RS) (gc:Nat) (h:CR w g A n c l s gc):
 Calls Tryz.prog 174 #[.pointer (some ⟨gc,0,none⟩)] w (LookPost s w):=by
 by_cases hs:s.e=0
 · refine(look_ok w g A n c l s gc h hs).mono ?_
   rintro e w1 ⟨rfl,hq⟩
   exact⟨hq,.inl ⟨hs,rfl⟩⟩
 · have c1:=cl (h.blk.cell 1)
   have hF:=wRFault g A n c l s w h.rd
   have hb:(s.e==0)=false:=by simp[hs]
   go_enter Tryz.func174,Tryz.ntmps174
   go_wp2_with ((with_reducible refine hF.mono ?_);rintro e w1 ⟨rfl,q,rfl⟩)
   exact⟨rfl,⟨q,rfl⟩,.inr ⟨hs,rfl⟩⟩
theorem laid {α:Type} {R:Rel α} {vs z:List Value} {x:α×RS} {w w1:World} {g:Nat} {A:Option Addr} {n c:Nat} {l:List UInt8} {s:RS} {gc b:Nat} {t:TypeId} {cs:Array Value} {i:Nat} (h:CR w g A n c l s gc) (D:Dst w A n g gc b t cs i z)
 (hr:Rd 136 w1 g A n c l x.2) (hg:w.grownBy w1 (some g)) (hR:∀(K:Nat→Bool) (W:World),Inn R K W vs x.1):
 CR (w1.setCells b i vs) g A n c l x.2 gc∧∀e w',LookPost x.2 (w1.setCells b i vs) e w'→RPost R vs.length w g A n c l gc b t cs i x e w':=by
 have hp:=grown_puts b vs w1 i
 have hc:=(h.read hr hg).laid hp D.ng D.nc D.ap
 have k1:Blk w1 b t cs:=D.blk.grown hg (by intro e;exact D.ng (by injection e))
 refine⟨hc,?_⟩
 rintro e w' ⟨⟨q,rfl⟩,h2⟩
 have hD:Below (w1.setCells b i vs).heap.size (w1.setCells b i vs) ((w1.setCells b i vs).drewN q):=belowN _
 have k2:=(k1.puts vs _ _ i).below hD (k1.puts vs _ _ i).lt
 refine⟨hc.below hD,((Two2.left hg b).trans (Two2.right hp g)).trans (Two2.ofBelow g b hD),?_⟩
 rcases h2 with ⟨he,rfl⟩|⟨he,rfl⟩
 · exact .inl ⟨he,rfl,vs,rfl,k2,hR _ _⟩
 · exact .inr ⟨he,rfl,_,put_size _ _ _,k2⟩
theorem rcInt:ElemR 121 NmRel 1 [.int .i64 0] rInt:=by
 intro w g A n c l s gc b t cs i h hs D
 have c0:=cl (h.blk.cell 0)
 have c1:=cl (h.blk.cell 1)
 go_enter Tryz.func121,Tryz.ntmps121
 go_wp2_with fail
 refine(wRInt g A n c l s w h.rd).mono ?_
 rintro e w1 ⟨rfl,hrd,hg⟩
 have k1:Blk w1 b t cs:=D.blk.grown hg (by intro e;exact D.ng (by injection e))
 have z1:w1.cell? ⟨b,i,none⟩=some (.int .i64 0):=(k1.cell i).trans (D.has 0 _ rfl)
 have f1:=k1.frozen i
 obtain⟨hc2,hP⟩:=laid (R:=NmRel) (vs:=[.int .i64 (rInt l s).1]) (x:=rInt l s) h D hrd hg (fun K W=>⟨rfl,rInt_ok l s⟩)
 go_wp2_with fail
 refine(look_any _ g A n c l _ gc hc2).mono ?_
 rintro e w2 ⟨⟨q,rfl⟩,⟨he,rfl⟩|⟨he,rfl⟩⟩
 · go_wp2
   go_end0
   exact hP _ _ ⟨⟨q,rfl⟩,.inl ⟨he,rfl⟩⟩
 · go_wp2
   exact⟨rfl,hP _ _ ⟨⟨q,rfl⟩,.inr ⟨he,rfl⟩⟩⟩
theorem rcFlag:ElemR 125 BoRel 1 [.bool false] rFlag:=by
 intro w g A n c l s gc b t cs i h hs D
 have c0:=cl (h.blk.cell 0)
 have c1:=cl (h.blk.cell 1)
 go_enter Tryz.func125,Tryz.ntmps125
 go_wp2_with fail
 refine(wRFlag g A n c l s w h.rd).mono ?_
 rintro e w1 ⟨rfl,hrd,hg⟩
 have k1:Blk w1 b t cs:=D.blk.grown hg (by intro e;exact D.ng (by injection e))
 have z1:w1.cell? ⟨b,i,none⟩=some (.bool false):=(k1.cell i).trans (D.has 0 _ rfl)
 have f1:=k1.frozen i
 obtain⟨hc2,hP⟩:=laid (R:=BoRel) (vs:=[.bool (rFlag l s).1]) (x:=rFlag l s) h D hrd hg (fun K W=>⟨rfl,trivial⟩)
 go_wp2_with fail
 refine(look_any _ g A n c l _ gc hc2).mono ?_
 rintro e w2 ⟨⟨q,rfl⟩,⟨he,rfl⟩|⟨he,rfl⟩⟩
 · go_wp2
   go_end0
   exact hP _ _ ⟨⟨q,rfl⟩,.inl ⟨he,rfl⟩⟩
 · go_wp2
   exact⟨rfl,hP _ _ ⟨⟨q,rfl⟩,.inr ⟨he,rfl⟩⟩⟩
theorem rcFloat:ElemR 127 FlRel 1 [.float .f64 0] rFloat:=by
 intro w g A n c l s gc b t cs i h hs D
 have c0:=cl (h.blk.cell 0)
 have c1:=cl (h.blk.cell 1)
 go_enter Tryz.func127,Tryz.ntmps127
 go_wp2_with fail
 refine(wRFloat g A n c l s w h.rd).mono ?_
 rintro e w1 ⟨rfl,hrd,hg⟩
 have k1:Blk w1 b t cs:=D.blk.grown hg (by intro e;exact D.ng (by injection e))
 have z1:w1.cell? ⟨b,i,none⟩=some (.float .f64 0):=(k1.cell i).trans (D.has 0 _ rfl)
 have f1:=k1.frozen i
 obtain⟨hc2,hP⟩:=laid (R:=FlRel) (vs:=[.float .f64 (rFloat l s).1]) (x:=rFloat l s) h D hrd hg (fun K W=>⟨rfl,rFloat_ok l s⟩)
 go_wp2_with fail
 refine(look_any _ g A n c l _ gc hc2).mono ?_
 rintro e w2 ⟨⟨q,rfl⟩,⟨he,rfl⟩|⟨he,rfl⟩⟩
 · go_wp2
   go_end0
   exact hP _ _ ⟨⟨q,rfl⟩,.inl ⟨he,rfl⟩⟩
 · go_wp2
   exact⟨rfl,hP _ _ ⟨⟨q,rfl⟩,.inr ⟨he,rfl⟩⟩⟩
theorem rcText:ElemR 176 KyRel 1 [.string ⟨#[]⟩] rKey:=by
 intro w g A n c l s gc b t cs i h hs D
 have c0:=cl (h.blk.cell 0)
 have c1:=cl (h.blk.cell 1)
 go_enter Tryz.func176,Tryz.ntmps176
 go_wp2_with fail
 refine(wRText g A n c l s 262144 w h.rd).mono ?_
 rintro e w1 ⟨rfl,hrd,hg⟩
 have k1:Blk w1 b t cs:=D.blk.grown hg (by intro e;exact D.ng (by injection e))
 have z1:w1.cell? ⟨b,i,none⟩=some (.string ⟨#[]⟩):=(k1.cell i).trans (D.has 0 _ rfl)
 have f1:=k1.frozen i
 obtain⟨hc2,hP⟩:=laid (R:=KyRel) (vs:=[.string (rKey l s).1]) (x:=rKey l s) h D hrd hg (fun K W=>⟨rfl,rKy_ok l s _ (by have:=h.rd.len;have:=h.rd.small;omega)⟩)
 go_wp2_with fail
 refine(look_any _ g A n c l _ gc hc2).mono ?_
 rintro e w2 ⟨⟨q,rfl⟩,⟨he,rfl⟩|⟨he,rfl⟩⟩
 · go_wp2
   go_end0
   exact hP _ _ ⟨⟨q,rfl⟩,.inl ⟨he,rfl⟩⟩
 · go_wp2
   exact⟨rfl,hP _ _ ⟨⟨q,rfl⟩,.inr ⟨he,rfl⟩⟩⟩
end Go.Proofs.YthdmanadhbpogaaGreat
/- The walks of datum.Get and of a coder that reads a value. -/
namespace Go.Proofs.YthdmanadhbpogaaGreat
set_option maxHeartbeats 8000000
set_option maxRecDepth 100000
set_option linter.unusedVariables false
open Go.RowKit Fl
attribute [local go_sem] run_store_float
abbrev vArr (k:Int) (a:Nat) (t:ByteArray):Array Value:=#[.int .i64 k,.float .f64 a,.string t]
theorem dget (g:Nat) (A:Option Addr) (n c:Nat) (l:List UInt8) (s:RS) (w:World) (h:Rd 136 w g A n c l s):
 Calls Tryz.prog 207 #[.pointer (some ⟨g,0,none⟩)] w (RdPost 136 w g A n c l (rVl l s).1.val (rVl l s).2):=by
 have hb0:Below w.heap.size w (w.alloc (.cells (vArr 0 0 ⟨#[]⟩) 58)):=by go_grown
 have h0:=h.below hb0
 have gl:=h.blk.lt
 have B0:=Blk.new w 58 (vArr 0 0 ⟨#[]⟩)
 go_enter Tryz.func207,Tryz.ntmps207
 go_wp2_with fail
 refine(wRChoice g A n c l s 2 _ h0).mono ?_
 rintro e w1 ⟨rfl,h1,hg1⟩
 have B1:=B0.grown hg1 (by intro e;injection e with e;omega)
 have hg:=(below_grown hb0 (some g)).trans hg1
 have hs1:=hg.size
 have hgl1:g<w1.heap.size:=by omega
 have hbl1:=B1.lt
 have had:∀a,A=some a→0<n→a.block≠w1.heap.size:=fun a ha hn=>by
  obtain⟨ad,e,hlt,_⟩:=h.reads.2 hn
  rw[ha]at e
  obtain rfl:=Option.some.inj e
  omega
 have hX:Below w1.heap.size w1 (w1.alloc (.cells (vArr (rCount l s 2 4).1 0 ⟨#[]⟩) 58)):=by go_grown
 have hV:rVl l s=(if (rVl0 l s).2.e≠0 then (⟨0,0,⟨#[]⟩⟩,(rVl0 l s).2) else rVl0 l s):=rfl
 have hV0:rVl0 l s=if (rCount l s 2 4).1=1 then (⟨1,(rFloat l (rCount l s 2 4).2).1,⟨#[]⟩⟩,(rFloat l (rCount l s 2 4).2).2) else if (rCount l s 2 4).1=2 then (⟨2,0,(rKy 64 l (rCount l s 2 4).2).1⟩,(rKy 64 l (rCount l s 2 4).2).2) else (⟨(rCount l s 2 4).1,0,⟨#[]⟩⟩,(rCount l s 2 4).2):=rfl
 clear hg1 hb0 h0 B0
 generalize rVl l s=res at*
 generalize rVl0 l s=res0 at*
 generalize rCount l s 2 4=kd at*
 obtain⟨k,s1⟩:=kd
 simp only at*
 have h2:=h1.below hX
 have B2:=B1.below hX B1.lt
 have C2:=Blk.new w1 58 (vArr k 0 ⟨#[]⟩)
 have hg2:=hg.trans (below_grown hX (some g))
 have hgs:∀(W:World) (i:Nat) (u:Value),w.grownBy W (some g)→w.grownBy (W.setCell ⟨w1.heap.size,i,none⟩ u) (some g):=fun W i u hh=>⟨hh.os,hh.tape,hh.output,by have:=hh.size;simpa [World.setCell] using this,fun j hj hne=>(Below.heap_setCell W _ _ _ (by simp;omega)).trans (hh.block j hj hne)⟩
 have hgr:∀(W:World) (us:Array Value),w.grownBy W (some g)→w.grownBy (W.setRow w.heap.size us) (some g):=fun W us hh=>by
  have hb:=below_setRow (Below.refl w.heap.size W) (Nat.le_refl _) us
  exact⟨hb.os.trans hh.os,hb.tape.trans hh.tape,hb.output.trans hh.output,Nat.le_trans hh.size hb.size,fun j hj hne=>(hb.block j hj).trans (hh.block j hj hne)⟩
 clear hg hX B1 h1
 have HV:=Lib.hid hV
 clear hV
 by_cases hk1:k=1
 · subst hk1
   rw[if_pos rfl]at hV0
   have HV0:=Lib.hid hV0
   clear hV0
   go_wp2_with fail
   refine(wRFloat g A n c l s1 _ h2).mono ?_
   rintro e w3 ⟨rfl,h3,hg3⟩
   have B3:=B2.grown hg3 (by intro e;injection e with e;omega)
   have C3:=C2.grown hg3 (by intro e;injection e with e;omega)
   have z3:=cl (C3.cell 1)
   have f3:=C3.frozen 1
   have hg4:=hgs _ 1 (.float .f64 (rFloat l s1).1) (hg2.trans hg3)
   have h4:=h3.far (grown_set w3 w1.heap.size 1 (.float .f64 (rFloat l s1).1)) (by omega) had
   have B4:=B3.far (p:=⟨w1.heap.size,1,none⟩) (by simp;omega) (.float .f64 (rFloat l s1).1)
   have C4:=C3.set_ 1 (.float .f64 (rFloat l s1).1)
   generalize rFloat l s1=x at*
   clear C2 B2 h2 hg2 hg3 h3 hgs
   have hF:=wRFault g A n c l _ _ h4
   go_wp2_with fail
   refine hF.mono ?_
   rintro e w5 ⟨rfl,q,rfl⟩
   have hD:Below (w3.setCell ⟨w1.heap.size,1,none⟩ (.float .f64 x.1)).heap.size (w3.setCell ⟨w1.heap.size,1,none⟩ (.float .f64 x.1)) ((w3.setCell ⟨w1.heap.size,1,none⟩ (.float .f64 x.1)).drewN q):=belowN _
   have h5:=h4.below hD
   have B5:=B4.below hD B4.lt
   have C5:=C4.below hD C4.lt
   have hg5:=hg4.trans (below_grown hD (some g))
   clear h4 B4 C4 hg4 hD hF C3 B3 z3 f3
   generalize (w3.setCell ⟨w1.heap.size,1,none⟩ (.float .f64 x.1)).drewN q=W at*
   have C5':Blk W w1.heap.size 58 (vArr 1 x.1 ⟨#[]⟩):=C5
   by_cases he:x.2.e=0
   · have he1:(x.2.e==0)=true:=by simp[he]
     have HR:=Lib.hid (show res=(⟨1,x.1,⟨#[]⟩⟩,x.2) by have:=HV.out;rw[HV0.out]at this;rw[this,if_neg (by simp[he])])
     go_wp2_with (first
        |(guard_target=~ wpList _ _ _ _ _ _;refine wpList_load_row rfl 58 _ rfl w1.heap.size (by kernel_rfl) _ _ (0,0) _ C5' rfl rfl (by kernel_rfl) ?_)
        |(guard_target=~ wpList _ _ _ _ _ _;refine wpList_store_row rfl 58 _ _ rfl w.heap.size (vArr 1 x.1 ⟨#[]⟩) (by kernel_rfl) (by kernel_rfl) _ _ B5 (by kernel_rfl) (by kernel_rfl) (by kernel_rfl) ?_
          obtain⟨W6,hW6⟩:∃W6:World,W6=W.setRow w.heap.size (vArr 1 x.1 ⟨#[]⟩):=⟨_,rfl⟩
          rw[←hW6]
          have B6:Blk W6 w.heap.size 58 (vArr 1 x.1 ⟨#[]⟩):=by rw[hW6];exact B5.setRow _))
     have h6:Rd 136 W6 g A n c l x.2:=h.turn (by rw[hW6];exact h5.blk.setRow_far _ (by omega)) (by rw[hW6];exact hgr _ _ hg5) h5.at_le
     have hg6:w.grownBy W6 (some g):=by rw[hW6];exact hgr _ _ hg5
     rw[HR.out]
     exact post_cell rfl rfl B6 Tryz.underlying58 rfl (by kernel_rfl) ⟨rfl,h6,hg6⟩
   · have he1:(x.2.e==0)=false:=by simp[he]
     have HR:=Lib.hid (show res=(⟨0,0,⟨#[]⟩⟩,x.2) by have:=HV.out;rw[HV0.out]at this;rw[this,if_pos (by simp[he])])
     go_wp2_with (first
        |(guard_target=~ wpList _ _ _ _ _ _;refine wpList_load_row rfl 58 _ rfl w1.heap.size (by kernel_rfl) _ _ (0,0) _ C5' rfl rfl (by kernel_rfl) ?_)
        |(guard_target=~ wpList _ _ _ _ _ _;refine wpList_store_row rfl 58 _ _ rfl w.heap.size (vArr 0 0 ⟨#[]⟩) (by kernel_rfl) (by kernel_rfl) _ _ B5 (by kernel_rfl) (by kernel_rfl) (by kernel_rfl) ?_
          obtain⟨W6,hW6⟩:∃W6:World,W6=W.setRow w.heap.size (vArr 0 0 ⟨#[]⟩):=⟨_,rfl⟩
          rw[←hW6]
          have B6:Blk W6 w.heap.size 58 (vArr 0 0 ⟨#[]⟩):=by rw[hW6];exact B5.setRow _))
     have h6:Rd 136 W6 g A n c l x.2:=h.turn (by rw[hW6];exact h5.blk.setRow_far _ (by omega)) (by rw[hW6];exact hgr _ _ hg5) h5.at_le
     have hg6:w.grownBy W6 (some g):=by rw[hW6];exact hgr _ _ hg5
     rw[HR.out]
     exact post_cell rfl rfl B6 Tryz.underlying58 rfl (by kernel_rfl) ⟨rfl,h6,hg6⟩
 · rw[if_neg hk1]at hV0
   have k1:(k==1)=false:=by simp[hk1]
   by_cases hk2:k=2
   · subst hk2
     rw[if_pos rfl]at hV0
     replace hV0:res0=(⟨2,0,⟨(rText l s1 64).1.toArray⟩⟩,(rText l s1 64).2):=hV0
     have HV0:=Lib.hid hV0
     clear hV0
     go_wp2_with fail
     refine(wRText g A n c l s1 64 _ h2).mono ?_
     rintro e w3 ⟨rfl,h3,hg3⟩
     have B3:=B2.grown hg3 (by intro e;injection e with e;omega)
     have C3:=C2.grown hg3 (by intro e;injection e with e;omega)
     have z3:=cl (C3.cell 2)
     have f3:=C3.frozen 2
     have hg4:=hgs _ 2 (.string ⟨(rText l s1 64).1.toArray⟩) (hg2.trans hg3)
     have h4:=h3.far (grown_set w3 w1.heap.size 2 (.string ⟨(rText l s1 64).1.toArray⟩)) (by omega) had
     have B4:=B3.far (p:=⟨w1.heap.size,2,none⟩) (by simp;omega) (.string ⟨(rText l s1 64).1.toArray⟩)
     have C4:=C3.set_ 2 (.string ⟨(rText l s1 64).1.toArray⟩)
     generalize rText l s1 64=x at*
     clear C2 B2 h2 hg2 hg3 h3 hgs
     have hF:=wRFault g A n c l _ _ h4
     go_wp2_with fail
     refine hF.mono ?_
     rintro e w5 ⟨rfl,q,rfl⟩
     have hD:Below (w3.setCell ⟨w1.heap.size,2,none⟩ (.string ⟨x.1.toArray⟩)).heap.size (w3.setCell ⟨w1.heap.size,2,none⟩ (.string ⟨x.1.toArray⟩)) ((w3.setCell ⟨w1.heap.size,2,none⟩ (.string ⟨x.1.toArray⟩)).drewN q):=belowN _
     have h5:=h4.below hD
     have B5:=B4.below hD B4.lt
     have C5:=C4.below hD C4.lt
     have hg5:=hg4.trans (below_grown hD (some g))
     clear h4 B4 C4 hg4 hD hF C3 B3 z3 f3
     generalize (w3.setCell ⟨w1.heap.size,2,none⟩ (.string ⟨x.1.toArray⟩)).drewN q=W at*
     have C5':Blk W w1.heap.size 58 (vArr 2 0 ⟨x.1.toArray⟩):=C5
     by_cases he:x.2.e=0
     · have he1:(x.2.e==0)=true:=by simp[he]
       have HR:=Lib.hid (show res=(⟨2,0,⟨x.1.toArray⟩⟩,x.2) by have:=HV.out;rw[HV0.out]at this;rw[this,if_neg (by simp[he])])
       go_wp2_with (first
        |(guard_target=~ wpList _ _ _ _ _ _;refine wpList_load_row rfl 58 _ rfl w1.heap.size (by kernel_rfl) _ _ (0,0) _ C5' rfl rfl (by kernel_rfl) ?_)
        |(guard_target=~ wpList _ _ _ _ _ _;refine wpList_store_row rfl 58 _ _ rfl w.heap.size (vArr 2 0 ⟨x.1.toArray⟩) (by kernel_rfl) (by kernel_rfl) _ _ B5 (by kernel_rfl) (by kernel_rfl) (by kernel_rfl) ?_
          obtain⟨W6,hW6⟩:∃W6:World,W6=W.setRow w.heap.size (vArr 2 0 ⟨x.1.toArray⟩):=⟨_,rfl⟩
          rw[←hW6]
          have B6:Blk W6 w.heap.size 58 (vArr 2 0 ⟨x.1.toArray⟩):=by rw[hW6];exact B5.setRow _))
       have h6:Rd 136 W6 g A n c l x.2:=h.turn (by rw[hW6];exact h5.blk.setRow_far _ (by omega)) (by rw[hW6];exact hgr _ _ hg5) h5.at_le
       have hg6:w.grownBy W6 (some g):=by rw[hW6];exact hgr _ _ hg5
       rw[HR.out]
       exact post_cell rfl rfl B6 Tryz.underlying58 rfl (by kernel_rfl) ⟨rfl,h6,hg6⟩
     · have he1:(x.2.e==0)=false:=by simp[he]
       have HR:=Lib.hid (show res=(⟨0,0,⟨#[]⟩⟩,x.2) by have:=HV.out;rw[HV0.out]at this;rw[this,if_pos (by simp[he])])
       go_wp2_with (first
        |(guard_target=~ wpList _ _ _ _ _ _;refine wpList_load_row rfl 58 _ rfl w1.heap.size (by kernel_rfl) _ _ (0,0) _ C5' rfl rfl (by kernel_rfl) ?_)
        |(guard_target=~ wpList _ _ _ _ _ _;refine wpList_store_row rfl 58 _ _ rfl w.heap.size (vArr 0 0 ⟨#[]⟩) (by kernel_rfl) (by kernel_rfl) _ _ B5 (by kernel_rfl) (by kernel_rfl) (by kernel_rfl) ?_
          obtain⟨W6,hW6⟩:∃W6:World,W6=W.setRow w.heap.size (vArr 0 0 ⟨#[]⟩):=⟨_,rfl⟩
          rw[←hW6]
          have B6:Blk W6 w.heap.size 58 (vArr 0 0 ⟨#[]⟩):=by rw[hW6];exact B5.setRow _))
       have h6:Rd 136 W6 g A n c l x.2:=h.turn (by rw[hW6];exact h5.blk.setRow_far _ (by omega)) (by rw[hW6];exact hgr _ _ hg5) h5.at_le
       have hg6:w.grownBy W6 (some g):=by rw[hW6];exact hgr _ _ hg5
       rw[HR.out]
       exact post_cell rfl rfl B6 Tryz.underlying58 rfl (by kernel_rfl) ⟨rfl,h6,hg6⟩
   · rw[if_neg hk2]at hV0
     have k2:(k==2)=false:=by simp[hk2]
     obtain⟨x,hx⟩:∃x:Nat×RS,x=(0,s1):=⟨_,rfl⟩
     obtain rfl:s1=x.2:=by rw[hx]
     have HV0:=Lib.hid hV0
     clear hV0 hgs hx
     have hF:=wRFault g A n c l _ _ h2
     go_wp2_with fail
     refine hF.mono ?_
     rintro e w5 ⟨rfl,q,rfl⟩
     have hD:Below (w1.alloc (.cells (vArr k 0 ⟨#[]⟩) 58)).heap.size (w1.alloc (.cells (vArr k 0 ⟨#[]⟩) 58)) ((w1.alloc (.cells (vArr k 0 ⟨#[]⟩) 58)).drewN q):=belowN _
     have h5:=h2.below hD
     have B5:=B2.below hD B2.lt
     have C5:=C2.below hD C2.lt
     have hg5:=hg2.trans (below_grown hD (some g))
     clear h2 B2 C2 hg2 hD hF
     generalize (w1.alloc (.cells (vArr k 0 ⟨#[]⟩) 58)).drewN q=W at*
     have C5':Blk W w1.heap.size 58 (vArr k 0 ⟨#[]⟩):=C5
     by_cases he:x.2.e=0
     · have he1:(x.2.e==0)=true:=by simp[he]
       have HR:=Lib.hid (show res=(⟨k,0,⟨#[]⟩⟩,x.2) by have:=HV.out;rw[HV0.out]at this;rw[this,if_neg (by simp[he])])
       go_wp2_with (first
        |(guard_target=~ wpList _ _ _ _ _ _;refine wpList_load_row rfl 58 _ rfl w1.heap.size (by kernel_rfl) _ _ (0,0) _ C5' rfl rfl (by kernel_rfl) ?_)
        |(guard_target=~ wpList _ _ _ _ _ _;refine wpList_store_row rfl 58 _ _ rfl w.heap.size (vArr k 0 ⟨#[]⟩) (by kernel_rfl) (by kernel_rfl) _ _ B5 (by kernel_rfl) (by kernel_rfl) (by kernel_rfl) ?_
          obtain⟨W6,hW6⟩:∃W6:World,W6=W.setRow w.heap.size (vArr k 0 ⟨#[]⟩):=⟨_,rfl⟩
          rw[←hW6]
          have B6:Blk W6 w.heap.size 58 (vArr k 0 ⟨#[]⟩):=by rw[hW6];exact B5.setRow _))
       have h6:Rd 136 W6 g A n c l x.2:=h.turn (by rw[hW6];exact h5.blk.setRow_far _ (by omega)) (by rw[hW6];exact hgr _ _ hg5) h5.at_le
       have hg6:w.grownBy W6 (some g):=by rw[hW6];exact hgr _ _ hg5
       rw[HR.out]
       exact post_cell rfl rfl B6 Tryz.underlying58 rfl (by kernel_rfl) ⟨rfl,h6,hg6⟩
     · have he1:(x.2.e==0)=false:=by simp[he]
       have HR:=Lib.hid (show res=(⟨0,0,⟨#[]⟩⟩,x.2) by have:=HV.out;rw[HV0.out]at this;rw[this,if_pos (by simp[he])])
       go_wp2_with (first
        |(guard_target=~ wpList _ _ _ _ _ _;refine wpList_load_row rfl 58 _ rfl w1.heap.size (by kernel_rfl) _ _ (0,0) _ C5' rfl rfl (by kernel_rfl) ?_)
        |(guard_target=~ wpList _ _ _ _ _ _;refine wpList_store_row rfl 58 _ _ rfl w.heap.size (vArr 0 0 ⟨#[]⟩) (by kernel_rfl) (by kernel_rfl) _ _ B5 (by kernel_rfl) (by kernel_rfl) (by kernel_rfl) ?_
          obtain⟨W6,hW6⟩:∃W6:World,W6=W.setRow w.heap.size (vArr 0 0 ⟨#[]⟩):=⟨_,rfl⟩
          rw[←hW6]
          have B6:Blk W6 w.heap.size 58 (vArr 0 0 ⟨#[]⟩):=by rw[hW6];exact B5.setRow _))
       have h6:Rd 136 W6 g A n c l x.2:=h.turn (by rw[hW6];exact h5.blk.setRow_far _ (by omega)) (by rw[hW6];exact hgr _ _ hg5) h5.at_le
       have hg6:w.grownBy W6 (some g):=by rw[hW6];exact hgr _ _ hg5
       rw[HR.out]
       exact post_cell rfl rfl B6 Tryz.underlying58 rfl (by kernel_rfl) ⟨rfl,h6,hg6⟩
theorem rcValue:ElemR 183 VlRel 3 [.int .i64 0,.float .f64 0,.string ⟨#[]⟩] rVl:=by
 intro w g A n c l s gc b t cs i h hs D
 have c0:=cl (h.blk.cell 0)
 have c1:=cl (h.blk.cell 1)
 go_enter Tryz.func183,Tryz.ntmps183
 go_wp2_with fail
 refine(dget g A n c l s w h.rd).mono ?_
 rintro e w1 ⟨rfl,hrd,hg⟩
 have k1:Blk w1 b t cs:=D.blk.grown hg (by intro e;exact D.ng (by injection e))
 have hth:=k1.there i 3 (by have:=(Array.getElem?_eq_some_iff.1 (D.has 2 _ rfl)).1;omega)
 obtain⟨hc2,hP⟩:=laid (R:=VlRel) (vs:=(rVl l s).1.cells) (x:=rVl l s) h D hrd hg (fun K W=>⟨rfl,rVl_ok l s (by have:=h.rd.len;have:=h.rd.small;omega)⟩)
 go_wp2_with (first
  |(guard_target=~ wpList _ _ _ _ _ _;refine wpList_store_mid rfl _ _ _ rfl b i (vArr (rVl l s).1.k (rVl l s).1.n (rVl l s).1.t) rfl rfl hth (by kernel_rfl) (by kernel_rfl) ?_)
  |fail)
 refine(look_any _ g A n c l _ gc hc2).mono ?_
 rintro e w2 ⟨⟨q,rfl⟩,⟨he,rfl⟩|⟨he,rfl⟩⟩
 · go_wp2
   go_end0
   exact hP _ _ ⟨⟨q,rfl⟩,.inl ⟨he,rfl⟩⟩
 · go_wp2
   exact⟨rfl,hP _ _ ⟨⟨q,rfl⟩,.inr ⟨he,rfl⟩⟩⟩
end Go.Proofs.YthdmanadhbpogaaGreat
/- The walks of a coder that reads: stamps, numbers of transactions, writes, pairs, versions, ranges. -/
namespace Go.Proofs.YthdmanadhbpogaaGreat
set_option maxHeartbeats 2000000
set_option maxRecDepth 100000
set_option linter.unusedVariables false
open Go.RowKit Fl
attribute [local go_sem] run_store_float
theorem rcStamp:ElemR 126 SpRel 3 ([.int .i64 0]++([.int .i64 0]++([.int .i64 0]))) rSp:=by
 intro w g A n c l s gc b t cs i h hs D
 have gl:=h.rd.blk.lt
 have bl:=D.blk.lt
 go_enter Tryz.func126,Tryz.ntmps126
 go_wp2_with fail
 refine(rcInt w g A n c l s gc b t cs i h hs D.fst).mono ?_
 rintro e w1 ⟨h1,t1,⟨e1,rfl,v1,l1,k1,n1⟩|⟨e1,rfl,cs1,l1,k1⟩⟩
 rotate_left
 · go_wp2
   exact⟨rfl,RPost.bad (s':=(rInt l s).2) ((rTwo_stk (mk:=fun _ _=>()) rInt_stk rInt_stk) l _ e1) e1 h1 t1 l1 k1⟩
 have D1:=D.nxt k1 l1 rfl (i+1) rfl
 clear k1
 go_wp2_with fail
 refine(rcInt w1 g A n c l (rInt l s).2 gc b t _ (i+1) h1 e1 D1.fst).mono ?_
 rintro e w2 ⟨h2,t2,⟨e2,rfl,v2,l2,k2,n2⟩|⟨e2,rfl,cs2,l2,k2⟩⟩
 rotate_left
 · go_wp2
   exact⟨rfl,RPost.bad (s':=(rInt l (rInt l s).2).2) (rInt_stk l _ e2) e2 h2 (t1.trans t2) (l2.trans (put_size _ _ _)) k2⟩
 have D2:=D1.nxt k2 l2 rfl (i+2) (by omega)
 clear k2
 go_wp2_with fail
 refine(rcInt w2 g A n c l (rInt l (rInt l s).2).2 gc b t _ (i+2) h2 e2 D2).mono ?_
 rintro e w3 ⟨h3,t3,⟨e3,rfl,v3,l3,k3,n3⟩|⟨e3,rfl,cs3,l3,k3⟩⟩
 rotate_left
 · go_wp2
   exact⟨rfl,RPost.bad (s':=(rInt l (rInt l (rInt l s).2).2).2) rfl e3 h3 ((t1.trans t2).trans t3) (l3.trans ((put_size _ _ _).trans (put_size _ _ _))) k3⟩
 go_wp2
 go_end0
 refine⟨h3,((t1.trans t2).trans t3),.inl ⟨e3,rfl,v1++(v2++(v3)),by simp only[List.length_append,l1,l2,l3],?_,?_⟩⟩
 · rw[put_app,l1,put_app,l2]
   exact k3
 · obtain⟨rfl,o1⟩:=n1
   obtain⟨rfl,o2⟩:=n2
   obtain⟨rfl,o3⟩:=n3
   exact⟨rfl,o1,o2,o3⟩
theorem rcTxn:ElemR 124 TxRel 3 ([.int .i64 0]++([.int .i64 0]++([.int .i64 0]))) rTx:=by
 intro w g A n c l s gc b t cs i h hs D
 have gl:=h.rd.blk.lt
 have bl:=D.blk.lt
 go_enter Tryz.func124,Tryz.ntmps124
 go_wp2_with fail
 refine(rcInt w g A n c l s gc b t cs i h hs D.fst).mono ?_
 rintro e w1 ⟨h1,t1,⟨e1,rfl,v1,l1,k1,n1⟩|⟨e1,rfl,cs1,l1,k1⟩⟩
 rotate_left
 · go_wp2
   exact⟨rfl,RPost.bad (s':=(rInt l s).2) ((rTwo_stk (mk:=fun _ _=>()) rInt_stk rInt_stk) l _ e1) e1 h1 t1 l1 k1⟩
 have D1:=D.nxt k1 l1 rfl (i+1) rfl
 clear k1
 go_wp2_with fail
 refine(rcInt w1 g A n c l (rInt l s).2 gc b t _ (i+1) h1 e1 D1.fst).mono ?_
 rintro e w2 ⟨h2,t2,⟨e2,rfl,v2,l2,k2,n2⟩|⟨e2,rfl,cs2,l2,k2⟩⟩
 rotate_left
 · go_wp2
   exact⟨rfl,RPost.bad (s':=(rInt l (rInt l s).2).2) (rInt_stk l _ e2) e2 h2 (t1.trans t2) (l2.trans (put_size _ _ _)) k2⟩
 have D2:=D1.nxt k2 l2 rfl (i+2) (by omega)
 clear k2
 go_wp2_with fail
 refine(rcInt w2 g A n c l (rInt l (rInt l s).2).2 gc b t _ (i+2) h2 e2 D2).mono ?_
 rintro e w3 ⟨h3,t3,⟨e3,rfl,v3,l3,k3,n3⟩|⟨e3,rfl,cs3,l3,k3⟩⟩
 rotate_left
 · go_wp2
   exact⟨rfl,RPost.bad (s':=(rInt l (rInt l (rInt l s).2).2).2) rfl e3 h3 ((t1.trans t2).trans t3) (l3.trans ((put_size _ _ _).trans (put_size _ _ _))) k3⟩
 go_wp2
 go_end0
 refine⟨h3,((t1.trans t2).trans t3),.inl ⟨e3,rfl,v1++(v2++(v3)),by simp only[List.length_append,l1,l2,l3],?_,?_⟩⟩
 · rw[put_app,l1,put_app,l2]
   exact k3
 · obtain⟨rfl,o1⟩:=n1
   obtain⟨rfl,o2⟩:=n2
   obtain⟨rfl,o3⟩:=n3
   exact⟨rfl,o1,o2,o3⟩
theorem rcWrite:ElemR 129 WtRel 4 ([.string ⟨#[]⟩]++([.int .i64 0,.float .f64 0,.string ⟨#[]⟩])) rWt:=by
 intro w g A n c l s gc b t cs i h hs D
 have gl:=h.rd.blk.lt
 have bl:=D.blk.lt
 go_enter Tryz.func129,Tryz.ntmps129
 go_wp2_with fail
 refine(rcText w g A n c l s gc b t cs i h hs D.fst).mono ?_
 rintro e w1 ⟨h1,t1,⟨e1,rfl,v1,l1,k1,n1⟩|⟨e1,rfl,cs1,l1,k1⟩⟩
 rotate_left
 · go_wp2
   exact⟨rfl,RPost.bad (s':=(rKey l s).2) (rVl_stk l _ e1) e1 h1 t1 l1 k1⟩
 have D1:=D.nxt k1 l1 rfl (i+1) rfl
 clear k1
 go_wp2_with fail
 refine(rcValue w1 g A n c l (rKey l s).2 gc b t _ (i+1) h1 e1 D1).mono ?_
 rintro e w2 ⟨h2,t2,⟨e2,rfl,v2,l2,k2,n2⟩|⟨e2,rfl,cs2,l2,k2⟩⟩
 rotate_left
 · go_wp2
   exact⟨rfl,RPost.bad (s':=(rVl l (rKey l s).2).2) rfl e2 h2 (t1.trans t2) (l2.trans (put_size _ _ _)) k2⟩
 go_wp2
 go_end0
 refine⟨h2,(t1.trans t2),.inl ⟨e2,rfl,v1++(v2),by simp only[List.length_append,l1,l2],?_,?_⟩⟩
 · rw[put_app,l1]
   exact k2
 · obtain⟨rfl,o1⟩:=n1
   obtain⟨rfl,o2⟩:=n2
   exact⟨rfl,o1,o2⟩
theorem rcPair:ElemR 131 WtRel 4 ([.string ⟨#[]⟩]++([.int .i64 0,.float .f64 0,.string ⟨#[]⟩])) rWt:=by
 intro w g A n c l s gc b t cs i h hs D
 have gl:=h.rd.blk.lt
 have bl:=D.blk.lt
 go_enter Tryz.func131,Tryz.ntmps131
 go_wp2_with fail
 refine(rcText w g A n c l s gc b t cs i h hs D.fst).mono ?_
 rintro e w1 ⟨h1,t1,⟨e1,rfl,v1,l1,k1,n1⟩|⟨e1,rfl,cs1,l1,k1⟩⟩
 rotate_left
 · go_wp2
   exact⟨rfl,RPost.bad (s':=(rKey l s).2) (rVl_stk l _ e1) e1 h1 t1 l1 k1⟩
 have D1:=D.nxt k1 l1 rfl (i+1) rfl
 clear k1
 go_wp2_with fail
 refine(rcValue w1 g A n c l (rKey l s).2 gc b t _ (i+1) h1 e1 D1).mono ?_
 rintro e w2 ⟨h2,t2,⟨e2,rfl,v2,l2,k2,n2⟩|⟨e2,rfl,cs2,l2,k2⟩⟩
 rotate_left
 · go_wp2
   exact⟨rfl,RPost.bad (s':=(rVl l (rKey l s).2).2) rfl e2 h2 (t1.trans t2) (l2.trans (put_size _ _ _)) k2⟩
 go_wp2
 go_end0
 refine⟨h2,(t1.trans t2),.inl ⟨e2,rfl,v1++(v2),by simp only[List.length_append,l1,l2],?_,?_⟩⟩
 · rw[put_app,l1]
   exact k2
 · obtain⟨rfl,o1⟩:=n1
   obtain⟨rfl,o2⟩:=n2
   exact⟨rfl,o1,o2⟩
theorem rcVersion:ElemR 191 VnRel 6 ([.int .i64 0,.int .i64 0,.int .i64 0]++([.int .i64 0,.float .f64 0,.string ⟨#[]⟩])) rVn:=by
 intro w g A n c l s gc b t cs i h hs D
 have gl:=h.rd.blk.lt
 have bl:=D.blk.lt
 go_enter Tryz.func191,Tryz.ntmps191
 go_wp2_with fail
 refine(rcStamp w g A n c l s gc b t cs i h hs D.fst).mono ?_
 rintro e w1 ⟨h1,t1,⟨e1,rfl,v1,l1,k1,n1⟩|⟨e1,rfl,cs1,l1,k1⟩⟩
 rotate_left
 · go_wp2
   exact⟨rfl,RPost.bad (s':=(rSp l s).2) (rVl_stk l _ e1) e1 h1 t1 l1 k1⟩
 have D1:=D.nxt k1 l1 rfl (i+3) rfl
 clear k1
 go_wp2_with fail
 refine(rcValue w1 g A n c l (rSp l s).2 gc b t _ (i+3) h1 e1 D1).mono ?_
 rintro e w2 ⟨h2,t2,⟨e2,rfl,v2,l2,k2,n2⟩|⟨e2,rfl,cs2,l2,k2⟩⟩
 rotate_left
 · go_wp2
   exact⟨rfl,RPost.bad (s':=(rVl l (rSp l s).2).2) rfl e2 h2 (t1.trans t2) (l2.trans (put_size _ _ _)) k2⟩
 go_wp2
 go_end0
 refine⟨h2,(t1.trans t2),.inl ⟨e2,rfl,v1++(v2),by simp only[List.length_append,l1,l2],?_,?_⟩⟩
 · rw[put_app,l1]
   exact k2
 · obtain⟨rfl,o1⟩:=n1
   obtain⟨rfl,o2⟩:=n2
   exact⟨rfl,o1,o2⟩
theorem rcRange:ElemR 145 RgRel 4 ([.int .i64 0]++([.int .i64 0]++([.float .f64 0]++([.float .f64 0])))) rRg:=by
 intro w g A n c l s gc b t cs i h hs D
 have gl:=h.rd.blk.lt
 have bl:=D.blk.lt
 go_enter Tryz.func145,Tryz.ntmps145
 go_wp2_with fail
 refine(rcInt w g A n c l s gc b t cs i h hs D.fst).mono ?_
 rintro e w1 ⟨h1,t1,⟨e1,rfl,v1,l1,k1,n1⟩|⟨e1,rfl,cs1,l1,k1⟩⟩
 rotate_left
 · go_wp2
   exact⟨rfl,RPost.bad (s':=(rInt l s).2) ((rTwo_stk (mk:=fun _ _=>()) (rTwo_stk (mk:=fun _ _=>()) rInt_stk rFloat_stk) rFloat_stk) l _ e1) e1 h1 t1 l1 k1⟩
 have D1:=D.nxt k1 l1 rfl (i+1) rfl
 clear k1
 go_wp2_with fail
 refine(rcInt w1 g A n c l (rInt l s).2 gc b t _ (i+1) h1 e1 D1.fst).mono ?_
 rintro e w2 ⟨h2,t2,⟨e2,rfl,v2,l2,k2,n2⟩|⟨e2,rfl,cs2,l2,k2⟩⟩
 rotate_left
 · go_wp2
   exact⟨rfl,RPost.bad (s':=(rInt l (rInt l s).2).2) ((rTwo_stk (mk:=fun _ _=>()) rFloat_stk rFloat_stk) l _ e2) e2 h2 (t1.trans t2) (l2.trans (put_size _ _ _)) k2⟩
 have D2:=D1.nxt k2 l2 rfl (i+2) (by omega)
 clear k2
 go_wp2_with fail
 refine(rcFloat w2 g A n c l (rInt l (rInt l s).2).2 gc b t _ (i+2) h2 e2 D2.fst).mono ?_
 rintro e w3 ⟨h3,t3,⟨e3,rfl,v3,l3,k3,n3⟩|⟨e3,rfl,cs3,l3,k3⟩⟩
 rotate_left
 · go_wp2
   exact⟨rfl,RPost.bad (s':=(rFloat l (rInt l (rInt l s).2).2).2) (rFloat_stk l _ e3) e3 h3 ((t1.trans t2).trans t3) (l3.trans ((put_size _ _ _).trans (put_size _ _ _))) k3⟩
 have D3:=D2.nxt k3 l3 rfl (i+3) (by omega)
 clear k3
 go_wp2_with fail
 refine(rcFloat w3 g A n c l (rFloat l (rInt l (rInt l s).2).2).2 gc b t _ (i+3) h3 e3 D3).mono ?_
 rintro e w4 ⟨h4,t4,⟨e4,rfl,v4,l4,k4,n4⟩|⟨e4,rfl,cs4,l4,k4⟩⟩
 rotate_left
 · go_wp2
   exact⟨rfl,RPost.bad (s':=(rFloat l (rFloat l (rInt l (rInt l s).2).2).2).2) rfl e4 h4 (((t1.trans t2).trans t3).trans t4) (l4.trans ((put_size _ _ _).trans ((put_size _ _ _).trans (put_size _ _ _)))) k4⟩
 go_wp2
 go_end0
 refine⟨h4,(((t1.trans t2).trans t3).trans t4),.inl ⟨e4,rfl,v1++(v2++(v3++(v4))),by simp only[List.length_append,l1,l2,l3,l4],?_,?_⟩⟩
 · rw[put_app,l1,put_app,l2,put_app,l3]
   exact k4
 · obtain⟨rfl,o1⟩:=n1
   obtain⟨rfl,o2⟩:=n2
   obtain⟨rfl,o3⟩:=n3
   obtain⟨rfl,o4⟩:=n4
   exact⟨rfl,o1,o2,o3,o4⟩
end Go.Proofs.YthdmanadhbpogaaGreat
/- Words of a coder that reads lists: what holds at a round's head, what a round leaves. Plain lemmas. -/
namespace Go.Proofs.YthdmanadhbpogaaGreat
set_option linter.unusedVariables false
open Go.RowKit Fl
structure LFix (w:World) (g:Nat) (A:Option Addr) (n gc b:Nat):Prop where
 gl:g<w.heap.size
 cl:gc<w.heap.size
 bl:b<w.heap.size
 al:∀a,A=some a→0<n→a.block<w.heap.size
 ng:b≠g
 nc:b≠gc
 ap:∀a,A=some a→0<n→a.block≠b
theorem CR.fix {w:World} {g:Nat} {A:Option Addr} {n c:Nat} {l:List UInt8} {s:RS} {gc b:Nat} {t:TypeId} {cs:Array Value} {i:Nat} {z:List Value} (h:CR w g A n c l s gc) (D:Dst w A n g gc b t cs i z):LFix w g A n gc b:=
 ⟨h.rd.blk.lt,h.blk.lt,D.blk.lt,fun a ha hn=>by
  obtain⟨ad,e,hlt,_⟩:=h.rd.reads.2 hn
  rw[ha]at e
  obtain rfl:=Option.some.inj e
  exact hlt,D.ng,D.nc,D.ap⟩
theorem CR.low {w w':World} {g:Nat} {A:Option Addr} {n c:Nat} {l:List UInt8} {s:RS} {gc B:Nat} (h:CR w g A n c l s gc) (hb:Below B w w') (hg:g<B) (hc:gc<B) (ha:∀a,A=some a→0<n→a.block<B):CR w' g A n c l s gc:=
 ⟨⟨h.rd.blk.below hb hg,⟨h.rd.reads.1,fun hn=>by
  obtain⟨ad,e,hlt,hx⟩:=h.rd.reads.2 hn
  exact⟨ad,e,Nat.lt_of_lt_of_le hlt hb.size,fun j u hu=>(hb.cell (by rw[block_of_add];exact ha ad e hn)).trans (hx j u hu)⟩⟩,h.rd.len,h.rd.small,h.rd.apart,h.rd.at_le,h.rd.nc,h.rd.cm⟩,h.blk.below hb hc,h.ne,h.ad⟩
structure LInv {α:Type} (R:Rel α) (E size:Nat) (f:Rdf α) (w:World) (g:Nat) (A:Option Addr) (n c:Nat) (l:List UInt8) (gc b:Nat) (t:TypeId) (cs:Array Value) (i N:Nat) (s1:RS) (k:Nat) (L:List α) (sk:RS) (v:Value) (wr:World):Prop where
 hk:k≤N
 len:L.length=k
 cr:CR wr g A n c l sk gc
 e:sk.e=0
 blk:Blk wr b t (put cs i [v])
 row:Single R E size w.heap.size wr v L
 two:Two2 w wr g b
 eq:rLoop f l N s1=(L++(rLoop f l (N-k) sk).1,(rLoop f l (N-k) sk).2)
section
variable {α:Type} {R:Rel α} {E size:Nat} {f:Rdf α} {w:World} {g:Nat} {A:Option Addr} {n c:Nat} {l:List UInt8} {gc b:Nat} {t:TypeId} {cs:Array Value} {i N:Nat} {s1 sk:RS} {k:Nat} {L:List α} {v:Value} {wr:World}
theorem LInv.start (hc:CR wr g A n c l s1 gc) (he:s1.e=0) (hb:Blk wr b t (put cs i [.slice none 0 0])) (ht:Two2 w wr g b):LInv R E size f w g A n c l gc b t cs i N s1 0 [] s1 (.slice none 0 0) wr:=
 ⟨Nat.zero_le _,rfl,hc,he,hb,Single.nil _,ht,by simp⟩
theorem LInv.done (hm:R.Mono) (hsz:0<size) (h:LInv R E size f w g A n c l gc b t cs i N s1 k L sk v wr) (hk:¬k<N):RPost (LsRel R size) 1 w g A n c l gc b t cs i (rLoop f l N s1) (.returned (.tuple #[])) wr:=by
 obtain rfl:N=k:=by have:=h.hk;omega
 have he:rLoop f l N s1=(L,sk):=by
  rw[h.eq,Nat.sub_self]
  show (L++[],sk)=_
  rw[List.append_nil]
 rw[he]
 exact⟨h.cr,h.two,.inl ⟨h.e,rfl,[v],rfl,h.blk,h.row.inn hm hsz⟩⟩
theorem LInv.round {z:List Value} {X:World} (hR:R.Kept) (hm:R.Mono) (fx:LFix w g A n gc b) (h:LInv R E size f w g A n c l gc b t cs i N s1 k L sk v wr) (hlt:k<N) (hi:i<cs.size) (hz:z.length=size) (hX:Below wr.heap.size wr X):∃xs,X.ownsRow w.heap.size E size v L.length xs∧
 ∀(v':Value) (w5:World),w5.ownsRow w.heap.size E size v' (L.length+1) (xs++z)→X.grownBy w5 v.ownBlock→(v'.ownBlock=v.ownBlock∨v'.ownBlock=some X.heap.size)→
  w5.cell? ⟨b,i,none⟩=some v∧w5.frozen? ⟨b,i,none⟩=false∧∃rb cap cur,v'=.slice (some ⟨rb,0,none⟩) (k+1) cap∧(w5.setCell ⟨b,i,none⟩ v').cell? ⟨b,i,none⟩=some v'∧
        CR (w5.setCell ⟨b,i,none⟩ v') g A n c l sk gc∧Dst (w5.setCell ⟨b,i,none⟩ v') A n g gc rb E cur (k*size) z∧
        ∀e w7,RPost R size (w5.setCell ⟨b,i,none⟩ v') g A n c l gc rb E cur (k*size) (f l sk) e w7→
         (e=.returned (.tuple #[])∧LInv R E size f w g A n c l gc b t cs i N s1 (k+1) (L++[(f l sk).1]) (f l sk).2 v' w7)∨(e=stopP∧RPost (LsRel R size) 1 w g A n c l gc b t cs i (rLoop f l N s1) stopP w7):=by
 have hzz:=h.two.size
 have hXz:=hX.size
 have hXB:Below w.heap.size wr X:=hX.mono hzz
 have hrowX:Single R E size w.heap.size X v L:=Pair.below hR hm h.row hX
 obtain⟨xs,hown,hpush⟩:=Single.push hR hm hrowX
 refine⟨xs,hown,fun v' w5 hown5 hg5 hat=>?_⟩
 have h5z:=hg5.size
 have hB5:Below w.heap.size wr w5:=hXB.grown hg5 (by omega) (fun q hq=>(hown.lt q hq).1)
 have hb5:Blk w5 b t (put cs i [v]):=h.blk.below hB5 fx.bl
 have hc5:=h.cr.low hB5 fx.gl fx.cl fx.al
 have hvb:∀q,v'.ownBlock=some q→w.heap.size≤q∧q<w5.heap.size:=hown5.lt
 have hown6:(w5.setCell ⟨b,i,none⟩ v').ownsRow w.heap.size E size v' (L.length+1) (xs++z):=hown5.kept (grown_set w5 b i v') (.inr fun e=>by have:=(hvb b e).1;have:=fx.bl;omega)
 have hb6:Blk (w5.setCell ⟨b,i,none⟩ v') b t (put cs i [v']):=by
  have:=hb5.set_ i v'
  have e:(put cs i [v]).setIfInBounds i v'=put cs i [v']:=by
   show (cs.setIfInBounds i v).setIfInBounds i v'=cs.setIfInBounds i v'
   exact Array.setIfInBounds_setIfInBounds _
  rwa [e]at this
 have hc6:CR (w5.setCell ⟨b,i,none⟩ v') g A n c l sk gc:=hc5.laid (grown_set w5 b i v') fx.ng fx.nc fx.ap
 have hp1:(put cs i [v])[i]?=some v:=put_in [v] cs i 0 v rfl (by simp;omega)
 have hp2:(put cs i [v'])[i]?=some v':=put_in [v'] cs i 0 v' rfl (by simp;omega)
 refine⟨(hb5.cell i).trans hp1,hb5.frozen i,?_⟩
 rw[h.len]at hown6
 obtain⟨rb,cap,cur,rfl,hrb,kb,hzc,hput⟩:=own_last hown6 hz
 have h6z:(w5.setCell ⟨b,i,none⟩ (.slice (some ⟨rb,0,none⟩) (k+1) cap)).heap.size=w5.heap.size:=by simp[World.setCell]
 have hrbl:=(hvb rb rfl).2
 have f1:=fx.gl
 have f2:=fx.cl
 have f3:=fx.bl
 refine⟨rb,cap,cur,rfl,(hb6.cell i).trans hp2,hc6,⟨kb,hzc,by omega,by omega,fun a ha hn=>by have:=fx.al a ha hn;omega⟩,?_⟩
 rintro e w7 ⟨h7,t7,h8⟩
 have t7z:=t7.size
 rw[h6z]at t7z
 have hblk:∀q,q<w5.heap.size→q≠g→q≠b→q≠rb→w7.heap[q]?=w5.heap[q]?:=fun q h1 h2 h3 h4=>(t7.block q (by rw[h6z];exact h1) h2 h4).trans (Below.heap_setCell _ _ _ _ h3)
 have two7:Two2 w w7 g b:=⟨t7.os.trans (hB5.os.trans h.two.os),t7.tape.trans (hB5.tape.trans h.two.tape),t7.output.trans (hB5.output.trans h.two.output),by omega,fun q hq h1 h2=>
  (hblk q (by omega) h1 h2 (by omega)).trans ((hB5.block q hq).trans (h.two.block q hq h1 h2))⟩
 have hb7:Blk w7 b t (put cs i [.slice (some ⟨rb,0,none⟩) (k+1) cap]):=(t7.block b (by rw[h6z];omega) fx.ng (by omega)).trans hb6
 have hnx:=rLoop_next f l (k:=N-k) (s:=sk) (by omega) h.e
 rcases h8 with ⟨he,rfl,vs,hvl,hk7,hin⟩|⟨he,rfl,cs',hcl,hk7⟩
 · refine .inl ⟨rfl,by omega,by rw[List.length_append,h.len];rfl,h7,he,hb7,?_,two7,?_⟩
   · rw[h6z]at hin
     refine hpush vs _ w5 w7 _ rb hvl (by rw[h.len];exact hput w7 vs hvl hk7) hg5 hat rfl hrbl (fun q h1 h2 h3=>hblk q h2 (by omega) (by omega) h3) t7z (lo:=w5.heap.size) (Nat.le_refl _) hin (by omega)
   · rw[h.eq,hnx,List.append_assoc]
     have e1:N-k-1=N-(k+1):=by omega
     rw[e1];rfl
 · refine .inr ⟨rfl,RPost.bad (s':=(f l sk).2) ?_ he h7 two7 (by rw[put_size]) hb7⟩
   rw[h.eq,hnx]
   show (rLoop f l (N-k-1) (f l sk).2).2=_
   rw[rLoop_stk f l _ _ he]
end
def LHead {α:Type} (R:Rel α) (E size:Nat) (f:Rdf α) (w:World) (g:Nat) (A:Option Addr) (n c:Nat) (l:List UInt8) (gc b:Nat) (t:TypeId) (cs:Array Value) (i N:Nat) (s1:RS) (iv:Value) (wr:World):Prop:=
 ∃(k:Nat) (L:List α) (sk:RS) (v:Value),iv=.int .i64 (k:Int)∧LInv R E size f w g A n c l gc b t cs i N s1 k L sk v wr
end Go.Proofs.YthdmanadhbpogaaGreat
/- The walks of the reference's writing functions, of Bytes and CopyBytes. -/
namespace Go.Proofs.YthdmanadhbpogaaGreat
set_option maxHeartbeats 4000000
set_option maxRecDepth 100000
open Go.RowKit Fl
theorem sbytes (w:World) {B B':Nat} {A A':Option Addr} {n n' c c':Nat} {a b:List UInt8} (ha:Reads w B 1 A n (bytesV a)) (hb:Reads w B' 1 A' n' (bytesV b)):
 Calls Tryz.prog 21 #[.slice A n c,.slice A' n' c'] w fun e w'=>e=.returned (.bool (a==b))∧w=w':=by
 have h1:=run_conv_reads (P:=Tryz.prog) w 48 9 5 Tryz.underlying48 Tryz.underlying5 Tryz.underlying9 (c:=c) ha
 have h2:=run_conv_reads (P:=Tryz.prog) w 48 9 5 Tryz.underlying48 Tryz.underlying5 Tryz.underlying9 (c:=c') hb
 go_enter Tryz.func21,Tryz.ntmps21
 go_wp2
 go_ret
 exact⟨rfl,rfl⟩
theorem xbits (a:Nat) (w:World):
 Calls Tryz.prog 184 #[.float .f64 a] w fun e w'=>e=.returned (.int .u64 (canonB a))∧w=w':=by
 by_cases h:dnan a=true
 · have e:canonB a=9221120237041090560:=by simp[canonB,h]
   have h':(FloatKind.f64.format.order a a !=some Ordering.eq)=true:=h
   rw[e]
   clear e h
   go_enter Tryz.func184,Tryz.ntmps184
   go_wp2
   go_ret
   exact⟨rfl,rfl⟩
 · have e:canonB a=a:=by simp[canonB,h]
   have h':(FloatKind.f64.format.order a a !=some Ordering.eq)=false:=by simpa [dnan] using h
   rw[e]
   clear e h
   go_enter Tryz.func184,Tryz.ntmps184
   go_wp2
   go_ret
   exact⟨rfl,rfl⟩
def RowRel (w:World) (bs:List UInt8) (v:Value) (wr:World):Prop:=wr.ownsRow w.heap.size 5 1 v bs.length (bytesV bs)∧Below w.heap.size w wr
theorem RowRel.start (w:World):RowRel w [] (.slice none 0 0) w:=⟨World.ownsRow_nil _ _ _ _,Below.refl _ _⟩
theorem RowRel.post {w wr:World} {bs:List UInt8} {v:Value} (h:RowRel w bs v wr):RowPost w bs (.returned v) wr:=by
 obtain⟨A,c,rfl,h1,h2⟩:=own_form h.1
 exact⟨A,c,rfl,h1,h2,h.1,h.2⟩
theorem RowRel.push {w wr X w1:World} {bs more:List UInt8} {v v1:Value} (h:RowRel w bs v wr) (hX:Below wr.heap.size wr X)
 (hown:w1.ownsRow w.heap.size 5 1 v1 (bs.length+more.length) (bytesV bs++bytesV more)) (hg:X.grownBy w1 v.ownBlock):RowRel w (bs++more) v1 w1:=by
 refine⟨by rw[List.length_append,bytesV,List.map_append];exact hown,?_⟩
 refine Below.grown (h.2.trans (hX.mono h.2.size)) hg (Nat.le_trans h.2.size hX.size) fun k hk=>(h.1.lt k hk).1
theorem big_byte (k:Nat):bytesV [(k%128+128).toUInt8]=[.int .u8 ((k:Int)%128+128)]:=by
 show [Value.int .u8 (((k%128+128)%256:Nat):Int)]=_
 congr 2
 omega
def XIntRel (w:World) (n:Int) (u out:Value) (wr:World):Prop:=
 ∃(k:Nat) (pre:List UInt8),u=.int .u64 (k:Int)∧k<18446744073709551616∧pre++encU k=encI n∧RowRel w pre out wr
theorem xint (n:Int) (w:World) (hn1: -9223372036854775808≤n) (hn2:n≤9223372036854775807):
 Calls Tryz.prog 62 #[.int .i64 n] w (RowPost w (encI n)):=by
 obtain⟨i0,hi0,hz0,hz1,hz2⟩:=info_partsW u8_info
 have hzl:=zig_lt hn1 hn2
 have hel:=encI_len hn1 hn2
 have hcase:n<0∨0≤n:=by omega
 rcases hcase with hneg|hneg
 all_goals (
  go_enter Tryz.func62,Tryz.ntmps62
  go_wp2
  go_loopw [3,4] (fun u out wr=>XIntRel w n u out wr) (fun u _ _=>(intOf u).toNat)
  case atStart=>
   refine⟨zig n,[],?_,hzl,rfl,RowRel.start w⟩
   first
        |rw[zig_neg hneg hn1]
        |(have e:=zig_pos hneg hn2
          rw[show IntKind.u64.wrap n=n from by rw[IntKind.wrap_u64];omega,show IntKind.u64.wrap (n*2)=n*2 from by rw[IntKind.wrap_u64];omega]at e
          rw[e])
  case round=>
   obtain⟨k,pre,rfl,hk,henc,hrow⟩:=hrel
   obtain⟨A1,c1,rfl,hA1,hA2⟩:=own_form hrow.1
   have hzz:=hrow.2.size
   have hpre:pre.length+(encU k).length=(encI n).length:=by rw[←henc,List.length_append]
   by_cases hbig:k<128
   · have h1:encU k=[k.toUInt8]:=encU_small hbig
     go_wp2_with (first
      |(at_builtin
        refine wpList_append_any _ rfl (.tmp 23) (.tmp 26) _ rfl w.heap.size 5 i0 _ 1 1 Tryz.underlying48 hi0 hz0 hz1 hz2 rfl (by omega) (.slice A1 pre.length c1) _ (bytesV pre) (by rfl) (hrow.1.alloc _) (wr.heap.size+1) (some ⟨wr.heap.size,0,none⟩) 1 1 (bytesV [k.toUInt8]) (by rfl)
            (by rw[low_byte k hbig];exact reads_new wr 5 _ 1 rfl) (bytesV_one _) (by unfold maxLen;omega) (by omega) (by simp;omega) ?_
        intro v2 w1 hown1 hg1 hat1))
     go_ret
     rw[←henc,h1]
     exact(hrow.push ((Below.refl _ _).alloc (Nat.le_refl _) _) hown1 hg1).post
   · have h1:=encU_big hbig
     go_wp2_with (first
      |(at_builtin
        refine wpList_append_any _ rfl (.tmp 14) (.tmp 19) _ rfl w.heap.size 5 i0 _ 1 1 Tryz.underlying48 hi0 hz0 hz1 hz2 rfl (by omega) (.slice A1 pre.length c1) _ (bytesV pre) (by rfl) (hrow.1.alloc _) (wr.heap.size+1) (some ⟨wr.heap.size,0,none⟩) 1 1 (bytesV [(k%128+128).toUInt8]) (by rfl)
            (by rw[big_byte k];exact reads_new wr 5 _ 1 rfl) (bytesV_one _) (by unfold maxLen;omega) (by omega) (by simp;omega) ?_
        intro v2 w1 hown1 hg1 hat1))
     go_roundw
     case rel=>
      refine⟨k/128,pre++[(k%128+128).toUInt8],by go_num,by omega,?_,hrow.push ((Below.refl _ _).alloc (Nat.le_refl _) _) hown1 hg1⟩
      rw[List.append_assoc,←henc,h1];rfl
     case measure=>simp[intOf];omega)
def XFloatRel (w:World) (x:Nat) (u out i:Value) (wr:World):Prop:=
 ∃(j k:Nat) (pre:List UInt8),j≤8∧i=.int .i64 (j:Int)∧u=.int .u64 (k:Int)∧k<18446744073709551616∧pre.length=j∧pre++leW (8-j) k=leW 8 x∧RowRel w pre out wr
theorem xfloat (a:Nat) (w:World) (ha:a<18446744073709551616):Calls Tryz.prog 134 #[.float .f64 a] w (RowPost w (leW 8 (canonB a))):=by
 obtain⟨i0,hi0,hz0,hz1,hz2⟩:=info_partsW u8_info
 have hcan:canonB a<18446744073709551616:=canonB_lt ha
 go_enter Tryz.func134,Tryz.ntmps134
 go_wp2_with ((with_reducible refine(xbits _ _).mono ?_);rintro e w' ⟨rfl,rfl⟩)
 go_loopw [3,4,5] (fun u out i wr=>XFloatRel w (canonB a) u out i wr) (fun _ _ i _=>8-(intOf i).toNat)
 case atStart=>exact⟨0,_,[],by omega,rfl,rfl,hcan,rfl,rfl,RowRel.start w⟩
 case round=>
  obtain⟨j,k,pre,hj,rfl,rfl,hk,hpl,henc,hrow⟩:=hrel
  have hl8:pre.length≤8:=by omega
  have hzz:=hrow.2.size
  have HP:=Lib.hid hpl
  clear hpl
  obtain⟨A1,c1,rfl,hA1,hA2⟩:=own_form hrow.1
  by_cases hlt:j<8
  · go_wp2_with (first
     |(at_builtin
       refine wpList_append_any _ rfl (.tmp 12) (.tmp 16) _ rfl w.heap.size 5 i0 _ 1 1 Tryz.underlying48 hi0 hz0 hz1 hz2 rfl (by omega) (.slice A1 pre.length c1) _ (bytesV pre) (by rfl) (hrow.1.alloc _) (wr.heap.size+1) (some ⟨wr.heap.size,0,none⟩) 1 1 (bytesV [(k%256).toUInt8]) (by rfl)
               (by rw[mod_byte k];exact reads_new wr 5 _ 1 rfl) (bytesV_one _) (by unfold maxLen;omega) (by omega) (by simp;omega) ?_
       intro v2 w1 hown1 hg1 hat1))
    go_roundw
    case rel=>
        refine⟨j+1,k/256,pre++[(k%256).toUInt8],by omega,by go_num,by go_num,by omega,by simp[HP.out],?_,hrow.push ((Below.refl _ _).alloc (Nat.le_refl _) _) hown1 hg1⟩
        rw[List.append_assoc,←henc,show 8-j=(8-(j+1))+1 from by omega];rfl
    case measure=>simp[intOf];omega
  · obtain rfl:j=8:=by omega
    have hen:pre=leW 8 (canonB a):=by simpa [leW] using henc
    have HE:=Lib.hid hen
    clear hen henc
    go_wp2
    go_ret
    rw[←HE.out]
    exact hrow.post
theorem xtext (s:ByteArray) (w:World) (hs:s.size≤1000000000000):Calls Tryz.prog 75 #[.string s] w (RowPost w (encT s.data.toList)):=by
 obtain⟨i0,hi0,hz0,hz1,hz2⟩:=info_partsW u8_info
 have hel:(encI (s.size:Int)).length≤10:=encI_len (by omega) (by omega)
 go_enter Tryz.func75,Tryz.ntmps75
 go_wp2_with (first
         |((with_reducible refine(xint _ _ (by omega) (by omega)).mono ?_);rintro e w1 ⟨A1,c1,rfl,hA1,hA2,hown,hb⟩)
         |(at_builtin
           refine wpList_append_str _ rfl (.tmp 5) (.tmp 6) _ _ rfl w.heap.size 5 i0 Tryz.underlying48 Tryz.underlying9 hi0 hz0 hz1 hz2 (.slice A1 (encI (s.size:Int)).length c1) _ (bytesV (encI (s.size:Int))) (by rfl) hown s (by rfl)
              (by unfold maxLen;omega) (by omega) hb.size ?_
           intro v2 w2 hown1 hg1 hat1))
 have hsz:s.size=s.data.toList.length:=(Array.length_toList (xs:=s.data)).symm
 have hr:=RowRel.push (w:=w) (more:=s.data.toList) ⟨hown,hb⟩ (Below.refl _ _) (by rw[←hsz];exact hown1) hg1
 go_ret
 unfold encT
 rw[←hsz]
 exact hr.post
end Go.Proofs.YthdmanadhbpogaaGreat
