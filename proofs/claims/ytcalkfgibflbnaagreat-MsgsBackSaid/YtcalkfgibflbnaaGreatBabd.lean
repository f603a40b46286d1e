/- One text stands ahead of another one just if the other one does not stand ahead of it, and they are not one. -/
import Derived.Sort.Walk0
import Derived.Test.YtcalkfgibflbnaaGreatBaaf
namespace Go.Proofs.YtcalkfgibflbnaaGreat
open Go.RowKit Fl
theorem TS:∀a b:List UInt8,Op.bytesLess b a= !(Op.bytesLess a b||a==b)
 |[],[]=>rfl
 |[],_::_=>rfl
 |_::_,[]=>rfl
 |x::a,y::b=>by
  have ih:=TS a b;show (decide (y<x)||(y==x&&Op.bytesLess b a))= !((decide (x<y)||(x==y&&Op.bytesLess a b))||((x==y)&&(a==b)));rw[ih];by_cases h:x=y
  · subst h;have h1:¬x<x:=UInt8.lt_irrefl x;simp[h1]
  · have h2:(x==y)=false:=(by simpa using h);have h3:(y==x)=false:=(by simpa using fun e:y=x=>h e.symm);rw[h2,h3];by_cases h4:x<y
    · have h5:¬y<x:=UInt8.lt_asymm h4;simp[h4,h5]
    · have h5:y<x:=UInt8.lt_of_le_of_ne (UInt8.not_lt.1 h4) (fun e=>h e.symm);simp[h4,h5]
theorem BP (a b:ByteArray):bl b a= !leB a b:=by
 unfold bl leB;exact TS a.toList b.toList
end Go.Proofs.YtcalkfgibflbnaaGreat
namespace Go.Proofs.YtcalkfgibflbnaaGreat
open Go.RowKit Fl
attribute [local go_sem] dJ
def ada (l:List ByteArray) (w:World) (i:Value) (wr:World):Prop:=∃k:Nat,k<=l.length/\i=.int .i64 (k:Int)/\iP (ahead l k) (l.drop k)=iP none l/\Below w.heap.size w wr
set_option maxRecDepth 100000 in
set_option maxHeartbeats 4000000 in
theorem Ai (A:Option Addr) (n c:Nat) (l:List ByteArray) (w:World) (h:Sl aO 1 w w.heap.size A n l) (hn:n<=maxLen):
 Calls Tryz.prog 66 #[.slice A n c,.int .i64 16] w fun e w'=>e=.returned (.bool (cu l))/\Below w.heap.size w w':=by
 unfold maxLen at hn;have hl:=h.1;have hge:n<=l.length:=byOmega;by_cases hbig:(n:Int)<=16
 · have hb0:decide ((16:Int)<(n:Int))=false:=ay;have hrb:cu l=iP none l:=(by unfold cu;rw[hl];simp[hbig]);go_enter Tryz.func66,Tryz.ntmps66;go_wp2
   go_loopw [5] (fun i wr=>ada l w i wr) (fun i _=>n-(intOf i).toNat)
   case atStart=>exact⟨0,byOmega,rfl,rfl,aC⟩
   case round=>
    obtain⟨k,hk,rfl,hs,hb⟩:=hrel;have hzz:=hb.size;by_cases hlt:k<n
    · obtain⟨ad,a,rfl,ha,hbk,hok,c0⟩:=(h.below aO.kept hb).ky hlt;have hka:=fun w=>EW a w
      have hd1:decide ((k:Int)<(n:Int))=true:=ay;have hk0:(0:Int)<=(k:Int):=byOmega;have hk1:(k:Int)<(n:Int):=byOmega;rw[Ib ha]at hs;cases hkb:gY a
      · rw[hkb]at hka hs;have HF:=au (show cu l=false by rw[hrb,<-hs];rfl);clear hs ha hl;go_wp2
        go_quiet (first|(go_at_call 116;exact nJ (hka _)))
        go_wp2;go_ret;rw[HF.out];exact⟨rfl,hb.trans ((bD _).mono hzz)⟩
      · rw[hkb]at hka hs;by_cases hz:k=0
        · have hd2:¬(0<k):=byOmega;have HS:=au (show iP (ahead l (k+1)) (l.drop (k+1))=iP none l by rw[<-hs,hz];simp[ahead]);clear hs hl ha hz;go_wp2
          go_quiet (first|(go_at_call 116;exact nJ (hka _)))
          go_wp2;go_roundw
          case rel=>exact⟨k+1,byOmega,by go_num,HS.out,hb.trans ((bD _).mono hzz)⟩
          case measure=>simp[intOf];omega
        · obtain⟨ad',b,e',hb',gq,hok',d0⟩:=(h.below aO.kept hb).ky (k:=k-1) byOmega;injection e' with e'
          subst e';have hd2:0<k:=byOmega;have hj0:(0:Int)<=(k:Int)-1:=byOmega;have hj1:(k:Int)-1<(n:Int):=byOmega;have hj2:((k:Int)-1).toNat=k-1:=byOmega;have hah:ahead l k=some b:=by
           cases k with
           |zero=>omega
           |succ j=>exact hb'
          rw[hah]at hs;have hle:(Op.bytesLess a.toList b.toList||a.toList==b.toList)= !bl b a:=(by rw[BP];unfold leB;simp);cases hbl:bl b a
          · have HF:=au (show cu l=false by rw[hrb,<-hs];simp[hbl]);rw[hbl]at hle;have hle':(Op.bytesLess a.toList b.toList||a.toList==b.toList)=true:=hle;clear hs hl ha hb' hz hah hle;go_wp2
            go_quiet (first|(go_at_call 116;exact nJ (hka _)))
            all_goals go_wp2
            all_goals go_ret
            all_goals rw[HF.out]
            all_goals exact⟨rfl,hb.trans ((bD _).mono hzz)⟩
          · have HS:=au (show iP (ahead l (k+1)) (l.drop (k+1))=iP none l by rw[<-hs];simp[hbl]);rw[hbl]at hle;have hl1:Op.bytesLess a.toList b.toList=false/\(a.toList==b.toList)=false:=(by simpa [Bool.or_eq_false_iff] using hle);obtain⟨hl2,hl3⟩:=hl1;clear hs hl ha hb' hz hah hle;go_wp2
            go_quiet (first|(go_at_call 116;exact nJ (hka _)))
            go_wp2;go_roundw
            case rel=>exact⟨k+1,byOmega,by go_num,HS.out,hb.trans ((bD _).mono hzz)⟩
            case measure=>simp[intOf];omega
    · have hd1:decide ((k:Int)<(n:Int))=false:=ay;have HS:=au (show cu l=true by rw[hrb,<-hs,bF byOmega];rfl);clear hs hl;go_wp2;go_ret;rw[HS.out];exact⟨rfl,hb⟩
 · have hb0:decide ((16:Int)<(n:Int))=true:=ay;have HF:=au (show cu l=false by unfold cu;rw[hl];simp;omega);clear hl;go_enter Tryz.func66,Tryz.ntmps66;go_wp2;go_ret;rw[HF.out];exact⟨rfl,aC⟩
end Go.Proofs.YtcalkfgibflbnaaGreat
namespace Go.Proofs.YtcalkfgibflbnaaGreat
set_option linter.unusedVariables false
open Go.RowKit Fl
theorem adb {a b c:ByteArray} (h1:bl a b=true) (h2:bl b c=true):bl a c=true:=by
 unfold bl at*;rw[bytesLess_eq,decide_eq_true_eq]at*;exact List.lt_trans h1 h2
theorem TT {p:Pn}:dw p=0↔p.t.may=true/\p.s.may=true/\p.s.zero=false/\cu p.r=true/\cu (p.w.map (·.key))=true/\lG p.w=true:=by
 unfold dw;cases p.t.may<;>cases p.s.may<;>cases p.s.zero<;>cases cu p.r<;>cases cu (p.w.map (·.key))<;>cases lG p.w<;>simp
theorem TU {p:ByteArray} {h:Hs} (hh:nM p h=true):bl p h.key=true:=by
 unfold nM at hh;simp only[<-BP]at hh;simp only[Bool.and_eq_true]at hh;exact hh.1.1.2
