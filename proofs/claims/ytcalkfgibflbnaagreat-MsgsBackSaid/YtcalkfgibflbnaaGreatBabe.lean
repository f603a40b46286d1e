/- The walks of the document's Writes and PendingMay. -/
import Derived.Test.YtcalkfgibflbnaaGreatBaai
import Derived.Test.YtcalkfgibflbnaaGreatBabd
namespace Go.Proofs.YtcalkfgibflbnaaGreat
set_option maxHeartbeats 4000000
set_option maxRecDepth 100000
set_option linter.unusedVariables false
open Go.RowKit Fl
attribute [local go_sem] dJ
def qo:Option ByteArray->List Wt->Bool
 |_,[]=>true
 |p,a::l=>gY a.key&&(match p with|none=>true|some q=>bl q a.key)&&a.v.may&&qo (some a.key) l
theorem ade:∀(l:List Wt) (p:Option ByteArray),qo p l=(iP p (l.map (·.key))&&lG l):=by
 intro l
 induction l with
 |nil=>intro p;rfl
 |cons a l ih=>
  intro p;cases p with
  |none=>
   show (gY a.key&&true&&a.v.may&&qo (some a.key) l)=((gY a.key&&true&&iP (some a.key) (l.map (·.key)))&&(a.v.may&&lG l));rw[ih];cases gY a.key<;>cases a.v.may<;>cases iP (some a.key) (l.map (·.key))<;>cases lG l<;>rfl
  |some q=>
   show (gY a.key&&bl q a.key&&a.v.may&&qo (some a.key) l)=((gY a.key&&bl q a.key&&iP (some a.key) (l.map (·.key)))&&(a.v.may&&lG l));rw[ih];cases gY a.key<;>cases bl q a.key<;>cases a.v.may<;>cases iP (some a.key) (l.map (·.key))<;>cases lG l<;>rfl
def jY (l:List Wt):Bool:=cu (l.map (·.key))&&lG l
theorem TV (l:List Wt):jY l=(qo none l&&decide ((l.length:Int)<=16)):=by
 unfold jY cu;rw[ade,List.length_map];cases iP none (l.map (·.key))<;>cases lG l<;>simp
def nC (l:List Wt):Nat->Option ByteArray
 |0=>none
 |k+1=>(l[k]?).map (·.key)
theorem adf {l:List Wt} {k:Nat} {a:Wt} (h:l[k]?=some a):
 qo (nC l k) (l.drop k)=(gY a.key&&(match nC l k with|none=>true|some q=>bl q a.key)&&a.v.may&&qo (nC l (k+1)) (l.drop (k+1))):=by
 have h1:=List.getElem?_eq_some_iff.1 h;rw[List.drop_eq_getElem_cons h1.1,h1.2,show nC l (k+1)=some a.key from by show (l[k]?).map (·.key)=_;rw[h];rfl];rfl
def adg (l:List Wt) (w:World) (i:Value) (wr:World):Prop:=∃k:Nat,k<=l.length/\i=.int .i64 (k:Int)/\qo (nC l k) (l.drop k)=qo none l/\Below w.heap.size w wr
theorem zo (A:Option Addr) (n c:Nat) (l:List Wt) (w:World) (h:Sl aF 4 w w.heap.size A n l) (hn:n<=maxLen):
 Calls Tryz.prog 69 #[.slice A n c,.int .i64 16] w fun e w'=>e=.returned (.bool (jY l))/\Below w.heap.size w w':=by
 unfold maxLen at hn;have hl:=h.1;have hge:n<=l.length:=byOmega;by_cases hbig:(n:Int)<=16
 · have hb0:decide ((16:Int)<(n:Int))=false:=ay;have hrb:jY l=qo none l:=(by rw[TV,hl];simp[hbig]);go_enter Tryz.func69,Tryz.ntmps69;go_wp2
   go_loopw [5] (fun i wr=>adg l w i wr) (fun i _=>n-(intOf i).toNat)
   case atStart=>exact⟨0,byOmega,rfl,rfl,aC⟩
   case round=>
    obtain⟨k,hk,rfl,hs,hb⟩:=hrel;have hzz:=hb.size;by_cases hlt:k<n
    · obtain⟨ad,a,rfl,ha,hbk,hok,c0,c1,c2,c3⟩:=((h.below aF.kept hb).more aF.kept hb.size).wt hlt;have hka:=fun w=>EW a.key w
      have hva:=fun w=>DX a.v w
      have hd1:decide ((k:Int)<(n:Int))=true:=ay;have hk0:(0:Int)<=(k:Int):=byOmega;have hk1:(k:Int)<(n:Int):=byOmega;rw[adf ha]at hs;cases hkb:gY a.key
      · rw[hkb]at hka hs;have HF:=au (show jY l=false by rw[hrb,<-hs];rfl);clear hs ha hl;go_wp2
        go_quiet (first|(go_at_call 116;exact nJ (hka _)))
        go_wp2;go_ret;rw[HF.out];exact⟨rfl,hb.trans ((bD _).mono hzz)⟩
      · rw[hkb]at hka hs;by_cases hz:k=0
        · have hd2:decide (0<k)=false:=ay;have hs':(a.v.may&&qo (nC l (k+1)) (l.drop (k+1)))=qo none l:=(by rw[<-hs,hz];simp[nC]);clear hs ha hz;cases hv:a.v.may
          · rw[hv]at hva hs';have HF:=au (show jY l=false by rw[hrb,<-hs'];rfl);clear hs' hl hv;go_wp2;refine wp_region_held_drew (S:=fun w'=>w'.cell? (ad.add (k*4))=some (.string a.key)/\w'.cell? ⟨(ad.add (k*4)).block,(ad.add (k*4)).off+1,none⟩=some (.int .i64 a.v.k)/\w'.cell? ⟨(ad.add (k*4)).block,(ad.add (k*4)).off+2,none⟩=some (.float .f64 a.v.n)/\w'.cell? ⟨(ad.add (k*4)).block,(ad.add (k*4)).off+3,none⟩=some (.string a.v.t)) ah ⟨c0,c1,c2,c3⟩ (fun hHeld=>?_);refine t0 0 16 ?_;go_frame;refine t0 1 17 ?_;go_frame;refine t0 2 18 ?_;go_frame;refine t0 3 19 ?_;go_frame;refine t0 4 20 ?_;go_frame;refine tr 5 rfl fun K hK=>?_
            go_simp
            (with_reducible refine(hka _).mono ?_)
            rintro e w4 ⟨rfl,rfl⟩;refine hK.out _ _ ⟨c0,c1,c2,c3⟩ (fun hHeld=>?_);clear hK K
            try go_frame
            refine t0 6 22 ?_;go_frame;refine t0 7 23 ?_;go_frame;refine t0 8 24 ?_;go_frame;refine t0 9 25 ?_;go_frame;refine t0 10 26 ?_;go_frame;refine tn 11 27 ?_;go_frame;refine tn 12 28 ?_;go_frame;refine tn 13 29 ?_;go_frame;refine tn 14 30 ?_;go_frame;refine tn 15 31 ?_;go_frame;refine tn 16 32 ?_;go_frame;refine tn 17 33 ?_;go_frame;refine tn 18 34 ?_;go_frame;refine tn 19 35 ?_;go_frame;refine tn 20 36 ?_;go_frame;refine tn 21 37 ?_;go_frame;refine tn 22 38 ?_;go_frame;refine t0 23 39 ?_;go_frame;refine t0 24 40 ?_;go_frame;refine t0 25 41 ?_;go_frame;refine t0 26 42 ?_;go_frame;refine t0 27 43 ?_;go_frame;refine t0 28 44 ?_;go_frame;refine t0 29 45 ?_;go_frame;refine t0 30 46 ?_;go_frame;refine tr 31 rfl fun K hK=>?_
            go_simp
            (with_reducible refine(hva _).mono ?_)
            rintro e w5 ⟨rfl,hb5⟩;have aB:Below wr.heap.size wr w5:=(Below.refl wr.heap.size wr).drew.trans hb5;refine hK.out _ _ ⟨(aB.cell hbk).trans c0,(aB.cell (by exact hbk)).trans c1,(aB.cell (by exact hbk)).trans c2,(aB.cell (by exact hbk)).trans c3⟩ (fun hHeld=>?_);clear hK K
            try go_frame
            refine t0 32 48 ?_;go_frame;refine t0 33 49 ?_;go_frame;refine td ?_;go_wp2;go_ret;rw[HF.out];exact⟨rfl,hb.trans (aB.mono hzz)⟩
          · rw[hv]at hva hs';have HS:=au (show qo (nC l (k+1)) (l.drop (k+1))=qo none l from hs');clear hs' hl hv;go_wp2;refine wp_region_held_drew (S:=fun w'=>w'.cell? (ad.add (k*4))=some (.string a.key)/\w'.cell? ⟨(ad.add (k*4)).block,(ad.add (k*4)).off+1,none⟩=some (.int .i64 a.v.k)/\w'.cell? ⟨(ad.add (k*4)).block,(ad.add (k*4)).off+2,none⟩=some (.float .f64 a.v.n)/\w'.cell? ⟨(ad.add (k*4)).block,(ad.add (k*4)).off+3,none⟩=some (.string a.v.t)) ah ⟨c0,c1,c2,c3⟩ (fun hHeld=>?_);refine t0 0 16 ?_;go_frame;refine t0 1 17 ?_;go_frame;refine t0 2 18 ?_;go_frame;refine t0 3 19 ?_;go_frame;refine t0 4 20 ?_;go_frame;refine tr 5 rfl fun K hK=>?_
            go_simp
            (with_reducible refine(hka _).mono ?_)
            rintro e w4 ⟨rfl,rfl⟩;refine hK.out _ _ ⟨c0,c1,c2,c3⟩ (fun hHeld=>?_);clear hK K
            try go_frame
            refine t0 6 22 ?_;go_frame;refine t0 7 23 ?_;go_frame;refine t0 8 24 ?_;go_frame;refine t0 9 25 ?_;go_frame;refine t0 10 26 ?_;go_frame;refine tn 11 27 ?_;go_frame;refine tn 12 28 ?_;go_frame;refine tn 13 29 ?_;go_frame;refine tn 14 30 ?_;go_frame;refine tn 15 31 ?_;go_frame;refine tn 16 32 ?_;go_frame;refine tn 17 33 ?_;go_frame;refine tn 18 34 ?_;go_frame;refine tn 19 35 ?_;go_frame;refine tn 20 36 ?_;go_frame;refine tn 21 37 ?_;go_frame;refine tn 22 38 ?_;go_frame;refine t0 23 39 ?_;go_frame;refine t0 24 40 ?_;go_frame;refine t0 25 41 ?_;go_frame;refine t0 26 42 ?_;go_frame;refine t0 27 43 ?_;go_frame;refine t0 28 44 ?_;go_frame;refine t0 29 45 ?_;go_frame;refine t0 30 46 ?_;go_frame;refine tr 31 rfl fun K hK=>?_
            go_simp
            (with_reducible refine(hva _).mono ?_)
            rintro e w5 ⟨rfl,hb5⟩;have aB:Below wr.heap.size wr w5:=(Below.refl wr.heap.size wr).drew.trans hb5;refine hK.out _ _ ⟨(aB.cell hbk).trans c0,(aB.cell (by exact hbk)).trans c1,(aB.cell (by exact hbk)).trans c2,(aB.cell (by exact hbk)).trans c3⟩ (fun hHeld=>?_);clear hK K
            try go_frame
            refine t0 32 48 ?_;go_frame;refine t0 33 49 ?_;go_frame;refine td ?_;go_wp2;go_roundw
            case rel=>exact⟨k+1,byOmega,by go_num,HS.out,hb.trans (aB.mono hzz)⟩
            case measure=>simp[intOf];omega
        · obtain⟨ad',b,e',hb',gq,hok',y0,-,-,-⟩:=((h.below aF.kept hb).more aF.kept hb.size).wt (k:=k-1) byOmega;injection e' with e'
          subst e';have hd2:decide (0<k)=true:=ay;have hj0:(0:Int)<=(k:Int)-1:=byOmega;have QE:(1:Int)<=(k:Int):=byOmega;have hj1:(k:Int)-1<(n:Int):=byOmega;have hj2:((k:Int)-1).toNat=k-1:=byOmega;have hj3:IntKind.i64.wrap ((k:Int)-1)=(k:Int)-1:=(by rw[IntKind.wrap_i64];omega);have hah:nC l k=some b.key:=by
           cases k with
           |zero=>omega
           |succ j=>show (l[j]?).map (·.key)=_;rw[show l[j]?=some b from hb'];rfl
          rw[hah]at hs;have hle:(Op.bytesLess a.key.toList b.key.toList||a.key.toList==b.key.toList)= !bl b.key a.key:=(by rw[BP];unfold leB;simp);clear hz hah hb' ha hok';cases hbl:bl b.key a.key
          · have HF:=au (show jY l=false by rw[hrb,<-hs];simp[hbl]);rw[hbl]at hle;have hle':(Op.bytesLess a.key.toList b.key.toList||a.key.toList==b.key.toList)=true:=hle;clear hs hl hle;go_wp2
            go_quiet (first|(go_at_call 116;exact nJ (hka _)))
            all_goals go_wp2
            all_goals go_ret
            all_goals rw[HF.out]
            all_goals exact⟨rfl,hb.trans ((bD _).mono hzz)⟩
          · have hs':(a.v.may&&qo (nC l (k+1)) (l.drop (k+1)))=qo none l:=(by rw[<-hs];simp[hbl]);rw[hbl]at hle;have hl1:Op.bytesLess a.key.toList b.key.toList=false/\(a.key.toList==b.key.toList)=false:=(by simpa [Bool.or_eq_false_iff] using hle);obtain⟨hl2,hl3⟩:=hl1;clear hs hle;cases hv:a.v.may
            · rw[hv]at hva hs';have HF:=au (show jY l=false by rw[hrb,<-hs'];rfl);clear hs' hl hv;go_wp2;refine wp_region_held_drew (S:=fun w'=>w'.cell? (ad.add (k*4))=some (.string a.key)/\w'.cell? ⟨(ad.add (k*4)).block,(ad.add (k*4)).off+1,none⟩=some (.int .i64 a.v.k)/\w'.cell? ⟨(ad.add (k*4)).block,(ad.add (k*4)).off+2,none⟩=some (.float .f64 a.v.n)/\w'.cell? ⟨(ad.add (k*4)).block,(ad.add (k*4)).off+3,none⟩=some (.string a.v.t)/\w'.cell? (ad.add ((k-1)*4))=some (.string b.key)) ah ⟨c0,c1,c2,c3,y0⟩ (fun hHeld=>?_);refine t0 0 16 ?_;go_frame;refine t0 1 17 ?_;go_frame;refine t0 2 18 ?_;go_frame;refine t0 3 19 ?_;go_frame;refine t0 4 20 ?_;go_frame;refine tr 5 rfl fun K hK=>?_
              go_simp
              (with_reducible refine(hka _).mono ?_)
              rintro e w4 ⟨rfl,rfl⟩;refine hK.out _ _ ⟨c0,c1,c2,c3,y0⟩ (fun hHeld=>?_);clear hK K
              try go_frame
              refine t0 6 22 ?_;go_frame;refine t0 7 23 ?_;go_frame;refine t0 8 24 ?_;go_frame;refine t0 9 25 ?_;go_frame;refine t0 10 26 ?_;go_frame;refine t0 11 27 ?_;go_frame;refine t0 12 28 ?_;go_frame;refine t0 13 29 ?_;go_frame;refine t0 14 30 ?_;go_frame;refine t0 15 31 ?_;go_frame;refine t0 16 32 ?_;go_frame;refine t0 17 33 ?_;go_frame;refine t0 18 34 ?_;go_frame;refine t0 19 35 ?_;go_frame;refine t0 20 36 ?_;go_frame;refine t0 21 37 ?_;go_frame;refine t0 22 38 ?_;go_frame;refine t0 23 39 ?_;go_frame;refine t0 24 40 ?_;go_frame;refine t0 25 41 ?_;go_frame;refine t0 26 42 ?_;go_frame;refine t0 27 43 ?_;go_frame;refine t0 28 44 ?_;go_frame;refine t0 29 45 ?_;go_frame;refine t0 30 46 ?_;go_frame;refine tr 31 rfl fun K hK=>?_
              go_simp
              (with_reducible refine(hva _).mono ?_)
              rintro e w5 ⟨rfl,hb5⟩;have aB:Below wr.heap.size wr w5:=(Below.refl wr.heap.size wr).drew.trans hb5;refine hK.out _ _ ⟨(aB.cell hbk).trans c0,(aB.cell (by exact hbk)).trans c1,(aB.cell (by exact hbk)).trans c2,(aB.cell (by exact hbk)).trans c3,(aB.cell gq).trans y0⟩ (fun hHeld=>?_);clear hK K
              try go_frame
              refine t0 32 48 ?_;go_frame;refine t0 33 49 ?_;go_frame;refine td ?_;go_wp2;go_ret;rw[HF.out];exact⟨rfl,hb.trans (aB.mono hzz)⟩
            · rw[hv]at hva hs';have HS:=au (show qo (nC l (k+1)) (l.drop (k+1))=qo none l from hs');clear hs' hl hv;go_wp2;refine wp_region_held_drew (S:=fun w'=>w'.cell? (ad.add (k*4))=some (.string a.key)/\w'.cell? ⟨(ad.add (k*4)).block,(ad.add (k*4)).off+1,none⟩=some (.int .i64 a.v.k)/\w'.cell? ⟨(ad.add (k*4)).block,(ad.add (k*4)).off+2,none⟩=some (.float .f64 a.v.n)/\w'.cell? ⟨(ad.add (k*4)).block,(ad.add (k*4)).off+3,none⟩=some (.string a.v.t)/\w'.cell? (ad.add ((k-1)*4))=some (.string b.key)) ah ⟨c0,c1,c2,c3,y0⟩ (fun hHeld=>?_);refine t0 0 16 ?_;go_frame;refine t0 1 17 ?_;go_frame;refine t0 2 18 ?_;go_frame;refine t0 3 19 ?_;go_frame;refine t0 4 20 ?_;go_frame;refine tr 5 rfl fun K hK=>?_
              go_simp
              (with_reducible refine(hka _).mono ?_)
              rintro e w4 ⟨rfl,rfl⟩;refine hK.out _ _ ⟨c0,c1,c2,c3,y0⟩ (fun hHeld=>?_);clear hK K
              try go_frame
              refine t0 6 22 ?_;go_frame;refine t0 7 23 ?_;go_frame;refine t0 8 24 ?_;go_frame;refine t0 9 25 ?_;go_frame;refine t0 10 26 ?_;go_frame;refine t0 11 27 ?_;go_frame;refine t0 12 28 ?_;go_frame;refine t0 13 29 ?_;go_frame;refine t0 14 30 ?_;go_frame;refine t0 15 31 ?_;go_frame;refine t0 16 32 ?_;go_frame;refine t0 17 33 ?_;go_frame;refine t0 18 34 ?_;go_frame;refine t0 19 35 ?_;go_frame;refine t0 20 36 ?_;go_frame;refine t0 21 37 ?_;go_frame;refine t0 22 38 ?_;go_frame;refine t0 23 39 ?_;go_frame;refine t0 24 40 ?_;go_frame;refine t0 25 41 ?_;go_frame;refine t0 26 42 ?_;go_frame;refine t0 27 43 ?_;go_frame;refine t0 28 44 ?_;go_frame;refine t0 29 45 ?_;go_frame;refine t0 30 46 ?_;go_frame;refine tr 31 rfl fun K hK=>?_
              go_simp
              (with_reducible refine(hva _).mono ?_)
              rintro e w5 ⟨rfl,hb5⟩;have aB:Below wr.heap.size wr w5:=(Below.refl wr.heap.size wr).drew.trans hb5;refine hK.out _ _ ⟨(aB.cell hbk).trans c0,(aB.cell (by exact hbk)).trans c1,(aB.cell (by exact hbk)).trans c2,(aB.cell (by exact hbk)).trans c3,(aB.cell gq).trans y0⟩ (fun hHeld=>?_);clear hK K
              try go_frame
              refine t0 32 48 ?_;go_frame;refine t0 33 49 ?_;go_frame;refine td ?_;go_wp2;go_roundw
              case rel=>exact⟨k+1,byOmega,by go_num,HS.out,hb.trans (aB.mono hzz)⟩
              case measure=>simp[intOf];omega
    · have hd1:decide ((k:Int)<(n:Int))=false:=ay;have HS:=au (show jY l=true by rw[hrb,<-hs,bF byOmega];rfl);clear hs hl;go_wp2;go_ret;rw[HS.out];exact⟨rfl,hb⟩
 · have hb0:decide ((16:Int)<(n:Int))=true:=ay;have HF:=au (show jY l=false by rw[TV,hl];simp;omega);clear hl;go_enter Tryz.func69,Tryz.ntmps69;go_wp2;go_ret;rw[HF.out];exact⟨rfl,aC⟩
theorem TW (p:Pn) (A1 A2:Option Addr) (n1 n2 c1 c2:Nat) (w:World) (hr:Sl aO 1 w w.heap.size A1 n1 p.r) (hw:Sl aF 4 w w.heap.size A2 n2 p.w) (hn1:n1<=maxLen) (hn2:n2<=maxLen):
 Calls Tryz.prog 176 #[p.val (.slice A1 n1 c1) (.slice A2 n2 c2)] w fun e w'=>e=.returned (.int .i64 (dw p))/\Below w.heap.size w w':=by
 have ht':=fun w=>nI p.t w
 have hs':=fun w=>jF p.s w
 have zT:=fun w=>fQ p.s w
 have hB:=aj.new w 162 #[.int .i64 p.t.c,.int .i64 p.t.l,.int .i64 p.t.s,.int .i64 p.s.w,.int .i64 p.s.l,.int .i64 p.s.n,.slice A1 n1 c1,.slice A2 n2 c2];have hX:Below w.heap.size w (w.alloc (.cells #[.int .i64 p.t.c,.int .i64 p.t.l,.int .i64 p.t.s,.int .i64 p.s.w,.int .i64 p.s.l,.int .i64 p.s.n,.slice A1 n1 c1,.slice A2 n2 c2] 162)):=aJ;have hK:=fun w' (hb:Below w.heap.size w w')=>Ai A1 n1 c1 p.r w' ((hr.below aO.kept hb).more aO.kept hb.size) hn1
 have hW:=fun w' (hb:Below w.heap.size w w')=>zo A2 n2 c2 p.w w' ((hw.below aF.kept hb).more aF.kept hb.size) hn2
 cases ht:p.t.may
 · have HF:=au (show dw p=4 by unfold dw;rw[ht];rfl);rw[ht]at ht';clear ht;go_enter Tryz.func176,Tryz.ntmps176;go_wp2_with ((with_reducible refine(ht' _).mono ?_);rintro e w1 ⟨rfl,hb1⟩);go_ret;rw[HF.out];exact⟨rfl,hX.trans (hb1.mono hX.size)⟩
 rw[ht]at ht';cases hsm:p.s.may
 · have HF:=au (show dw p=17 by unfold dw;rw[ht,hsm];rfl);rw[hsm]at hs';clear ht hsm;cases hz:p.s.zero;all_goals
    rw[hz]at zT;clear hz;go_enter Tryz.func176,Tryz.ntmps176;go_wp2_with (first
        |((with_reducible refine(ht' _).mono ?_);rintro e w1 ⟨rfl,hb1⟩
          have hB1:=hB.below hb1 hB.lt;have hY:=hX.trans (hb1.mono hX.size);obtain⟨g1,x0,x1,x2,x3,x4,x5,x6,x7⟩:=hB1.eight)
        |((with_reducible refine(hs' _).mono ?_);rintro e w2 ⟨rfl,hb2⟩))
    go_ret;rw[HF.out];exact⟨rfl,hY.trans (hb2.mono hY.size)⟩
 rw[hsm]at hs';cases hz:p.s.zero
 · rw[hz]at zT;have hE:dw p=if !cu p.r|| !jY p.w then 4 else 0:=by
    unfold dw jY;rw[ht,hsm,hz];cases cu p.r<;>cases cu (p.w.map (·.key))<;>cases lG p.w<;>rfl
   clear ht hsm hz;cases hr1:cu p.r
   · rw[hr1]at hK;have HF:=au (show dw p=4 by rw[hE,hr1];rfl);clear hE hr1;go_enter Tryz.func176,Tryz.ntmps176;go_wp2_with (first
      |((with_reducible refine(ht' _).mono ?_);rintro e w1 ⟨rfl,hb1⟩
        have hB1:=hB.below hb1 hB.lt;have hY:=hX.trans (hb1.mono hX.size);obtain⟨g1,x0,x1,x2,x3,x4,x5,x6,x7⟩:=hB1.eight)
      |((with_reducible refine(hs' _).mono ?_);rintro e w2 ⟨rfl,hb2⟩
        have hB2:=hB1.below hb2 hB1.lt;have hZ:=hY.trans (hb2.mono hY.size);obtain⟨g2,y0,y1,y2,y3,y4,y5,y6,y7⟩:=hB2.eight)
      |((with_reducible refine(hK _ hZ).mono ?_);rintro e w3 ⟨rfl,hb3⟩))
     go_ret;rw[HF.out];exact⟨rfl,hZ.trans (hb3.mono hZ.size)⟩
   · rw[hr1]at hK;cases hw1:jY p.w;all_goals
      rw[hw1]at hW;have HF:=au hE;rw[hr1,hw1]at HF;clear hE hr1 hw1;go_enter Tryz.func176,Tryz.ntmps176;go_wp2_with (first
        |((with_reducible refine(ht' _).mono ?_);rintro e w1 ⟨rfl,hb1⟩
          have hB1:=hB.below hb1 hB.lt;have hY:=hX.trans (hb1.mono hX.size);obtain⟨g1,x0,x1,x2,x3,x4,x5,x6,x7⟩:=hB1.eight)
        |((with_reducible refine(hs' _).mono ?_);rintro e w2 ⟨rfl,hb2⟩
          have hB2:=hB1.below hb2 hB1.lt;have hZ:=hY.trans (hb2.mono hY.size);obtain⟨g2,y0,y1,y2,y3,y4,y5,y6,y7⟩:=hB2.eight)
        |((with_reducible refine(hK _ hZ).mono ?_);rintro e w3 ⟨rfl,hb3⟩
          have hB3:=hB2.below hb3 hB2.lt;have hQ:=hZ.trans (hb3.mono hZ.size);obtain⟨g3,z0,z1,z2,z3,z4,z5,z6,z7⟩:=hB3.eight)
        |((with_reducible refine(hW _ hQ).mono ?_);rintro e w4 ⟨rfl,hb4⟩))
      go_ret;rw[HF.out];exact⟨rfl,hQ.trans (hb4.mono hQ.size)⟩
 · have HF:=au (show dw p=17 by unfold dw;rw[ht,hsm,hz];rfl);rw[hz]at zT;clear ht hsm hz;go_enter Tryz.func176,Tryz.ntmps176;go_wp2_with (first
    |((with_reducible refine(ht' _).mono ?_);rintro e w1 ⟨rfl,hb1⟩
      have hB1:=hB.below hb1 hB.lt;have hY:=hX.trans (hb1.mono hX.size);obtain⟨g1,x0,x1,x2,x3,x4,x5,x6,x7⟩:=hB1.eight)
    |((with_reducible refine(hs' _).mono ?_);rintro e w2 ⟨rfl,hb2⟩))
   go_ret;rw[HF.out];exact⟨rfl,hY.trans (hb2.mono hY.size)⟩
