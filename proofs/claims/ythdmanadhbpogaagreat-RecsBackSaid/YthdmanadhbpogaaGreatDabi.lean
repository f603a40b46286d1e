/- The walks of Parts, the program's and the document's. -/
import Derived.Test.YthdmanadhbpogaaGreatDaab
import Derived.Test.YthdmanadhbpogaaGreatDaac
import Derived.Test.YthdmanadhbpogaaGreatDaag
namespace Go.Proofs.YthdmanadhbpogaaGreat
set_option maxHeartbeats 4000000
set_option maxRecDepth 100000
set_option linter.unusedVariables false
open Go.RowKit Fl
attribute [local go_sem] run_store_float
def numsFrom:Option Int→List Int→Bool
 |_,[]=>true
 |p,n::l=>decide (1≤n)&&decide (n≤12)&&(match p with|none=>true|some q=>decide (q<n))&&numsFrom (some n) l
def partsB (l:List Int):Bool:=numsFrom none l&&decide (0<l.length)
theorem numsFrom_drop {l:List Int} {k:Nat} {a:Int} (h:l[k]?=some a):
 numsFrom (ahead l k) (l.drop k)=(decide (1≤a)&&decide (a≤12)&&(match ahead l k with|none=>true|some q=>decide (q<a))&&numsFrom (ahead l (k+1)) (l.drop (k+1))):=by
 have h1:=List.getElem?_eq_some_iff.1 h
 rw[List.drop_eq_getElem_cons h1.1,h1.2]
 show (_&&_&&_&&numsFrom (some a) _)=_
 rw[show ahead l (k+1)=some a from h]
theorem nums_len:∀(l:List Int) (q:Int),q≤12→numsFrom (some q) l=true→(l.length:Int)≤12-q:=by
 intro l
 induction l with
 |nil=>intro q h1 _;simp;omega
 |cons n l ih=>
  intro q h1 h
  have h':(decide (1≤n)&&decide (n≤12)&&decide (q<n)&&numsFrom (some n) l)=true:=h
  simp only[Bool.and_eq_true,decide_eq_true_eq]at h'
  obtain⟨⟨⟨h2,h3⟩,h4⟩,h5⟩:=h'
  have:=ih n h3 h5
  simp only[List.length_cons]
  omega
theorem nums_len0 {l:List Int} (h:numsFrom none l=true):l.length≤12:=by
 cases l with
 |nil=>simp
 |cons n l=>
  have h':(decide (1≤n)&&decide (n≤12)&&true&&numsFrom (some n) l)=true:=h
  simp only[Bool.and_eq_true,decide_eq_true_eq]at h'
  obtain⟨⟨⟨h2,h3⟩,-⟩,h5⟩:=h'
  have:=nums_len l n h3 h5
  simp only[List.length_cons]
  omega
def NumsRel (l:List Int) (w:World) (i:Value) (wr:World):Prop:=∃k:Nat,k≤l.length∧i=.int .i64 (k:Int)∧numsFrom (ahead l k) (l.drop k)=numsFrom none l∧w=wr
theorem parts_any (A:Option Addr) (n c:Nat) (l:List Int) (w:World) (h:Sl NmRel 1 w w.heap.size A n l) (hn:n≤maxLen):
 Calls Tryz.prog 14 #[.slice A n c] w fun e w'=>e=.returned (.bool (partsB l))∧w=w':=by
 unfold maxLen at hn
 have hl:=h.1
 have hge:n≤l.length:=by omega
 go_enter Tryz.func14,Tryz.ntmps14
 go_wp2
 go_loopw [7] (fun i wr=>NumsRel l w i wr) (fun i _=>n-(intOf i).toNat)
 case atStart=>exact⟨0,by omega,rfl,rfl,rfl⟩
 case round=>
  obtain⟨k,hk,rfl,hs,rfl⟩:=hrel
  by_cases hlt:k<n
  · obtain⟨ad,a,rfl,ha,hbk,hok,c0⟩:=h.nm hlt
    have hd1:decide ((k:Int)<(n:Int))=true:=by simp;omega
    have hk0:(0:Int)≤(k:Int):=by omega
    have hk1:(k:Int)<(n:Int):=by omega
    rw[numsFrom_drop ha]at hs
    by_cases h1:a<1
    · have HF:RowKit.Hid (partsB l=false):=by refine Lib.hid ?_;unfold partsB;rw[←hs,decide_eq_false (show ¬1≤a by omega)];rfl
      clear hs ha hl
      go_wp2
      go_ret
      rw[HF.out]
      exact⟨rfl,rfl⟩
    · rw[decide_eq_true (show 1≤a by omega),Bool.true_and]at hs
      by_cases h2:12<a
      · have HF:RowKit.Hid (partsB l=false):=by refine Lib.hid ?_;unfold partsB;rw[←hs,decide_eq_false (show ¬a≤12 by omega)];rfl
        clear hs ha hl
        go_wp2
        go_ret
        rw[HF.out]
        exact⟨rfl,rfl⟩
      · rw[decide_eq_true (show a≤12 by omega),Bool.true_and]at hs
        by_cases hz:k=0
        · have hd2:¬(0<k):=by omega
          have HS:=Lib.hid (show numsFrom (ahead l (k+1)) (l.drop (k+1))=numsFrom none l by rw[←hs,hz];simp[ahead])
          clear hs hl ha hz
          go_wp2
          go_roundw
          case rel=>exact⟨k+1,by omega,by go_num,HS.out,rfl⟩
          case measure=>simp[intOf];omega
        · obtain⟨ad',b,e',hb,hbk',hok',d0⟩:=h.nm (k:=k-1) (by omega)
          injection e' with e'
          subst e'
          have hd2:0<k:=by omega
          have hj0:(0:Int)≤(k:Int)-1:=by omega
          have hj1:(k:Int)-1<(n:Int):=by omega
          have hj2:((k:Int)-1).toNat=k-1:=by omega
          have hah:ahead l k=some b:=by
           cases k with
           |zero=>omega
           |succ j=>exact hb
          rw[hah]at hs
          by_cases h3:a≤b
          · have HF:RowKit.Hid (partsB l=false):=by refine Lib.hid ?_;unfold partsB;rw[←hs];simp[show ¬b<a by omega]
            clear hs hl ha hb hz hah
            go_wp2
            go_ret
            rw[HF.out]
            exact⟨rfl,rfl⟩
          · have HS:=Lib.hid (show numsFrom (ahead l (k+1)) (l.drop (k+1))=numsFrom none l by rw[←hs];simp only[decide_eq_true (show b<a by omega),Bool.true_and])
            clear hs hl ha hb hz hah
            go_wp2
            go_roundw
            case rel=>exact⟨k+1,by omega,by go_num,HS.out,rfl⟩
            case measure=>simp[intOf];omega
  · have hd1:decide ((k:Int)<(n:Int))=false:=by simp;omega
    have HS:=Lib.hid (show partsB l=decide ((0:Int)<(n:Int)) by unfold partsB;rw[←hs,List.drop_of_length_le (by omega),hl];simp[numsFrom])
    clear hs hl
    go_wp2
    go_ret
    rw[HS.out]
    exact⟨by simp,rfl⟩
def NumsRel2 (l:List Int) (w:World) (i:Value) (wr:World):Prop:=∃k:Nat,k≤l.length∧i=.int .i64 (k:Int)∧numsFrom (ahead l k) (l.drop k)=numsFrom none l∧Below w.heap.size w wr
theorem rparts_any (A:Option Addr) (n c:Nat) (l:List Int) (w:World) (h:Sl NmRel 1 w w.heap.size A n l) (hn:n≤maxLen):
 Calls Tryz.prog 15 #[.slice A n c] w fun e w'=>e=.returned (.bool (partsB l))∧Below w.heap.size w w':=by
 unfold maxLen at hn
 have hl:=h.1
 have hge:n≤l.length:=by omega
 by_cases hsm:1≤n∧n≤12
 · have hb0:¬((n:Int)<1):=by omega
   have hb1:¬((12:Int)<(n:Int)):=by omega
   have hrb:partsB l=numsFrom none l:=by unfold partsB;rw[hl,decide_eq_true (show 0<n by omega),Bool.and_true]
   go_enter Tryz.func15,Tryz.ntmps15
   go_wp2
   go_loopw [3] (fun i wr=>NumsRel2 l w i wr) (fun i _=>n-(intOf i).toNat)
   case atStart=>exact⟨0,by omega,rfl,rfl,Below.refl _ _⟩
   case round=>
    obtain⟨k,hk,rfl,hs,hb⟩:=hrel
    have hzz:=hb.size
    by_cases hlt:k<n
    · obtain⟨ad,a,rfl,ha,hbk,hok,c0⟩:=(h.below NmRel.kept hb).nm hlt
      have hd1:decide ((k:Int)<(n:Int))=true:=by simp;omega
      have hk0:(0:Int)≤(k:Int):=by omega
      have hk1:(k:Int)<(n:Int):=by omega
      rw[numsFrom_drop ha]at hs
      by_cases h1:a<1
      · have HF:RowKit.Hid (partsB l=false):=by refine Lib.hid ?_;rw[hrb,←hs,decide_eq_false (show ¬1≤a by omega)];rfl
        clear hs ha hl
        go_wp2
        go_quiet (fail)
        go_wp2
        go_ret
        rw[HF.out]
        exact⟨rfl,hb.trans ((belowN _).mono hzz)⟩
      · rw[decide_eq_true (show 1≤a by omega),Bool.true_and]at hs
        by_cases h2:12<a
        · have HF:RowKit.Hid (partsB l=false):=by refine Lib.hid ?_;rw[hrb,←hs,decide_eq_false (show ¬a≤12 by omega)];rfl
          have hd3:decide ((12:Int)<a)=true:=by simp;omega
          have hd4:decide (a<1)=false:=by simp;omega
          clear hs ha hl h1 h2
          go_wp2
          refine wp_region_held_drew (S:=fun w'=>w'.cell? (ad.add k)=some (.int .i64 a)) (by kernel_rfl) c0 (fun hHeld=>?_)
          refine t0 0 18 ?_
          go_frame
          refine t0 1 19 ?_
          go_frame
          refine t0 2 20 ?_
          go_frame
          refine t0 3 21 ?_
          go_frame
          refine t0 4 22 ?_
          go_frame
          refine t0 5 23 ?_
          go_frame
          refine t0 6 24 ?_
          go_frame
          refine t0 7 25 ?_
          go_frame
          refine t0 8 26 ?_
          go_frame
          refine t0 9 27 ?_
          go_frame
          refine t0 10 28 ?_
          go_frame
          refine t0 11 29 ?_
          go_frame
          refine t0 12 30 ?_
          go_frame
          refine tn 13 31 ?_
          go_frame
          refine tn 14 32 ?_
          go_frame
          refine tn 15 33 ?_
          go_frame
          refine tn 16 34 ?_
          go_frame
          refine tn 17 35 ?_
          go_frame
          refine tn 18 36 ?_
          go_frame
          refine tn 19 37 ?_
          go_frame
          refine tn 20 38 ?_
          go_frame
          refine tn 21 39 ?_
          go_frame
          refine tn 22 40 ?_
          go_frame
          refine tn 23 41 ?_
          go_frame
          refine tn 24 42 ?_
          go_frame
          refine tn 25 43 ?_
          go_frame
          refine tn 26 44 ?_
          go_frame
          refine t0 27 45 ?_
          go_frame
          refine td ?_
          go_wp2
          go_ret
          rw[HF.out]
          exact⟨rfl,hb.trans ((belowN _).mono hzz)⟩
        · rw[decide_eq_true (show a≤12 by omega),Bool.true_and]at hs
          by_cases hz:k=0
          · have hd2:¬(0<k):=by omega
            have HS:=Lib.hid (show numsFrom (ahead l (k+1)) (l.drop (k+1))=numsFrom none l by rw[←hs,hz];simp[ahead])
            have hd3:decide ((12:Int)<a)=false:=by simp;omega
            have hd4:decide (a<1)=false:=by simp;omega
            have hd5:decide (0<k)=false:=by simp;omega
            clear hs hl ha hz h1 h2
            go_wp2
            refine wp_region_held_drew (S:=fun w'=>w'.cell? (ad.add k)=some (.int .i64 a)) (by kernel_rfl) c0 (fun hHeld=>?_)
            refine t0 0 18 ?_
            go_frame
            refine t0 1 19 ?_
            go_frame
            refine t0 2 20 ?_
            go_frame
            refine t0 3 21 ?_
            go_frame
            refine t0 4 22 ?_
            go_frame
            refine t0 5 23 ?_
            go_frame
            refine t0 6 24 ?_
            go_frame
            refine t0 7 25 ?_
            go_frame
            refine t0 8 26 ?_
            go_frame
            refine t0 9 27 ?_
            go_frame
            refine t0 10 28 ?_
            go_frame
            refine t0 11 29 ?_
            go_frame
            refine t0 12 30 ?_
            go_frame
            refine t0 13 31 ?_
            go_frame
            refine t0 14 32 ?_
            go_frame
            refine t0 15 33 ?_
            go_frame
            refine tn 16 34 ?_
            go_frame
            refine tn 17 35 ?_
            go_frame
            refine tn 18 36 ?_
            go_frame
            refine tn 19 37 ?_
            go_frame
            refine tn 20 38 ?_
            go_frame
            refine tn 21 39 ?_
            go_frame
            refine tn 22 40 ?_
            go_frame
            refine tn 23 41 ?_
            go_frame
            refine tn 24 42 ?_
            go_frame
            refine tn 25 43 ?_
            go_frame
            refine t0 26 44 ?_
            go_frame
            refine t0 27 45 ?_
            go_frame
            refine td ?_
            go_wp2
            go_roundw
            case rel=>exact⟨k+1,by omega,by go_num,HS.out,hb.trans ((belowN _).mono hzz)⟩
            case measure=>simp[intOf];omega
          · obtain⟨ad',b,e',hb',hbk',hok',d0⟩:=(h.below NmRel.kept hb).nm (k:=k-1) (by omega)
            injection e' with e'
            subst e'
            have hd2:0<k:=by omega
            have hj0:(0:Int)≤(k:Int)-1:=by omega
            have hj1:(k:Int)-1<(n:Int):=by omega
            have hj2:((k:Int)-1).toNat=k-1:=by omega
            have hah:ahead l k=some b:=by
             cases k with
             |zero=>omega
             |succ j=>exact hb'
            rw[hah]at hs
            by_cases h3:a≤b
            · have HF:RowKit.Hid (partsB l=false):=by refine Lib.hid ?_;rw[hrb,←hs];simp[show ¬b<a by omega]
              have hd3:decide ((12:Int)<a)=false:=by simp;omega
              have hd4:decide (a<1)=false:=by simp;omega
              have hd5:decide (0<k)=true:=by simp;omega
              have hd6:decide (a≤b)=true:=by simp;omega
              have hj3:IntKind.i64.wrap ((k:Int)-1)=(k:Int)-1:=by rw[IntKind.wrap_i64];omega
              have hj4:(1:Int)≤(k:Int):=by omega
              clear hs hl ha hb' hz hah h1 h2
              go_wp2
              refine wp_region_held_drew (S:=fun w'=>w'.cell? (ad.add k)=some (.int .i64 a)∧w'.cell? (ad.add (k-1))=some (.int .i64 b)) (by kernel_rfl) ⟨c0,d0⟩ (fun hHeld=>?_)
              refine t0 0 18 ?_
              go_frame
              refine t0 1 19 ?_
              go_frame
              refine t0 2 20 ?_
              go_frame
              refine t0 3 21 ?_
              go_frame
              refine t0 4 22 ?_
              go_frame
              refine t0 5 23 ?_
              go_frame
              refine t0 6 24 ?_
              go_frame
              refine t0 7 25 ?_
              go_frame
              refine t0 8 26 ?_
              go_frame
              refine t0 9 27 ?_
              go_frame
              refine t0 10 28 ?_
              go_frame
              refine t0 11 29 ?_
              go_frame
              refine t0 12 30 ?_
              go_frame
              refine t0 13 31 ?_
              go_frame
              refine t0 14 32 ?_
              go_frame
              refine t0 15 33 ?_
              go_frame
              refine t0 16 34 ?_
              go_frame
              refine t0 17 35 ?_
              go_frame
              refine t0 18 36 ?_
              go_frame
              refine t0 19 37 ?_
              go_frame
              refine t0 20 38 ?_
              go_frame
              refine t0 21 39 ?_
              go_frame
              refine t0 22 40 ?_
              go_frame
              refine t0 23 41 ?_
              go_frame
              refine t0 24 42 ?_
              go_frame
              refine t0 25 43 ?_
              go_frame
              refine t0 26 44 ?_
              go_frame
              refine t0 27 45 ?_
              go_frame
              refine td ?_
              go_wp2
              go_ret
              rw[HF.out]
              exact⟨rfl,hb.trans ((belowN _).mono hzz)⟩
            · have HS:=Lib.hid (show numsFrom (ahead l (k+1)) (l.drop (k+1))=numsFrom none l by rw[←hs];simp only[decide_eq_true (show b<a by omega),Bool.true_and])
              have hd3:decide ((12:Int)<a)=false:=by simp;omega
              have hd4:decide (a<1)=false:=by simp;omega
              have hd5:decide (0<k)=true:=by simp;omega
              have hd6:decide (a≤b)=false:=by simp;omega
              have hj3:IntKind.i64.wrap ((k:Int)-1)=(k:Int)-1:=by rw[IntKind.wrap_i64];omega
              have hj4:(1:Int)≤(k:Int):=by omega
              clear hs hl ha hb' hz hah h1 h2
              go_wp2
              refine wp_region_held_drew (S:=fun w'=>w'.cell? (ad.add k)=some (.int .i64 a)∧w'.cell? (ad.add (k-1))=some (.int .i64 b)) (by kernel_rfl) ⟨c0,d0⟩ (fun hHeld=>?_)
              refine t0 0 18 ?_
              go_frame
              refine t0 1 19 ?_
              go_frame
              refine t0 2 20 ?_
              go_frame
              refine t0 3 21 ?_
              go_frame
              refine t0 4 22 ?_
              go_frame
              refine t0 5 23 ?_
              go_frame
              refine t0 6 24 ?_
              go_frame
              refine t0 7 25 ?_
              go_frame
              refine t0 8 26 ?_
              go_frame
              refine t0 9 27 ?_
              go_frame
              refine t0 10 28 ?_
              go_frame
              refine t0 11 29 ?_
              go_frame
              refine t0 12 30 ?_
              go_frame
              refine t0 13 31 ?_
              go_frame
              refine t0 14 32 ?_
              go_frame
              refine t0 15 33 ?_
              go_frame
              refine t0 16 34 ?_
              go_frame
              refine t0 17 35 ?_
              go_frame
              refine t0 18 36 ?_
              go_frame
              refine t0 19 37 ?_
              go_frame
              refine t0 20 38 ?_
              go_frame
              refine t0 21 39 ?_
              go_frame
              refine t0 22 40 ?_
              go_frame
              refine t0 23 41 ?_
              go_frame
              refine t0 24 42 ?_
              go_frame
              refine t0 25 43 ?_
              go_frame
              refine t0 26 44 ?_
              go_frame
              refine t0 27 45 ?_
              go_frame
              refine td ?_
              go_wp2
              go_roundw
              case rel=>exact⟨k+1,by omega,by go_num,HS.out,hb.trans ((belowN _).mono hzz)⟩
              case measure=>simp[intOf];omega
    · have hd1:decide ((k:Int)<(n:Int))=false:=by simp;omega
      have HS:=Lib.hid (show partsB l=true by rw[hrb,←hs,List.drop_of_length_le (by omega)];rfl)
      clear hs hl
      go_wp2
      go_ret
      rw[HS.out]
      exact⟨rfl,hb⟩
 · have HF:RowKit.Hid (partsB l=false):=by
    refine Lib.hid ?_
    cases hp:partsB l
    · rfl
    · unfold partsB at hp
      rw[Bool.and_eq_true,decide_eq_true_eq]at hp
      have:=nums_len0 hp.1
      omega
   by_cases hb0:(n:Int)<1
   · clear hl hsm
     go_enter Tryz.func15,Tryz.ntmps15
     go_wp2
     go_ret
     rw[HF.out]
     exact⟨rfl,Below.refl _ _⟩
   · have hb1:(12:Int)<(n:Int):=by omega
     clear hl hsm
     go_enter Tryz.func15,Tryz.ntmps15
     go_wp2
     go_ret
     rw[HF.out]
     exact⟨rfl,Below.refl _ _⟩
end Go.Proofs.YthdmanadhbpogaaGreat
