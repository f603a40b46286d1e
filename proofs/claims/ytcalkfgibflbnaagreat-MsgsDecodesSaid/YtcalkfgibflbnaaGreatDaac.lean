/- Plain facts about the words of IEEE doubles: which order they stand in, no program in sight. -/
import Derived.Laws.FloatArith
import Derived.Laws.FloatBits
import Derived.Laws.BitsAllLaws
import Derived.Test.YtcalkfgibflbnaaGreatProg
import Derived.WalkSpells
import Derived.WalkLawsBesides
import Derived.Deep.QuietTactic
import Derived.BigQuiet
import Derived.Lib.Hide
import Derived.Handy
import Derived.Laws.StructEq
import Derived.Deep.RegionHeld3
import Derived.Laws.OwnMore
import Derived.Maps.RangeWalk
import Derived.DeepKeys4
import Derived.Test.YtcalkfgibflbnaaGreatDaaa
namespace Go.Proofs.YtcalkfgibflbnaaGreat.Fl
open Ieee
def mg (r:Nat):Nat:=if r<4503599627370496 then r else 4503599627370496+r%4503599627370496
def st (r:Nat):Nat:=r/4503599627370496-1
def U (r:Nat):Nat:=mg r*2^st r
theorem U_succ (r:Nat):U (r+1)=U r+2^st r:=by
 unfold U mg st
 by_cases h1:r+1<4503599627370496
 · have a:r/4503599627370496-1=0:=by omega
   have b:(r+1)/4503599627370496-1=0:=by omega
   rw[if_pos h1,if_pos (by omega),a,b];omega
 · rw[if_neg h1]
   by_cases h2:r<4503599627370496
   · have e:r=4503599627370495:=by omega
     subst e;rfl
   · rw[if_neg h2]
     by_cases h3:r%4503599627370496=4503599627370495
     · have a:(r+1)%4503599627370496=0:=by omega
       have b:(r+1)/4503599627370496-1=r/4503599627370496-1+1:=by omega
       rw[a,b,h3,Nat.pow_succ]
       generalize 2^(r/4503599627370496-1)=p
       omega
     · have a:(r+1)%4503599627370496=r%4503599627370496+1:=by omega
       have b:(r+1)/4503599627370496-1=r/4503599627370496-1:=by omega
       rw[a,b,←Nat.add_assoc,Nat.add_mul,Nat.one_mul]
theorem U_lt {r s:Nat} (h:r<s):U r<U s:=by
 induction s with
 |zero=>omega
 |succ s ih=>
  have p:0<2^st s:=Nat.two_pow_pos _
  rw[U_succ]
  by_cases e:r=s
  · subst e;omega
  · have:=ih (by omega);omega
theorem U_le {r s:Nat} (h:r≤s):U r≤U s:=by
 rcases Nat.lt_or_ge r s with a|a
 · exact Nat.le_of_lt (U_lt a)
 · rw[Nat.le_antisymm h a];exact Nat.le_refl _
theorem U_lt_iff {r s:Nat}:U r<U s↔r<s:=⟨fun h=>by
 rcases Nat.lt_or_ge r s with a|a
 · exact a
 · have:=U_le a;omega,U_lt⟩
theorem U_inj {r s:Nat} (h:U r=U s):r=s:=by
 rcases Nat.lt_trichotomy r s with a|a|a
 · have:=U_lt a;omega
 · exact a
 · have:=U_lt a;omega
def sg (s:Bool) (n:Nat):Int:=if s then -(n:Int) else n
def K (x:Nat):Option Int:=
 if x%9223372036854775808≤9218868437227405312 then some (sg (x/9223372036854775808%2==1) (U (x%9223372036854775808))) else none
theorem read_word (x:Nat):double.read x=
 if x%9223372036854775808<9218868437227405312 then
  .number (x/9223372036854775808%2==1) (mg (x%9223372036854775808)) (-1074+(st (x%9223372036854775808):Int))
 else if x%9223372036854775808=9218868437227405312 then .infinity (x/9223372036854775808%2==1)
 else .nan (x/9223372036854775808%2==1) (x%9223372036854775808-9218868437227405312):=by
 have hs:double.signWeight=9223372036854775808:=by decide
 have hb:double.binade=4503599627370496:=by decide
 have hi:double.infRung=9218868437227405312:=by decide
 have hl:double.leastPlace= -1074:=by decide
 unfold Format.read
 simp only[hs,hb,hi,hl]
 generalize x%9223372036854775808=r
 generalize (x/9223372036854775808%2==1)=s
 by_cases h1:r<4503599627370496
 · have a:st r=0:=by unfold st;omega
   rw[if_pos h1,if_pos (by omega),a]
   unfold mg
   rw[if_pos h1]
   rfl
 · rw[if_neg h1]
   by_cases h2:r<9218868437227405312
   · rw[if_pos h2,if_pos h2]
     unfold mg st
     rw[if_neg h1]
   · rw[if_neg h2,if_neg h2]
theorem signed_eq (s:Bool) (m k:Nat):signed s m k=sg s (m*2^k):=by
 unfold signed sg
 rw[Nat.shiftLeft_eq]
theorem sg_mul (s:Bool) (n k:Nat):sg s (n*k)=sg s n*(k:Int):=by
 unfold sg;split<;>simp[Int.neg_mul]
theorem compare_mul (a b:Int) (k:Nat) (hk:0<k):compare (a*(k:Int)) (b*(k:Int))=compare a b:=by
 have hk':(0:Int)<k:=by omega
 rcases Int.lt_trichotomy a b with h|h|h
 · rw[Int.compare_eq_lt.2 h,Int.compare_eq_lt.2 (Int.mul_lt_mul_of_pos_right h hk')]
 · subst h;simp
 · rw[Int.compare_eq_gt.2 h,Int.compare_eq_gt.2 (Int.mul_lt_mul_of_pos_right h hk')]
theorem order_num (s t:Bool) (m n i j:Nat):Datum.order (.number s m (-1074+(i:Int))) (.number t n (-1074+(j:Int)))=some (compare (sg s (m*2^i)) (sg t (n*2^j))):=by
 simp only[Datum.order,signed_eq]
 congr 1
 rcases Nat.le_total i j with h|h
 · have e:min (-1074+(i:Int)) (-1074+(j:Int))= -1074+(i:Int):=by omega
   rw[e]
   have a:(-1074+(i:Int)-(-1074+(i:Int))).toNat=0:=by omega
   have b:(-1074+(j:Int)-(-1074+(i:Int))).toNat=j-i:=by omega
   rw[a,b,←compare_mul _ _ (2^i) (Nat.two_pow_pos _),←sg_mul,←sg_mul,Nat.mul_assoc,Nat.mul_assoc,←Nat.pow_add,←Nat.pow_add]
   rw[Nat.zero_add,Nat.sub_add_cancel h]
 · have e:min (-1074+(i:Int)) (-1074+(j:Int))= -1074+(j:Int):=by omega
   rw[e]
   have a:(-1074+(i:Int)-(-1074+(j:Int))).toNat=i-j:=by omega
   have b:(-1074+(j:Int)-(-1074+(j:Int))).toNat=0:=by omega
   rw[a,b,←compare_mul _ _ (2^j) (Nat.two_pow_pos _),←sg_mul,←sg_mul,Nat.mul_assoc,Nat.mul_assoc,←Nat.pow_add,←Nat.pow_add]
   rw[Nat.zero_add,Nat.sub_add_cancel h]
theorem U_fin {r:Nat} (h:r<9218868437227405312):U r<U 9218868437227405312:=U_lt h
theorem U_inf_pos:0<U 9218868437227405312:=U_lt (r:=0) (by omega)
theorem order_K (x y:Nat):FloatKind.f64.format.order x y=(match K x,K y with|some a,some b=>some (compare a b)|_,_=>none):=by
 show Datum.order (double.read x) (double.read y)=_
 rw[read_word,read_word]
 unfold K
 generalize x%9223372036854775808=r
 generalize (x/9223372036854775808%2==1)=s
 generalize y%9223372036854775808=q
 generalize (y/9223372036854775808%2==1)=t
 have hp:=U_inf_pos
 rcases Nat.lt_trichotomy r 9218868437227405312 with h1|h1|h1
 · have f1:=U_fin h1
   have g1:r≤9218868437227405312:=Nat.le_of_lt h1
   rw[if_pos h1,if_pos g1]
   rcases Nat.lt_trichotomy q 9218868437227405312 with h2|h2|h2
   · have g2:q≤9218868437227405312:=Nat.le_of_lt h2
     rw[if_pos h2,if_pos g2,order_num];rfl
   · subst h2
     have g2:¬9218868437227405312<9218868437227405312:=by omega
     have g3:9218868437227405312≤9218868437227405312:=by omega
     rw[if_neg g2,if_pos g3,if_pos rfl]
     simp only[Datum.order]
     congr 1
     cases t
     · exact(Int.compare_eq_lt.2 (by unfold sg;cases s<;>simp<;>omega)).symm
     · exact(Int.compare_eq_gt.2 (by unfold sg;cases s<;>simp<;>omega)).symm
   · have g2:¬q<9218868437227405312:=by omega
     have g3:¬q=9218868437227405312:=by omega
     have g4:¬q≤9218868437227405312:=by omega
     rw[if_neg g2,if_neg g3,if_neg g4];rfl
 · subst h1
   have g1:¬9218868437227405312<9218868437227405312:=by omega
   have g0:9218868437227405312≤9218868437227405312:=by omega
   rw[if_neg g1,if_pos g0,if_pos rfl]
   rcases Nat.lt_trichotomy q 9218868437227405312 with h2|h2|h2
   · have f2:=U_fin h2
     have g2:q≤9218868437227405312:=Nat.le_of_lt h2
     rw[if_pos h2,if_pos g2]
     simp only[Datum.order]
     congr 1
     cases s
     · exact(Int.compare_eq_gt.2 (by unfold sg;cases t<;>simp<;>omega)).symm
     · exact(Int.compare_eq_lt.2 (by unfold sg;cases t<;>simp<;>omega)).symm
   · subst h2
     rw[if_neg g1,if_pos g0,if_pos rfl]
     simp only[Datum.order]
     congr 1
     cases s<;>cases t
     · simp[sg]
     · exact(Int.compare_eq_gt.2 (by unfold sg;simp;omega)).symm
     · exact(Int.compare_eq_lt.2 (by unfold sg;simp;omega)).symm
     · simp[sg]
   · have g2:¬q<9218868437227405312:=by omega
     have g3:¬q=9218868437227405312:=by omega
     have g4:¬q≤9218868437227405312:=by omega
     rw[if_neg g2,if_neg g3,if_neg g4];rfl
 · have g2:¬r<9218868437227405312:=by omega
   have g3:¬r=9218868437227405312:=by omega
   have g4:¬r≤9218868437227405312:=by omega
   rw[if_neg g2,if_neg g3,if_neg g4];rfl
def one:Nat:=4607182418800017408
theorem K_pos {x:Nat} (h:x≤9218868437227405312):K x=some (U x:Int):=by
 unfold K
 have a:x%9223372036854775808=x:=Nat.mod_eq_of_lt (by omega)
 have b:x/9223372036854775808=0:=by omega
 rw[a,b,if_pos h];rfl
theorem cmp_lt (a b:Int):(compare a b==Ordering.lt)=decide (a<b):=by
 rcases Int.lt_trichotomy a b with h|h|h
 · simp[Int.compare_eq_lt.2 h,h]
 · subst h;simp
 · rw[Int.compare_eq_gt.2 h,decide_eq_false (by omega)];rfl
theorem cmp_gt (a b:Int):(compare a b==Ordering.gt)=decide (b<a):=by
 rcases Int.lt_trichotomy a b with h|h|h
 · rw[Int.compare_eq_lt.2 h,decide_eq_false (by omega)];rfl
 · subst h;simp
 · simp[Int.compare_eq_gt.2 h,h]
theorem cmp_eq (a b:Int):(compare a b==Ordering.eq)=decide (a=b):=by
 rcases Int.lt_trichotomy a b with h|h|h
 · rw[Int.compare_eq_lt.2 h,decide_eq_false (by omega)];rfl
 · subst h;simp
 · rw[Int.compare_eq_gt.2 h,decide_eq_false (by omega)];rfl
def dnan (a:Nat):Bool:=FloatKind.f64.format.order a a !=some Ordering.eq
def canonB (a:Nat):Nat:=if dnan a then 9221120237041090560 else a
def ptB (x:Nat):Bool:=decide (x≤4607182418800017408)
def eI (c:Int):Int:=bits BinOp.and IntKind.u64 (c/4503599627370496) 2047
def fI (c:Int):Int:=bits BinOp.and IntKind.u64 c 4503599627370495
def sI (c:Int):Int:=bits BinOp.and IntKind.u64 c 9223372036854775808
theorem eI_nat (c:Nat) (h:c<18446744073709551616):eI c=((c/4503599627370496%2048:Nat):Int):=by
 unfold eI
 rw[show ((c:Int)/4503599627370496)=((c/4503599627370496:Nat):Int) from by omega,show (2047:Int)=((2047:Nat):Int) from rfl,u64_and_nat _ _ (by omega) (by omega)]
 rw[show (2047:Nat)=2^11-1 from rfl,Nat.and_two_pow_sub_one_eq_mod]
theorem fI_nat (c:Nat) (h:c<18446744073709551616):fI c=((c%4503599627370496:Nat):Int):=by
 unfold fI
 rw[show (4503599627370495:Int)=((4503599627370495:Nat):Int) from rfl,u64_and_nat _ _ h (by omega)]
 rw[show (4503599627370495:Nat)=2^52-1 from rfl,Nat.and_two_pow_sub_one_eq_mod]
theorem sI_nat (c:Nat) (h:c<18446744073709551616):sI c=((c/9223372036854775808%2*9223372036854775808:Nat):Int):=by
 unfold sI
 rw[show (9223372036854775808:Int)=((9223372036854775808:Nat):Int) from rfl,u64_and_nat _ _ h (by omega)]
 rw[show (9223372036854775808:Nat)=2^63 from rfl,nat_bit]
def kI (c:Int):Int:=if eI c=2047 then 8 else if 0<eI c then 7 else if 0<fI c then 6 else 5
def classI (c:Int):Int:=if eI c=2047∧fI c≠0 then 0 else if sI c≠0 then 9-kI c else kI c
theorem dnan_K (a:Nat):dnan a=(K a).isNone:=by
 unfold dnan
 rw[order_K]
 cases K a<;>simp
theorem dnan_iff {a:Nat}:dnan a=decide (9218868437227405312<a%9223372036854775808):=by
 rw[dnan_K]
 unfold K
 by_cases h:a%9223372036854775808≤9218868437227405312
 · rw[if_pos h,decide_eq_false (by omega)];rfl
 · rw[if_neg h,decide_eq_true (by omega)];rfl
theorem canonB_lt {a:Nat} (h:a<18446744073709551616):canonB a<18446744073709551616:=by
 unfold canonB;split<;>omega
theorem class_cases (a:Nat) (h:a<18446744073709551616):classI (canonB a:Nat)=
 if 9218868437227405312<a%9223372036854775808 then 0
 else if a<9223372036854775808 then (if a=9218868437227405312 then 8 else if 4503599627370496≤a then 7 else if 0<a then 6 else 5)
 else (if a=18442240474082181120 then 1 else if 9227875636482146304≤a then 2 else if 9223372036854775808<a then 3 else 4):=by
 unfold canonB
 rw[dnan_iff]
 by_cases h1:9218868437227405312<a%9223372036854775808
 · rw[if_pos (decide_eq_true h1),if_pos h1]
   unfold classI
   rw[eI_nat _ (by omega),fI_nat _ (by omega)]
   rfl
 · rw[if_neg (by simpa using h1),if_neg h1]
   unfold classI kI
   rw[eI_nat _ h,fI_nat _ h,sI_nat _ h]
   generalize he:a/4503599627370496%2048=e
   generalize hf:a%4503599627370496=f
   generalize hs:a/9223372036854775808%2*9223372036854775808=g
   repeat' split
   all_goals omega
def flt (a b:Nat):Bool:=FloatKind.f64.format.order a b==some Ordering.lt
def fgt (a b:Nat):Bool:=FloatKind.f64.format.order a b==some Ordering.gt
def feq (a b:Nat):Bool:=FloatKind.f64.format.order a b==some Ordering.eq
theorem flt_K (a b:Nat):flt a b=(match K a,K b with|some x,some y=>decide (x<y)|_,_=>false):=by
 unfold flt;rw[order_K]
 cases K a<;>cases K b<;>simp[←cmp_lt]
theorem fgt_K (a b:Nat):fgt a b=(match K a,K b with|some x,some y=>decide (y<x)|_,_=>false):=by
 unfold fgt;rw[order_K]
 cases K a<;>cases K b<;>simp[←cmp_gt]
theorem feq_K (a b:Nat):feq a b=(match K a,K b with|some x,some y=>decide (x=y)|_,_=>false):=by
 unfold feq;rw[order_K]
 cases K a<;>cases K b<;>simp[←cmp_eq]
theorem fgt_flt (a b:Nat):fgt a b=flt b a:=by
 rw[fgt_K,flt_K];cases K a<;>cases K b<;>rfl
theorem flt_pt {a b:Nat} (ha:a≤9218868437227405312) (hb:b≤9218868437227405312):flt a b=decide (a<b):=by
 rw[flt_K,K_pos ha,K_pos hb]
 simp only[Int.ofNat_lt,U_lt_iff]
theorem feq_pt {a b:Nat} (ha:a≤9218868437227405312) (hb:b≤9218868437227405312):feq a b=decide (a=b):=by
 rw[feq_K,K_pos ha,K_pos hb]
 by_cases h:a=b
 · subst h;simp
 · simp only[Int.ofNat_inj];rw[decide_eq_false h,decide_eq_false (fun e=>h (U_inj e))]
theorem le_one {a:Nat} (h:a<9223372036854775808):(flt a 4607182418800017408||feq a 4607182418800017408)=ptB a:=by
 by_cases h1:a≤9218868437227405312
 · rw[flt_pt h1 (by omega),feq_pt h1 (by omega)]
   unfold ptB
   by_cases h2:a<4607182418800017408
   · rw[decide_eq_true h2,decide_eq_true (show a≤4607182418800017408 by omega)];rfl
   · rw[decide_eq_false h2]
     by_cases h3:a=4607182418800017408
     · subst h3;rfl
     · rw[decide_eq_false h3,decide_eq_false (show ¬a≤4607182418800017408 by omega)];rfl
 · have hk:K a=none:=by unfold K;rw[if_neg (by omega)]
   rw[flt_K,feq_K,hk]
   unfold ptB
   rw[decide_eq_false (by omega)];rfl
theorem point_is (a:Nat) (h:a<18446744073709551616):(decide (5≤classI (canonB a:Nat))&&(flt a 4607182418800017408||feq a 4607182418800017408))=ptB a:=by
 rw[class_cases a h]
 by_cases h0:a<9223372036854775808
 · rw[le_one h0]
   have e:a%9223372036854775808=a:=Nat.mod_eq_of_lt h0
   rw[e,if_pos h0]
   unfold ptB
   by_cases h1:9218868437227405312<a
   · rw[if_pos h1,decide_eq_false (show ¬a≤4607182418800017408 by omega)];rfl
   · rw[if_neg h1]
     have:decide ((5:Int)≤if a=9218868437227405312 then 8 else if 4503599627370496≤a then 7 else if 0<a then 6 else 5)=true:=by
      apply decide_eq_true;split;omega;split;omega;split<;>omega
     rw[this];rfl
 · rw[if_neg h0]
   have:∀p:Prop,[Decidable p]→decide ((5:Int)≤if p then 0 else if a=18442240474082181120 then 1 else if 9227875636482146304≤a then 2 else if 9223372036854775808<a then 3 else 4)=false:=by
    intro p _;apply decide_eq_false;split;omega;split;omega;split;omega;split<;>omega
   rw[this]
   unfold ptB
   rw[decide_eq_false (show ¬a≤4607182418800017408 by omega)];rfl
theorem is_is (a:Nat) (h:a<18446744073709551616):(((a:Int)==0)||(fgt a 0&&(flt a 4607182418800017408||feq a 4607182418800017408)))=ptB a:=by
 by_cases h0:a<9223372036854775808
 · rw[le_one h0]
   by_cases hz:a=0
   · subst hz;rfl
   · have e:((a:Int)==0)=false:=by simpa using hz
     rw[e,Bool.false_or]
     by_cases h1:a≤9218868437227405312
     · have g:fgt a 0=true:=by rw[fgt_flt,flt_pt (by omega) h1];exact decide_eq_true (by omega)
       rw[g];rfl
     · unfold ptB
       rw[decide_eq_false (show ¬a≤4607182418800017408 by omega),Bool.and_false]
 · have e:((a:Int)==0)=false:=by have:a≠0:=by omega
                                 simpa using this
   have g:fgt a 0=false:=by
    rw[fgt_K,show K 0=some 0 from rfl]
    by_cases h2:a%9223372036854775808≤9218868437227405312
    · have t:(a/9223372036854775808%2==1)=true:=by simp;omega
      have k:K a=some (sg true (U (a%9223372036854775808))):=by unfold K;rw[if_pos h2,t]
      rw[k]
      exact decide_eq_false (by unfold sg;simp)
    · have k:K a=none:=by unfold K;rw[if_neg h2]
      rw[k]
   rw[e,g]
   unfold ptB
   rw[decide_eq_false (show ¬a≤4607182418800017408 by omega)];rfl
theorem class4 (a:Nat) (h:a<18446744073709551616):((classI (canonB a:Nat))==4)=decide (a=9223372036854775808):=by
 rw[class_cases a h]
 by_cases h0:a=9223372036854775808
 · subst h0;rfl
 · rw[decide_eq_false h0]
   simp only[beq_eq_false_iff_ne]
   split;omega
   split
   · split;omega;split;omega;split<;>omega
   · split;omega;split;omega;split<;>omega
end Go.Proofs.YtcalkfgibflbnaaGreat.Fl
namespace Go.Proofs.YtcalkfgibflbnaaGreat
set_option maxHeartbeats 400000
open Go.RowKit Fl
@[go_sem] theorem run_bits64 (a:Nat) (w:World):(callFunc 58 #[.float .f64 a]).run Tryz.prog w=.ok (.value (.int .u64 a)) w:=by
  rw[run_callFunc_extern Tryz.func58 (by kernel_rfl) (by kernel_rfl) (by kernel_rfl) (e:=Extern.MathFloatBits.float64bits) (by kernel_rfl)];rfl
@[go_sem] theorem run_from64 (a:Int) (w:World):(callFunc 208 #[.int .u64 a]).run Tryz.prog w=.ok (.value (.float .f64 a.toNat)) w:=by
  rw[run_callFunc_extern Tryz.func208 (by kernel_rfl) (by kernel_rfl) (by kernel_rfl) (e:=Extern.MathFloatBits.float64frombits) (by kernel_rfl)];rfl
theorem ret_int {k:IntKind} {a b:Int} (h:a=b):Ending.returned (.int k a)=.returned (.int k b):=by rw[h]
theorem ret_bool {a b:Bool} (h:a=b):Ending.returned (.bool a)=.returned (.bool b):=by rw[h]
theorem rbits (a b:Nat) (w:World):
 Calls Tryz.prog 124 #[.float .f64 a,.float .f64 b] w fun e w'=>e=.returned (.bool ((a:Int)==b))∧w=w':=by
 go_enter Tryz.func124,Tryz.ntmps124
 go_wp2
 go_ret
 exact⟨rfl,rfl⟩
theorem canon (a:Nat) (w:World):
 Calls Tryz.prog 222 #[.float .f64 a] w fun e w'=>e=.returned (.float .f64 (canonB a))∧w=w':=by
 by_cases h:dnan a=true
 · have e:canonB a=9221120237041090560:=by simp[canonB,h]
   have h':(FloatKind.f64.format.order a a !=some Ordering.eq)=true:=h
   rw[e]
   clear e h
   go_enter Tryz.func222,Tryz.ntmps222
   go_wp2
   go_ret
   exact⟨rfl,rfl⟩
 · have e:canonB a=a:=by simp[canonB,h]
   have h':(FloatKind.f64.format.order a a !=some Ordering.eq)=false:=by simpa [dnan] using h
   rw[e]
   clear e h
   go_enter Tryz.func222,Tryz.ntmps222
   go_wp2
   go_ret
   exact⟨rfl,rfl⟩
theorem nbits (a:Nat) (w:World):
 Calls Tryz.prog 196 #[.float .f64 a] w fun e w'=>e=.returned (.int .u64 (canonB a))∧w=w':=by
 go_enter Tryz.func196,Tryz.ntmps196
 go_wp2_with ((with_reducible refine(canon _ _).mono ?_);rintro e w' ⟨rfl,rfl⟩)
 go_ret
 exact⟨rfl,rfl⟩
section
open Fl
theorem c0 {c:Int} (h1:eI c=2047) (h2:(fI c !=0)=true):classI c=0:=by
 unfold classI;rw[if_pos ⟨h1,by simpa using h2⟩]
theorem c8 {c:Int} (h1:eI c=2047) (h2:(fI c !=0)=false):classI c=if sI c≠0 then 1 else 8:=by
 unfold classI kI
 rw[if_neg (by rintro⟨_,h⟩;simp[h]at h2),if_pos h1];rfl
theorem c7 {c:Int} (h1:¬eI c=2047) (h2:0<eI c):classI c=if sI c≠0 then 2 else 7:=by
 unfold classI kI
 rw[if_neg (by rintro⟨h,_⟩;exact h1 h),if_neg h1,if_pos h2];rfl
theorem c6 {c:Int} (h1:¬eI c=2047) (h2:eI c≤0) (h3:0<fI c):classI c=if sI c≠0 then 3 else 6:=by
 unfold classI kI
 rw[if_neg (by rintro⟨h,_⟩;exact h1 h),if_neg h1,if_neg (show ¬0<eI c by omega),if_pos h3];rfl
theorem c5 {c:Int} (h1:¬eI c=2047) (h2:eI c≤0) (h3:fI c≤0):classI c=if sI c≠0 then 4 else 5:=by
 unfold classI kI
 rw[if_neg (by rintro⟨h,_⟩;exact h1 h),if_neg h1,if_neg (show ¬0<eI c by omega),if_neg (show ¬0<fI c by omega)];rfl
theorem sy {c p q:Int} (h:(sI c !=0)=true):(if sI c≠0 then p else q)=p:=by rw[if_pos (by simpa using h)]
theorem sn {c p q:Int} (h:(sI c !=0)=false):(if sI c≠0 then p else q)=q:=by rw[if_neg (by simpa using h)]
end
theorem class_any (a:Nat) (w:World):
 Calls Tryz.prog 202 #[.float .f64 a] w fun e w'=>e=.returned (.int .i64 (classI (canonB a)))∧w=w':=by
 generalize hc:canonB a=c
 have H:=Lib.hid hc;clear hc
 go_enter Tryz.func202,Tryz.ntmps202
 go_wp2_with ((with_reducible refine(nbits _ _).mono ?_);rw[H.out];rintro e w' ⟨rfl,rfl⟩)
 all_goals go_ret
 all_goals refine⟨ret_int ?_,rfl⟩
 · exact(c0 ‹_› ‹_›).symm
 · exact((c8 ‹_› ‹_›).trans (sy ‹_›)).symm
 · exact((c8 ‹_› ‹_›).trans (sn ‹_›)).symm
 · exact((c7 ‹_› ‹_›).trans (sy ‹_›)).symm
 · exact((c7 ‹_› ‹_›).trans (sn ‹_›)).symm
 · exact((c6 ‹_› ‹_› ‹_›).trans (sy ‹_›)).symm
 · exact((c6 ‹_› ‹_› ‹_›).trans (sn ‹_›)).symm
 · exact((c5 ‹_› ‹_› ‹_›).trans (sy ‹_›)).symm
 · exact((c5 ‹_› ‹_› ‹_›).trans (sn ‹_›)).symm
theorem point_any (a:Nat) (w:World) (ha:a<18446744073709551616):
 Calls Tryz.prog 160 #[.float .f64 a] w fun e w'=>e=.returned (.bool (ptB a))∧w=w':=by
 have hp:=point_is a ha
 generalize hk:classI (canonB a)=k at hp
 have H:=Lib.hid hk;clear hk
 have H2:=Lib.hid hp;clear hp
 by_cases h5:5≤k
 · go_enter Tryz.func160,Tryz.ntmps160
   go_wp2_with ((with_reducible refine(class_any _ _).mono ?_);rw[H.out];rintro e w' ⟨rfl,rfl⟩)
   go_ret
   refine⟨ret_bool ?_,rfl⟩
   rw[←H2.out,decide_eq_true h5];rfl
 · have h5':k<5:=by omega
   go_enter Tryz.func160,Tryz.ntmps160
   go_wp2_with ((with_reducible refine(class_any _ _).mono ?_);rw[H.out];rintro e w' ⟨rfl,rfl⟩)
   go_ret
   refine⟨ret_bool ?_,rfl⟩
   rw[←H2.out,decide_eq_false (show ¬5≤k by omega)];rfl
theorem is_any (a:Nat) (w:World) (ha:a<18446744073709551616):
 Calls Tryz.prog 171 #[.float .f64 a] w fun e w'=>e=.returned (.bool (ptB a))∧w=w':=by
 have H2:=Lib.hid (is_is a ha)
 by_cases h1:a=0
 · subst h1
   go_enter Tryz.func171,Tryz.ntmps171
   go_wp2_with ((with_reducible refine(rbits _ _ _).mono ?_);rintro e w' ⟨rfl,rfl⟩)
   go_ret
   exact⟨rfl,rfl⟩
 · have hz:Hid (((a:Int)==0)=false):=by have:¬(a:Int)=0:=by omega
                                        exact beq_eq_false_iff_ne.2 this
   rcases Bool.eq_false_or_eq_true (FloatKind.f64.format.order a 0==some Ordering.gt) with h2|h2
   all_goals
    go_enter Tryz.func171,Tryz.ntmps171
    go_wp2_with ((with_reducible refine(rbits _ _ _).mono ?_);rintro e w' ⟨rfl,rfl⟩)
    go_ret
    refine⟨ret_bool ?_,rfl⟩
    rw[←H2.out]
    rw[hz.out]
    unfold fgt;rw[h2];rfl
end Go.Proofs.YtcalkfgibflbnaaGreat
namespace Go.Proofs.YtcalkfgibflbnaaGreat.Fl
open Ieee
def okD:Datum→Bool| .nan .. =>false|_=>true
def notnan (x:Nat):Prop:=x%9223372036854775808≤9218868437227405312
theorem read_ok {x:Nat} (h:notnan x):okD (double.read x)=true:=by
 rw[read_word]
 unfold notnan at h
 split
 · rfl
 · split
   · rfl
   · omega
theorem word_ok (s:Bool) (r:Nat) (h:r≤9218868437227405312):notnan (double.word s r):=by
 have hs:double.signWeight=9223372036854775808:=by decide
 unfold notnan Format.word
 rw[hs]
 split<;>omega
theorem nearest_ok (s:Bool) (m:Nat) (p:Int):notnan (double.nearest s m p):=by
 have hi:double.infRung=9218868437227405312:=by decide
 unfold Format.nearest
 dsimp only
 rw[hi]
 split
 · exact word_ok _ _ (by omega)
 · exact word_ok _ _ (Nat.min_le_right ..)
def pointV (a:Nat):Nat:=if ptB a then a else 0
def pointE (a:Nat):Int:=if ptB a||decide (a=9223372036854775808) then 0 else 1
end Go.Proofs.YtcalkfgibflbnaaGreat.Fl
namespace Go.Proofs.YtcalkfgibflbnaaGreat
set_option maxHeartbeats 400000
open Go.RowKit Fl
theorem take_snoc (s:ByteArray) (k:Nat) (h:k<s.size):s.data.toList.take (k+1)=s.data.toList.take k++[s[k]]:=by
 rw[List.take_succ_eq_append_getElem (by simpa using h)];rfl
def hstep (h:Int) (c:UInt8):Int:=IntKind.u64.wrap (bits BinOp.xor IntKind.u64 h (IntKind.u64.wrap (c.toNat:Int))*1099511628211)
def hfold (l:List UInt8):Int:=l.foldl hstep 14695981039346656037
def mix (h k:Int):Int:=IntKind.u64.wrap (bits BinOp.xor IntKind.u64 h (h/8589934592)*k)
def hfin (h:Int):Int:=bits BinOp.xor IntKind.u64 (mix (mix h 18397679294719823053) 14181476777654086739) (mix (mix h 18397679294719823053) 14181476777654086739/8589934592)
def hashI (s:ByteArray):Int:=hfin (hfold s.data.toList)
theorem hfold_snoc (l:List UInt8) (c:UInt8):hfold (l++[c])=hstep (hfold l) c:=by unfold hfold;rw[List.foldl_append];rfl
theorem hfold_take (s:ByteArray) (k:Nat) (h:k<s.size):hfold (s.data.toList.take (k+1))=hstep (hfold (s.data.toList.take k)) s[k]:=by rw[take_snoc s k h,hfold_snoc]
theorem hfold_all (s:ByteArray) (k:Nat) (h:¬k<s.size):hfold (s.data.toList.take k)=hfold s.data.toList:=by rw[List.take_of_length_le (by simp;omega)]
theorem wrap_u64_b (n:Int):0≤IntKind.u64.wrap n∧IntKind.u64.wrap n<18446744073709551616:=by rw[IntKind.wrap_u64];omega
theorem hstep_b (h:Int) (c:UInt8):0≤hstep h c∧hstep h c<18446744073709551616:=wrap_u64_b _
theorem mix_b (h c:Int):0≤mix h c∧mix h c<18446744073709551616:=wrap_u64_b _
theorem hfold_b (l:List UInt8):0≤hfold l∧hfold l<18446744073709551616:=by
 rcases List.eq_nil_or_concat l with rfl|⟨l',c,rfl⟩
 · decide
 · rw[List.concat_eq_append,hfold_snoc];exact hstep_b _ _
theorem bits_b (op:BinOp) (a b:Int):0≤bits op IntKind.u64 a b∧bits op IntKind.u64 a b<18446744073709551616:=wrap_u64_b _
theorem hash_b (s:ByteArray):0≤hashI s∧hashI s<18446744073709551616:=by
 unfold hashI hfin
 generalize mix (mix (hfold s.data.toList) 18397679294719823053) 14181476777654086739=a
 exact bits_b _ _ _
theorem hash (s:ByteArray) (w:World) (hs:s.size≤maxLen):
 Calls Tryz.prog 167 #[.string s] w fun e w'=>e=.returned (.int .u64 (hashI s))∧w=w':=by
 unfold maxLen at hs
 have i0:∀w,(Instr.index 269 (.agg #[.int .u64 18397679294719823053,.int .u64 14181476777654086739]) (.int .i64 0)).run Tryz.prog w=.ok (.int .u64 18397679294719823053) w:=fun _=>by kernel_rfl
 have i1:∀w,(Instr.index 269 (.agg #[.int .u64 18397679294719823053,.int .u64 14181476777654086739]) (.int .i64 1)).run Tryz.prog w=.ok (.int .u64 14181476777654086739) w:=fun _=>by kernel_rfl
 have hb:=hash_b s
 go_enter Tryz.func167,Tryz.ntmps167
 go_wp2
 go_loop [3,9] (fun h i=>∃k:Nat,k≤s.size∧i=.int .i64 k∧h=.int .u64 (hfold (s.data.toList.take k))) (fun _ i=>s.size-(intOf i).toNat)
 case atStart=>exact⟨0,Nat.zero_le _,rfl,rfl⟩
 case round=>
  obtain⟨k,hk,rfl,rfl⟩:=hrel
  by_cases hlt:k<s.size
  · have HT:=Lib.hid (hfold_take s k hlt)
    go_wp2
    go_round
    case rel=>exact⟨k+1,by omega,by go_num,by rw[HT.out];rfl⟩
    case measure=>simp[intOf];omega
  · have HA:=Lib.hid (hfold_all s k hlt)
    have hb2:=hfold_b (s.data.toList.take k)
    generalize hn:hfold (s.data.toList.take k)=n at HA hb2
    clear hn
    have m1:=mix_b n 18397679294719823053
    have m2:=mix_b (mix n 18397679294719823053) 14181476777654086739
    go_wp2
    go_loop [3,22] (fun h i=>(i=.int .i64 0∧h=.int .u64 n)∨(i=.int .i64 1∧h=.int .u64 (mix n 18397679294719823053))∨(i=.int .i64 2∧h=.int .u64 (mix (mix n 18397679294719823053) 14181476777654086739))) (fun _ i=>2-(intOf i).toNat)
    case atStart=>exact .inl ⟨rfl,rfl⟩
    case round=>
        rcases hrel with ⟨rfl,rfl⟩|⟨rfl,rfl⟩|⟨rfl,rfl⟩
        · go_wp2
          go_round
          case rel=>exact .inr (.inl ⟨rfl,rfl⟩)
          case measure=>simp[intOf]
        · go_wp2
          go_round
          case rel=>exact .inr (.inr ⟨rfl,rfl⟩)
          case measure=>simp[intOf]
        · go_wp2
          go_ret
          refine⟨ret_int ?_,rfl⟩
          show bits BinOp.xor IntKind.u64 (mix (mix n 18397679294719823053) 14181476777654086739) (mix (mix n 18397679294719823053) 14181476777654086739/8589934592)=hfin (hfold s.data.toList)
          rw[←HA.out];rfl
theorem rhash (s:ByteArray) (w:World) (hs:s.size≤maxLen):
 Calls Tryz.prog 216 #[.string s] w fun e w'=>e=.returned (.int .u64 (hashI s))∧w=w':=by
 unfold maxLen at hs
 go_enter Tryz.func216,Tryz.ntmps216
 go_wp2
 go_loop [3,4] (fun h i=>∃k:Nat,k≤s.size∧i=.int .i64 k∧h=.int .u64 (hfold (s.data.toList.take k))) (fun _ i=>s.size-(intOf i).toNat)
 case atStart=>exact⟨0,Nat.zero_le _,rfl,rfl⟩
 case round=>
  obtain⟨k,hk,rfl,rfl⟩:=hrel
  by_cases hlt:k<s.size
  · have HT:=Lib.hid (hfold_take s k hlt)
    go_wp2
    go_round
    case rel=>exact⟨k+1,by omega,by go_num,by rw[HT.out];rfl⟩
    case measure=>simp[intOf];omega
  · have HA:=Lib.hid (hfold_all s k hlt)
    have hb2:=hfold_b (s.data.toList.take k)
    generalize hn:hfold (s.data.toList.take k)=n at HA hb2
    clear hn
    go_wp2
    go_ret
    refine⟨ret_int ?_,rfl⟩
    unfold hashI
    rw[←HA.out];rfl
def ofI (h:Int):Nat:=(floatBits .quo .f64 (floatOfInt .f64 (h/2048)) 4845873199050653696).getD 0
def ofB (s:ByteArray):Nat:=ofI (hashI s)
theorem of_some (h:Int) (_h0:0≤h) (_h1:h<18446744073709551616):floatBits .quo .f64 (floatOfInt .f64 (h/2048)) 4845873199050653696=some (ofI h):=by
 have e:floatBits .quo .f64 (floatOfInt .f64 (h/2048)) 4845873199050653696=((Ieee.double.read (floatOfInt .f64 (h/2048))).quotient 54 (Ieee.double.read 4845873199050653696)).map Ieee.double.write:=rfl
 have two:Ieee.double.read 4845873199050653696=.number false 4503599627370496 1:=by decide
 have hn:notnan (floatOfInt .f64 (h/2048)):=nearest_ok _ _ _
 have ho:=read_ok hn
 unfold ofI
 rw[e,two]
 cases hd:Ieee.double.read (floatOfInt .f64 (h/2048)) with
 |number s m p=>rfl
 |infinity s=>rfl
 |nan=>rw[hd]at ho;cases ho
theorem of_any (s:ByteArray) (w:World) (hs:s.size≤maxLen):
 Calls Tryz.prog 113 #[.string s] w fun e w'=>e=.returned (.float .f64 (ofB s))∧w=w':=by
 obtain⟨h0,h1⟩:=hash_b s
 have r1:=fun w=>run_float_arith (P:=Tryz.prog) w .quo 33 .f64 _ _ _ (of_some (hashI s) h0 h1)
 go_enter Tryz.func113,Tryz.ntmps113
 go_wp2_with ((with_reducible refine(hash _ _ hs).mono ?_);rintro e w' ⟨rfl,rfl⟩)
 go_ret
 exact⟨rfl,rfl⟩
theorem rof_any (s:ByteArray) (w:World) (hs:s.size≤maxLen):
 Calls Tryz.prog 182 #[.string s] w fun e w'=>e=.returned (.float .f64 (ofB s))∧w=w':=by
 obtain⟨h0,h1⟩:=hash_b s
 have r1:=fun w=>run_float_arith (P:=Tryz.prog) w .quo 33 .f64 _ _ _ (of_some (hashI s) h0 h1)
 go_enter Tryz.func182,Tryz.ntmps182
 go_wp2_with ((with_reducible refine(rhash _ _ hs).mono ?_);rintro e w' ⟨rfl,rfl⟩)
 go_ret
 exact⟨rfl,rfl⟩
end Go.Proofs.YtcalkfgibflbnaaGreat
/- The walks of In, May, Find, Split, Range, Ranges, Check. -/
namespace Go.Proofs.YtcalkfgibflbnaaGreat
set_option maxHeartbeats 1000000
open Go.RowKit Fl
theorem run_store_float (P:Program) (w:World) (a:Addr) (m:Mode) (k:FloatKind) (b:Nat):(store a (.float k b) m).run P w=stored P w a (.float k b) m:=run_store P w a _ m rfl
attribute [local go_sem] run_store_float
def inR (r:Rg) (x:Nat):Bool:=(fgt x r.lo||feq x r.lo)&&flt x r.hi
theorem in_any (r:Rg) (x:Nat) (w:World):
 Calls Tryz.prog 112 #[r.val,.float .f64 x] w fun e w'=>e=.returned (.bool (inR r x))∧w.alloc (.cells #[.int .i64 r.id,.int .i64 r.ep,.float .f64 r.lo,.float .f64 r.hi] 35)=w':=by
 unfold Rg.val
 go_enter Tryz.func112,Tryz.ntmps112
 go_wp2
 all_goals go_ret
 all_goals refine⟨?_,rfl⟩
 · exact ret_bool rfl
 · refine ret_bool ?_
   unfold inR fgt feq
   rename_i h
   have e:(FloatKind.f64.format.order x r.lo==some Ordering.gt||FloatKind.f64.format.order x r.lo==some Ordering.eq)=false:=by simpa using h
   rw[e];rfl
theorem rin_any (r:Rg) (x:Nat) (w:World):
 Calls Tryz.prog 181 #[r.val,.float .f64 x] w fun e w'=>e=.returned (.bool (inR r x))∧w.alloc (.cells #[.int .i64 r.id,.int .i64 r.ep,.float .f64 r.lo,.float .f64 r.hi] 35)=w':=by
 go_enter Tryz.func181,Tryz.ntmps181
 go_wp2
 all_goals go_ret
 all_goals refine⟨?_,rfl⟩
 · exact ret_bool rfl
 · refine ret_bool ?_
   unfold inR fgt feq
   rename_i h
   have e:(FloatKind.f64.format.order x r.lo==some Ordering.gt||FloatKind.f64.format.order x r.lo==some Ordering.eq)=false:=by simpa using h
   rw[e];rfl
def mayR (r:Rg):Bool:=decide (1≤r.id)&&decide (r.id≤12)&&decide (0≤r.ep)&&ptB r.lo&&ptB r.hi&&flt r.lo r.hi
theorem may_any (r:Rg) (w:World) (hok:r.ok):
 Calls Tryz.prog 109 #[r.val] w fun e w'=>e=.returned (.bool (mayR r))∧w.alloc (.cells #[.int .i64 r.id,.int .i64 r.ep,.float .f64 r.lo,.float .f64 r.hi] 35)=w':=by
 have hl:=hok.2.2.1
 have hh:=hok.2.2.2
 have HL:=Lib.hid hl;have HH:=Lib.hid hh;clear hl hh
 go_enter Tryz.func109,Tryz.ntmps109
 go_wp2_with (first
  |((with_reducible refine(point_any r.lo _ HL.out).mono ?_);rintro e w1 ⟨rfl,rfl⟩)
  |((with_reducible refine(point_any r.hi _ HH.out).mono ?_);rintro e w1 ⟨rfl,rfl⟩))
 all_goals go_ret
 all_goals refine⟨ret_bool ?_,rfl⟩
 all_goals simp_all [mayR,flt]
 all_goals omega
theorem rmay_any (r:Rg) (w:World) (hok:r.ok):
 Calls Tryz.prog 118 #[r.val] w fun e w'=>e=.returned (.bool (mayR r))∧w.alloc (.cells #[.int .i64 r.id,.int .i64 r.ep,.float .f64 r.lo,.float .f64 r.hi] 35)=w':=by
 have hl:=hok.2.2.1
 have hh:=hok.2.2.2
 have HL:=Lib.hid hl;have HH:=Lib.hid hh;clear hl hh
 go_enter Tryz.func118,Tryz.ntmps118
 go_wp2_with (first
  |((with_reducible refine(is_any r.lo _ HL.out).mono ?_);rintro e w1 ⟨rfl,rfl⟩)
  |((with_reducible refine(is_any r.hi _ HH.out).mono ?_);rintro e w1 ⟨rfl,rfl⟩))
 all_goals go_ret
 all_goals refine⟨ret_bool ?_,rfl⟩
 all_goals simp_all [mayR,flt]
 all_goals omega
end Go.Proofs.YtcalkfgibflbnaaGreat
namespace Go.Proofs.YtcalkfgibflbnaaGreat
set_option maxHeartbeats 4000000
open Go.RowKit Fl
attribute [local go_sem] run_store_float
def Rg.same (a b:Rg):Bool:=(a.id==b.id)&&(a.ep==b.ep)&&((a.lo:Int)==b.lo)&&((a.hi:Int)==b.hi)
theorem Rg.same_self (a:Rg):a.same a=true:=by simp[Rg.same]
theorem range_any (a b:Rg) (w:World):
 Calls Tryz.prog 77 #[a.val,b.val] w fun e w'=>e=.returned (.bool (a.same b))∧Below w.heap.size w w':=by
 go_enter Tryz.func77,Tryz.ntmps77
 go_wp2_with ((with_reducible refine(rbits _ _ _).mono ?_);rintro e w1 ⟨rfl,rfl⟩)
 all_goals go_ret
 all_goals refine⟨ret_bool ?_,((Below.refl _ _).alloc (Nat.le_refl _) _).alloc (by simp) _⟩
 all_goals simp_all [Rg.same]
def Vl.same (a b:Vl):Bool:=(a.k==b.k)&&(a.t.toList==b.t.toList)&&((a.n:Int)==b.n)
theorem Vl.same_self (a:Vl):a.same a=true:=by simp[Vl.same]
theorem value_any (a b:Vl) (w:World):
 Calls Tryz.prog 76 #[a.val,b.val] w fun e w'=>e=.returned (.bool (a.same b))∧Below w.heap.size w w':=by
 go_enter Tryz.func76,Tryz.ntmps76
 go_wp2_with ((with_reducible refine(rbits _ _ _).mono ?_);rintro e w1 ⟨rfl,rfl⟩)
 all_goals go_ret
 all_goals refine⟨ret_bool ?_,((Below.refl _ _).alloc (Nat.le_refl _) _).alloc (by simp) _⟩
 all_goals simp_all [Vl.same]
def Wt.same (a b:Wt):Bool:=(a.key.toList==b.key.toList)&&a.v.same b.v
theorem Wt.same_self (a:Wt):a.same a=true:=by simp[Wt.same,Vl.same_self]
def sameL {α:Type} (f:α→α→Bool):List α→List α→Bool
 |[],[]=>true
 |a::l,b::m=>f a b&&sameL f l m
 |_,_=>false
theorem sameL_self {α:Type} {f:α→α→Bool} (h:∀a,f a a=true):∀l:List α,sameL f l l=true:=by
 intro l
 induction l with
 |nil=>rfl
 |cons a l ih=>show (f a a&&sameL f l l)=true;rw[h,ih];rfl
theorem sameL_len {α:Type} {f:α→α→Bool}:∀l m:List α,l.length≠m.length→sameL f l m=false:=by
 intro l
 induction l with
 |nil=>intro m h;cases m with|nil=>exact absurd rfl h|cons _ _=>rfl
 |cons a l ih=>
  intro m h
  cases m with
  |nil=>rfl
  |cons b m=>show (f a b&&sameL f l m)=false;rw[ih m (fun e=>h (by simp[e]))];simp
theorem sameL_drop {α:Type} {f:α→α→Bool} {l m:List α} {k:Nat} {a b:α} (ha:l[k]?=some a) (hb:m[k]?=some b):sameL f (l.drop k) (m.drop k)=(f a b&&sameL f (l.drop (k+1)) (m.drop (k+1))):=by
 have h1:=(List.getElem?_eq_some_iff.1 ha)
 have h2:=(List.getElem?_eq_some_iff.1 hb)
 rw[List.drop_eq_getElem_cons h1.1,List.drop_eq_getElem_cons h2.1,h1.2,h2.2];rfl
def SameRel {α:Type} (f:α→α→Bool) (l m:List α) (w:World) (i:Value) (wr:World):Prop:=
 ∃k:Nat,k≤l.length∧i=.int .i64 (k:Int)∧sameL f (l.drop k) (m.drop k)=sameL f l m∧Below w.heap.size w wr
theorem texts_any (A A':Option Addr) (n n' c c':Nat) (l m:List ByteArray) (w:World) (h:Sl KyRel 1 w w.heap.size A n l) (h':Sl KyRel 1 w w.heap.size A' n' m) (hn:n≤maxLen) (hn':n'≤maxLen):
 Calls Tryz.prog 34 #[.slice A n c,.slice A' n' c'] w fun e w'=>e=.returned (.bool (sameL (fun a b=>a.toList==b.toList) l m))∧Below w.heap.size w w':=by
 unfold maxLen at hn hn'
 have hl:=h.1
 have hl':=h'.1
 by_cases hne:n=n'
 · subst hne
   have hb0:((n:Int) !=(n:Int))=false:=by simp
   have hle:l.length≤n:=by omega
   have hge:n≤l.length:=by omega
   have hle':n≤m.length:=by omega
   have hle2:m.length≤n:=by omega
   clear hl hl'
   go_enter Tryz.func34,Tryz.ntmps34
   go_wp2
   go_loopw [5] (fun i wr=>SameRel (fun a b=>a.toList==b.toList) l m w i wr) (fun i _=>n-(intOf i).toNat)
   case atStart=>exact⟨0,by omega,rfl,rfl,Below.refl _ _⟩
   case round=>
    obtain⟨k,hk,rfl,hs,hb⟩:=hrel
    have hzz:=hb.size
    by_cases hlt:k<n
    · obtain⟨ad,a,rfl,ha,hbk,hok,c0⟩:=(h.below KyRel.kept hb).ky hlt
      obtain⟨ad',a',rfl,ha',hbk',hok',c0'⟩:=(h'.below KyRel.kept hb).ky hlt
      have hd1:decide ((k:Int)<(n:Int))=true:=by simp;omega
      have hk0:(0:Int)≤(k:Int):=by omega
      have hk1:(k:Int)<(n:Int):=by omega
      rw[sameL_drop ha ha']at hs
      have HS:=Lib.hid hs
      clear ha ha' hs
      cases hq:(a.toList==a'.toList)
      · have HF:RowKit.Hid (sameL (fun a b:ByteArray=>a.toList==b.toList) l m=false):=by have:=HS.out;rw[hq]at this;exact this.symm
        go_wp2
        go_quiet (fail)
        go_wp2
        go_ret
        rw[HF.out]
        exact⟨rfl,hb.trans ⟨rfl,rfl,rfl,Nat.le_refl _,fun _ _=>rfl⟩⟩
      · have HT:RowKit.Hid (sameL (fun a b:ByteArray=>a.toList==b.toList) (l.drop (k+1)) (m.drop (k+1))=sameL (fun a b:ByteArray=>a.toList==b.toList) l m):=by have:=HS.out;rw[hq]at this;exact this
        go_wp2
        go_quiet (fail)
        go_wp2
        go_roundw
        case rel=>exact⟨k+1,by omega,by go_num,HT.out,hb.trans ⟨rfl,rfl,rfl,Nat.le_refl _,fun _ _=>rfl⟩⟩
        case measure=>simp[intOf];omega
    · have hd1:decide ((k:Int)<(n:Int))=false:=by simp;omega
      have hs2:sameL (fun a b:ByteArray=>a.toList==b.toList) l m=true:=by
         rw[←hs,List.drop_of_length_le (by omega),List.drop_of_length_le (by omega)];rfl
      have HS:=Lib.hid hs2
      clear hs hs2
      go_wp2
      go_ret
      rw[HS.out]
      exact⟨rfl,hb⟩
 · have hb0:((n:Int) !=(n':Int))=true:=by simp;omega
   rw[sameL_len l m (by omega)]
   clear hl hl' hne
   go_enter Tryz.func34,Tryz.ntmps34
   go_wp2
   go_ret
   exact⟨rfl,Below.refl _ _⟩
theorem wts_any (A A':Option Addr) (n n' c c':Nat) (l m:List Wt) (w:World) (h:Sl WtRel 4 w w.heap.size A n l) (h':Sl WtRel 4 w w.heap.size A' n' m) (hn:n≤maxLen) (hn':n'≤maxLen):
 Calls Tryz.prog 36 #[.slice A n c,.slice A' n' c'] w fun e w'=>e=.returned (.bool (sameL Wt.same l m))∧Below w.heap.size w w':=by
 unfold maxLen at hn hn'
 have hl:=h.1
 have hl':=h'.1
 by_cases hne:n=n'
 · subst hne
   have hb0:((n:Int) !=(n:Int))=false:=by simp
   have hle:l.length≤n:=by omega
   have hge:n≤l.length:=by omega
   have hle':n≤m.length:=by omega
   have hle2:m.length≤n:=by omega
   clear hl hl'
   go_enter Tryz.func36,Tryz.ntmps36
   go_wp2
   go_loopw [5] (fun i wr=>SameRel Wt.same l m w i wr) (fun i _=>n-(intOf i).toNat)
   case atStart=>exact⟨0,by omega,rfl,rfl,Below.refl _ _⟩
   case round=>
    obtain⟨k,hk,rfl,hs,hb⟩:=hrel
    have hzz:=hb.size
    by_cases hlt:k<n
    · obtain⟨ad,a,rfl,ha,hbk,hok,c0,c1,c2,c3⟩:=(h.below WtRel.kept hb).wt hlt
      obtain⟨ad',a',rfl,ha',hbk',hok',d0,d1,d2,d3⟩:=(h'.below WtRel.kept hb).wt hlt
      have hd1:decide ((k:Int)<(n:Int))=true:=by simp;omega
      have hk0:(0:Int)≤(k:Int):=by omega
      have hk1:(k:Int)<(n:Int):=by omega
      have hbw:(ad.add (k*4)).block<wr.heap.size:=by omega
      have hbw':(ad'.add (k*4)).block<wr.heap.size:=by omega
      rw[sameL_drop ha ha']at hs
      have HS:=Lib.hid hs
      clear ha ha' hs hok hok'
      cases hq:(a.key.toList==a'.key.toList)
      · have HF:RowKit.Hid (sameL Wt.same l m=false):=by have:=HS.out;rw[show Wt.same a a'=false from by unfold Wt.same;rw[hq];rfl]at this;exact this.symm
        go_wp2
        go_quiet (fail)
        go_wp2
        go_ret
        rw[HF.out]
        exact⟨rfl,hb.trans ⟨rfl,rfl,rfl,Nat.le_refl _,fun _ _=>rfl⟩⟩
      · have hsm:Wt.same a a'=a.v.same a'.v:=by unfold Wt.same;rw[hq];rfl
        have hv:=fun w=>value_any a.v a'.v w
        rw[hsm]at HS
        clear hsm
        generalize a.v.same a'.v=r at*
        go_wp2
        go_region_held3 (fun w'=>(w'.cell? (ad.add (k*4))=some (.string a.key)∧w'.cell? ⟨(ad.add (k*4)).block,(ad.add (k*4)).off+1,none⟩=some (.int .i64 a.v.k)∧w'.cell? ⟨(ad.add (k*4)).block,(ad.add (k*4)).off+2,none⟩=some (.float .f64 a.v.n)∧w'.cell? ⟨(ad.add (k*4)).block,(ad.add (k*4)).off+3,none⟩=some (.string a.v.t))∧
         w'.cell? (ad'.add (k*4))=some (.string a'.key)∧w'.cell? ⟨(ad'.add (k*4)).block,(ad'.add (k*4)).off+1,none⟩=some (.int .i64 a'.v.k)∧w'.cell? ⟨(ad'.add (k*4)).block,(ad'.add (k*4)).off+2,none⟩=some (.float .f64 a'.v.n)∧w'.cell? ⟨(ad'.add (k*4)).block,(ad'.add (k*4)).off+3,none⟩=some (.string a'.v.t))
         (first|exact⟨⟨c0,c1,c2,c3⟩,d0,d1,d2,d3⟩|exact⟨⟨(hb1.cell hbw).trans c0,(hb1.cell (p:=⟨_,_,none⟩) hbw).trans c1,(hb1.cell (p:=⟨_,_,none⟩) hbw).trans c2,(hb1.cell (p:=⟨_,_,none⟩) hbw).trans c3⟩,(hb1.cell hbw').trans d0,(hb1.cell (p:=⟨_,_,none⟩) hbw').trans d1,(hb1.cell (p:=⟨_,_,none⟩) hbw').trans d2,(hb1.cell (p:=⟨_,_,none⟩) hbw').trans d3⟩)
         (first|((with_reducible refine(hv _).mono ?_);rintro e w1 ⟨rfl,hb1⟩))
        have hb2:Below w.heap.size w w1:=hb.trans (Below.mono (w:=wr) ⟨hb1.os,hb1.tape,hb1.output,hb1.size,hb1.block⟩ hzz)
        cases r
        · have HF:RowKit.Hid (sameL Wt.same l m=false):=by have:=HS.out;rw[Bool.false_and]at this;exact this.symm
          go_wp2
          go_ret
          rw[HF.out]
          exact⟨rfl,hb2⟩
        · have HT:RowKit.Hid (sameL Wt.same (l.drop (k+1)) (m.drop (k+1))=sameL Wt.same l m):=by have:=HS.out;rw[Bool.true_and]at this;exact this
          go_wp2
          go_roundw
          case rel=>exact⟨k+1,by omega,by go_num,HT.out,hb2⟩
          case measure=>simp[intOf];omega
    · have hd1:decide ((k:Int)<(n:Int))=false:=by simp;omega
      have hs2:sameL Wt.same l m=true:=by
         rw[←hs,List.drop_of_length_le (by omega),List.drop_of_length_le (by omega)];rfl
      have HS:=Lib.hid hs2
      clear hs hs2
      go_wp2
      go_ret
      rw[HS.out]
      exact⟨rfl,hb⟩
 · have hb0:((n:Int) !=(n':Int))=true:=by simp;omega
   rw[sameL_len l m (by omega)]
   clear hl hl' hne
   go_enter Tryz.func36,Tryz.ntmps36
   go_wp2
   go_ret
   exact⟨rfl,Below.refl _ _⟩
set_option maxHeartbeats 1000000
theorem belowN {w:World} (q:Nat):Below w.heap.size w (w.drewN q):=⟨rfl,rfl,rfl,Nat.le_refl _,fun _ _=>rfl⟩
def Sp.may (s:Sp):Bool:=decide (0≤s.w)&&decide (s.w≤281474976710656)&&decide (0≤s.l)&&decide (s.l≤65535)&&decide (0≤s.n)&&decide (s.n≤63)
theorem hmay_any (s:Sp) (w:World):
 Calls Tryz.prog 60 #[s.val] w fun e w'=>e=.returned (.bool s.may)∧w.alloc (.cells #[.int .i64 s.w,.int .i64 s.l,.int .i64 s.n] 26)=w':=by
 go_enter Tryz.func60,Tryz.ntmps60
 go_wp2
 all_goals go_ret
 all_goals refine⟨ret_bool ?_,rfl⟩
 all_goals simp_all [Sp.may]
 all_goals omega
theorem rhmay_any (s:Sp) (w:World):
 Calls Tryz.prog 65 #[s.val] w fun e w'=>e=.returned (.bool s.may)∧Below w.heap.size w w':=by
 go_enter Tryz.func65,Tryz.ntmps65
 go_wp2
 all_goals go_ret
 all_goals refine⟨ret_bool ?_,by go_grown⟩
 all_goals simp_all [Sp.may]
 all_goals omega
def Tx.may (s:Tx):Bool:=decide (1≤s.c)&&decide (s.c≤2)&&decide (1≤s.l)&&decide (1≤s.s)
theorem txnMay_any (s:Tx) (w:World):
 Calls Tryz.prog 101 #[s.val] w fun e w'=>e=.returned (.bool s.may)∧Below w.heap.size w w':=by
 go_enter Tryz.func101,Tryz.ntmps101
 go_wp2
 all_goals go_ret
 all_goals refine⟨ret_bool ?_,by go_grown⟩
 all_goals simp_all [Tx.may]
 all_goals omega
theorem rtxnMay_any (s:Tx) (w:World):
 Calls Tryz.prog 64 #[s.val] w fun e w'=>e=.returned (.bool s.may)∧Below w.heap.size w w':=by
 go_enter Tryz.func64,Tryz.ntmps64
 go_wp2
 all_goals go_ret
 all_goals refine⟨ret_bool ?_,by go_grown⟩
 all_goals simp_all [Tx.may]
 all_goals omega
def keyB (k:ByteArray):Bool:=decide ((1:Int)≤(k.size:Int))&&decide ((k.size:Int)≤24)
theorem key_any (k:ByteArray) (w:World):Calls Tryz.prog 155 #[.string k] w fun e w'=>e=.returned (.bool (keyB k))∧w=w':=by
 go_enter Tryz.func155,Tryz.ntmps155
 go_wp2
 all_goals go_ret
 all_goals refine⟨ret_bool ?_,rfl⟩
 all_goals simp_all [keyB]
 all_goals omega
theorem rkey_any (k:ByteArray) (w:World):Calls Tryz.prog 116 #[.string k] w fun e w'=>e=.returned (.bool (keyB k))∧w=w':=by
 go_enter Tryz.func116,Tryz.ntmps116
 go_wp2
 all_goals go_ret
 all_goals refine⟨ret_bool ?_,rfl⟩
 all_goals simp_all [keyB]
 all_goals omega
def ordI (a b:Int):Int:=if a<b then -1 else if b<a then 1 else 0
def Sp.cmp (a b:Sp):Int:=if a.w≠b.w then ordI a.w b.w else if a.l≠b.l then ordI a.l b.l else ordI a.n b.n
theorem cmp_any (a b:Sp) (w:World):Calls Tryz.prog 114 #[a.val,b.val] w fun e w'=>e=.returned (.int .i64 (a.cmp b))∧Below w.heap.size w w':=by
 go_enter Tryz.func114,Tryz.ntmps114
 go_wp2
 go_quiet (fail)
 go_wp2
 all_goals first
  |go_ret
  |(go_quiet (fail);go_wp2;all_goals go_ret)
 all_goals refine⟨ret_int ?_,(by go_grown:Below w.heap.size w ((w.alloc _).alloc _)).trans ((belowN _).mono (by simp;omega))⟩
 all_goals simp_all [Sp.cmp,ordI]
 all_goals omega
def emptyB (t:ByteArray):Bool:=t.toList.isEmpty
theorem quietSame {P:Program} {f:FuncId} {args:Array Value} {v:Value} {w:World} {q:Nat} (h:Calls P f args (w.drewN q) fun e w'=>e=.returned v∧w.drewN q=w'):
 Calls P f args (w.drewN q) fun e w'=>e=.returned v∧∃m,w'=w.drewN m:=h.mono fun _ _ ⟨he,hw⟩=>⟨he,q,hw.symm⟩
def Vl.may (v:Vl):Bool:=
 if v.k=0 then ((v.n:Int)==0)&&emptyB v.t else if v.k=1 then emptyB v.t&&((v.n:Int)==canonB v.n) else if v.k=2 then ((v.n:Int)==0)&&decide ((v.t.size:Int)≤64) else false
theorem Vl.may0 {v:Vl} (h:v.k=0):v.may=(((v.n:Int)==0)&&emptyB v.t):=by unfold Vl.may;rw[if_pos h]
theorem Vl.may1 {v:Vl} (h:v.k=1):v.may=(emptyB v.t&&((v.n:Int)==canonB v.n)):=by unfold Vl.may;rw[if_neg (by omega),if_pos h]
theorem Vl.may2 {v:Vl} (h:v.k=2):v.may=(((v.n:Int)==0)&&decide ((v.t.size:Int)≤64)):=by unfold Vl.may;rw[if_neg (by omega),if_neg (by omega),if_pos h]
theorem Vl.may3 {v:Vl} (h0:v.k≠0) (h1:v.k≠1) (h2:v.k≠2):v.may=false:=by unfold Vl.may;rw[if_neg h0,if_neg h1,if_neg h2]
theorem vmay_any (v:Vl) (w:World):Calls Tryz.prog 157 #[v.val] w fun e w'=>e=.returned (.bool v.may)∧Below w.heap.size w w':=by
 by_cases h0:v.k=0
 · have hk:(v.k==0)=true:=by simp[h0]
   rw[Vl.may0 h0]
   clear h0
   cases ht:emptyB v.t<;>cases hn:((v.n:Int)==0)
   all_goals unfold emptyB at ht
   all_goals go_enter Tryz.func157,Tryz.ntmps157
   all_goals go_wp2
   all_goals go_ret
   all_goals exact⟨rfl,by go_grown⟩
 by_cases h1:v.k=1
 · have hk:(v.k==0)=false:=by simp[h0]
   have hk2:(v.k==1)=true:=by simp[h1]
   rw[Vl.may1 h1]
   clear h0 h1
   cases ht:emptyB v.t<;>cases hn:((v.n:Int)==canonB v.n)
   all_goals unfold emptyB at ht
   all_goals go_enter Tryz.func157,Tryz.ntmps157
   all_goals go_wp2
   all_goals go_quiet (first|(go_at_call 196;exact quietSame (nbits _ _)))
   all_goals go_wp2
   all_goals go_ret
   all_goals exact⟨rfl,(by go_grown:Below w.heap.size w (w.alloc _)).trans ((belowN _).mono (by simp))⟩
 by_cases h2:v.k=2
 · have hk:(v.k==0)=false:=by simp[h0]
   have hk2:(v.k==1)=false:=by simp[h1]
   have hk3:(v.k==2)=true:=by simp[h2]
   rw[Vl.may2 h2]
   clear h0 h1 h2
   cases ht:decide ((v.t.size:Int)≤64)<;>cases hn:((v.n:Int)==0)
   all_goals go_enter Tryz.func157,Tryz.ntmps157
   all_goals go_wp2
   all_goals go_ret
   all_goals exact⟨rfl,by go_grown⟩
 · have hk:(v.k==0)=false:=by simp[h0]
   have hk2:(v.k==1)=false:=by simp[h1]
   have hk3:(v.k==2)=false:=by simp[h2]
   rw[Vl.may3 h0 h1 h2]
   clear h0 h1 h2
   go_enter Tryz.func157,Tryz.ntmps157
   go_wp2
   go_ret
   exact⟨rfl,by go_grown⟩
theorem info_parts {P:Program} {t:TypeId} {z:Value} {s b:Nat} (h:(P.info? t).map (fun i=>(i.zero,i.size,i.bytes))=some (some z,s,b)):∃i,P.info? t=some i∧i.zero=some z∧i.size=s∧i.bytes=b:=by
 cases hi:P.info? t with
 |none=>rw[hi]at h;cases h
 |some i=>
  rw[hi]at h
  simp only[Option.map_some,Option.some.injEq,Prod.mk.injEq]at h
  exact⟨i,rfl,h.1,h.2.1,h.2.2⟩
theorem wt_info:(Tryz.prog.info? 61).map (fun i=>(i.zero,i.size,i.bytes))=some (some (.agg #[.string ⟨#[]⟩,.int .i64 0,.float .f64 0,.string ⟨#[]⟩]),4,48):=by kernel_rfl
theorem reads_new' (w:World) (t:TypeId) (cs:List Value) (k:Nat) (h:cs.length=k):Reads (w.alloc (.cells cs.toArray t)) (w.heap.size+1) k (some ⟨w.heap.size,0,none⟩) 1 cs:=by
 refine⟨by rw[h,Nat.one_mul],fun _=>⟨_,rfl,by simp,fun j u hj=>?_⟩⟩
 rw[Addr.add_mid,Nat.zero_add,(Blk.new w t cs.toArray).cell]
 simpa using hj
def Dis (v v2:Value):Prop:=∀k,v.ownBlock=some k→v2.ownBlock≠some k
theorem Dis.nil (v:Value):Dis v (.slice none 0 0):=fun k _ e=>by simp[Value.ownBlock]at e
def OwnL {α:Type} (f:α→List Value) (E size base:Nat) (w:World) (v:Value) (l:List α):Prop:=w.ownsRow base E size v l.length (l.flatMap f)
section
variable {α:Type} {f:α→List Value} {E size base:Nat} {w w' X w1:World} {v v1 v2:Value} {l m:List α}
theorem OwnL.below (h:OwnL f E size base w v l) (hb:Below w.heap.size w w'):OwnL f E size base w' v l:=
 h.kept (row:=none) ⟨hb.os,hb.tape,hb.output,hb.size,fun k hk _=>hb.block k hk⟩ (by cases v.ownBlock<;>simp)
theorem OwnL.nil (w:World):OwnL f E size base w (.slice none 0 0) []:=World.ownsRow_nil _ _ _ _
theorem OwnL.form (h:OwnL f E size base w v l):∃A c,v=.slice A l.length c∧l.length≤c∧c≤maxLen:=own_form h
theorem OwnL.push (a:α) (hown:w1.ownsRow base E size v1 (l.length+1) (l.flatMap f++f a)):OwnL f E size base w1 v1 (l++[a]):=by
 unfold OwnL
 rw[List.length_append,List.flatMap_append]
 simpa using hown
theorem OwnL.sl {cells:α→List Value} {ok:α→Prop} (hk:0<size) (hf:∀a,(cells a).length=size) (h:OwnL cells E size base w v l) (hok:∀a∈l,ok a):HdRel (Flat cells ok) size w w.heap.size v l:=by
 obtain⟨A,c,rfl,h1,h2⟩:=h.form
 exact⟨A,_,c,rfl,h1,h2,(Reads.of_own h).sl hk hf hok rfl⟩
end
set_option maxHeartbeats 4000000
set_option maxRecDepth 100000
def bl (a b:ByteArray):Bool:=Op.bytesLess a.toList b.toList
def riseFrom:Option ByteArray→List ByteArray→Bool
 |_,[]=>true
 |p,k::l=>keyB k&&(match p with|none=>true|some q=>bl q k)&&riseFrom (some k) l
def riseB (l:List ByteArray):Bool:=riseFrom none l&&decide ((l.length:Int)≤16)
def ahead {α:Type} (l:List α):Nat→Option α
 |0=>none
 |k+1=>l[k]?
theorem riseFrom_drop {l:List ByteArray} {k:Nat} {a:ByteArray} (h:l[k]?=some a):
 riseFrom (ahead l k) (l.drop k)=(keyB a&&(match ahead l k with|none=>true|some q=>bl q a)&&riseFrom (ahead l (k+1)) (l.drop (k+1))):=by
 have h1:=List.getElem?_eq_some_iff.1 h
 rw[List.drop_eq_getElem_cons h1.1,h1.2]
 show (_&&_&&riseFrom (some a) _)=_
 rw[show ahead l (k+1)=some a from h]
def RiseRel (l:List ByteArray) (w:World) (i:Value) (wr:World):Prop:=∃k:Nat,k≤l.length∧i=.int .i64 (k:Int)∧riseFrom (ahead l k) (l.drop k)=riseFrom none l∧w=wr
theorem rise_any (A:Option Addr) (n c:Nat) (l:List ByteArray) (w:World) (h:Sl KyRel 1 w w.heap.size A n l) (hn:n≤maxLen):
 Calls Tryz.prog 168 #[.slice A n c] w fun e w'=>e=.returned (.bool (riseB l))∧w=w':=by
 unfold maxLen at hn
 have hl:=h.1
 have hge:n≤l.length:=by omega
 go_enter Tryz.func168,Tryz.ntmps168
 go_wp2
 go_loopw [7] (fun i wr=>RiseRel l w i wr) (fun i _=>n-(intOf i).toNat)
 case atStart=>exact⟨0,by omega,rfl,rfl,rfl⟩
 case round=>
  obtain⟨k,hk,rfl,hs,rfl⟩:=hrel
  by_cases hlt:k<n
  · obtain⟨ad,a,rfl,ha,hbk,hok,c0⟩:=h.ky hlt
    have hka:=fun w=>key_any a w
    have hd1:decide ((k:Int)<(n:Int))=true:=by simp;omega
    have hk0:(0:Int)≤(k:Int):=by omega
    have hk1:(k:Int)<(n:Int):=by omega
    rw[riseFrom_drop ha]at hs
    cases hkb:keyB a
    · rw[hkb]at hka hs
      have HF:RowKit.Hid (riseB l=false):=by unfold riseB;rw[←hs];rfl
      clear hs ha hl
      go_wp2_with ((with_reducible refine(hka _).mono ?_);rintro e w1 ⟨rfl,rfl⟩)
      go_ret
      rw[HF.out]
      exact⟨rfl,rfl⟩
    · rw[hkb]at hka hs
      by_cases hz:k=0
      · have hd2:¬(0<k):=by omega
        have hs':riseFrom (ahead l (k+1)) (l.drop (k+1))=riseFrom none l:=by rw[←hs,hz];simp[ahead]
        have HS:=Lib.hid hs'
        clear hs hs' hl ha hz
        go_wp2_with ((with_reducible refine(hka _).mono ?_);rintro e w1 ⟨rfl,rfl⟩)
        go_roundw
        case rel=>exact⟨k+1,by omega,by go_num,HS.out,rfl⟩
        case measure=>simp[intOf];omega
      · obtain⟨ad',b,e',hb,hbk',hok',d0⟩:=h.ky (k:=k-1) (by omega)
        injection e' with e'
        subst e'
        have hd2:0<k:=by omega
        have hj0:(0:Int)≤(k:Int)-1:=by omega
        have hj1:(k:Int)-1<(n:Int):=by omega
        have hj2:((k:Int)-1).toNat=k-1:=by omega
        have hah:ahead l k=some b:=by
         cases k with
         |zero=>omega
         |succ j=>exact hb
        rw[hah]at hs
        cases hbl:bl b a
        · have HF:=Lib.hid (show riseB l=false by unfold riseB;rw[←hs];simp[hbl])
          unfold bl at hbl
          clear hs hl ha hb hz hah
          go_wp2_with ((with_reducible refine(hka _).mono ?_);rintro e w1 ⟨rfl,rfl⟩)
          go_ret
          rw[HF.out]
          exact⟨rfl,rfl⟩
        · have hs':riseFrom (ahead l (k+1)) (l.drop (k+1))=riseFrom none l:=by rw[←hs];simp[hbl]
          have HS:=Lib.hid hs'
          unfold bl at hbl
          clear hs hs' hl ha hb hz hah
          go_wp2_with ((with_reducible refine(hka _).mono ?_);rintro e w1 ⟨rfl,rfl⟩)
          go_roundw
          case rel=>exact⟨k+1,by omega,by go_num,HS.out,rfl⟩
          case measure=>simp[intOf];omega
  · have hd1:decide ((k:Int)<(n:Int))=false:=by simp;omega
    have hr:riseB l=decide ((n:Int)≤16):=by
        unfold riseB
        rw[←hs,List.drop_of_length_le (by omega),hl];rfl
    have HS:=Lib.hid hr
    clear hs hr hl
    go_wp2
    go_ret
    rw[HS.out]
    exact⟨rfl,rfl⟩
def KeysRel (l:List Wt) (w:World) (v i:Value) (wr:World):Prop:=∃k:Nat,k≤l.length∧i=.int .i64 (k:Int)∧OwnL keyCells 9 1 w.heap.size wr v ((l.take k).map (·.key))∧Below w.heap.size w wr
theorem ky_info:(Tryz.prog.info? 9).map (fun i=>(i.zero,i.size,i.bytes))=some (some (.string ⟨#[]⟩),1,16):=by kernel_rfl
theorem writeKeys_any (A:Option Addr) (n c:Nat) (l:List Wt) (w:World) (h:Sl WtRel 4 w w.heap.size A n l) (hn:n≤1000000):
 Calls Tryz.prog 169 #[.slice A n c] w fun e w'=>∃v,e=.returned v∧OwnL keyCells 9 1 w.heap.size w' v (l.map (·.key))∧Below w.heap.size w w':=by
 obtain⟨i0,hi0,hz0,hz1,hz2⟩:=info_parts ky_info
 have hl:=h.1
 have hle:l.length≤n:=by omega
 have hge:n≤l.length:=by omega
 clear hl
 go_enter Tryz.func169,Tryz.ntmps169
 go_wp2
 go_loopw [3,8] (fun v i wr=>KeysRel l w v i wr) (fun _ i _=>n-(intOf i).toNat)
 case atStart=>exact⟨0,by omega,rfl,OwnL.nil _,Below.refl _ _⟩
 case round=>
  obtain⟨k,hk,rfl,ho,hb⟩:=hrel
  have hzz:=hb.size
  by_cases hlt:k<n
  · obtain⟨ad,a,rfl,ha,hbk,hok,c0,c1,c2,c3⟩:=(h.below WtRel.kept hb).wt hlt
    have hd1:decide ((k:Int)<(n:Int))=true:=by simp;omega
    have hsn:(l.take (k+1)).map (·.key)=(l.take k).map (·.key)++[a.key]:=by rw[List.take_add_one,ha];simp
    have hln:((l.take k).map (·.key)).length≤1000000:=by simp;omega
    have HS:=Lib.hid hsn
    clear hsn ha
    obtain⟨A1,q1,rfl,hq1,hq1m⟩:=ho.form
    generalize (l.take k).map (·.key)=ks at*
    have hX:Below wr.heap.size wr ((wr.alloc (.cells a.cells.toArray 61)).alloc (.cells (keyCells a.key).toArray 9)):=((Below.refl _ _).alloc (Nat.le_refl _) _).alloc (by simp) _
    have hown0:=ho.below hX
    have hrd0:=reads_new' (wr.alloc (.cells a.cells.toArray 61)) 9 (keyCells a.key) 1 rfl
    rw[show (wr.alloc (.cells a.cells.toArray 61)).heap.size=wr.heap.size+1 from by simp]at hrd0
    have hsz0:((wr.alloc (.cells a.cells.toArray 61)).alloc (.cells (keyCells a.key).toArray 9)).heap.size=wr.heap.size+2:=by simp
    go_wp2_with (first
        |(at_builtin
          refine wpList_append_any _ rfl (.tmp 12) (.tmp 15) _ rfl w.heap.size 9 i0 _ 1 16 Tryz.underlying27 hi0 hz0 hz1 hz2 rfl (by omega) (.slice A1 ks.length q1) _ (ks.flatMap keyCells) (by rfl) hown0 _ (some ⟨wr.heap.size+1,0,none⟩) 1 1 (keyCells a.key) (by rfl)
           hrd0 (ky_one a.key) (by unfold maxLen;omega) (by omega) (by simp;omega) ?_
          intro v3 w3 hown3 hg3 hat3
          obtain⟨A3,q3,rfl,hq3,hq3m⟩:=own_form hown3))
    have hp:=OwnL.push a.key hown3
    have hbw:=(hb.trans (hX.mono hzz)).grown hg3 (by simp;omega) (fun q hq=>(hown0.lt q hq).1)
    go_roundw
    case rel=>
        refine⟨k+1,by omega,by go_num,?_⟩
        rw[HS.out]
        exact⟨hp,hbw⟩
    case measure=>simp[intOf];omega
  · have hd1:decide ((k:Int)<(n:Int))=false:=by simp;omega
    rw[List.take_of_length_le (by omega)]at ho
    obtain⟨A1,q1,rfl,hq1,hq1m⟩:=ho.form
    go_wp2
    go_ret
    exact⟨_,rfl,ho,hb⟩
theorem below_setRow {B:Nat} {a w:World} (h:Below B a w) {g:Nat} (hg:B≤g) (cs:Array Value):Below B a (w.setRow g cs):=
 ⟨h.os,h.tape,h.output,by rw[setRow_size];exact h.size,fun k hk=>(setRow_other w g k cs (by omega)).trans (h.block k hk)⟩
theorem Blk.setRow {w:World} {g:Nat} {t:TypeId} {cs:Array Value} (h:Blk w g t cs) (cs':Array Value):Blk (w.setRow g cs') g t cs':=by
 unfold Blk at h ⊢
 simp[World.setRow,Array.getElem?_modify,h]
theorem Blk.setRow_far {w:World} {g g':Nat} {t:TypeId} {cs:Array Value} (h:Blk w g t cs) (cs':Array Value) (hne:g'≠g):Blk (w.setRow g' cs') g t cs:=by
 unfold Blk at h ⊢
 simp[World.setRow,Array.getElem?_modify,hne,h]
theorem Blk.three {w:World} {g:Nat} {t:TypeId} {a b c:Value} (h:Blk w g t #[a,b,c]):g<w.heap.size∧w.cell? ⟨g,0,none⟩=some a∧w.cell? ⟨g,1,none⟩=some b∧w.cell? ⟨g,2,none⟩=some c:=
 ⟨h.lt,h.cell 0,h.cell 1,h.cell 2⟩
theorem Blk.six {w:World} {g:Nat} {t:TypeId} {a b c d e f:Value} (h:Blk w g t #[a,b,c,d,e,f]):g<w.heap.size∧w.cell? ⟨g,0,none⟩=some a∧w.cell? ⟨g,1,none⟩=some b∧w.cell? ⟨g,2,none⟩=some c∧
 w.cell? ⟨g,3,none⟩=some d∧w.cell? ⟨g,4,none⟩=some e∧w.cell? ⟨g,5,none⟩=some f:=
 ⟨h.lt,h.cell 0,h.cell 1,h.cell 2,h.cell 3,h.cell 4,h.cell 5⟩
theorem Blk.eight {w:World} {g:Nat} {t:TypeId} {a b c d e f i j:Value} (h:Blk w g t #[a,b,c,d,e,f,i,j]):g<w.heap.size∧w.cell? ⟨g,0,none⟩=some a∧w.cell? ⟨g,1,none⟩=some b∧w.cell? ⟨g,2,none⟩=some c∧
 w.cell? ⟨g,3,none⟩=some d∧w.cell? ⟨g,4,none⟩=some e∧w.cell? ⟨g,5,none⟩=some f∧w.cell? ⟨g,6,none⟩=some i∧w.cell? ⟨g,7,none⟩=some j:=
 ⟨h.lt,h.cell 0,h.cell 1,h.cell 2,h.cell 3,h.cell 4,h.cell 5,h.cell 6,h.cell 7⟩
def leB (a b:ByteArray):Bool:=Op.bytesLess a.toList b.toList||a.toList==b.toList
def versB:Sp→List Vn→Bool
 |_,[]=>true
 |p,v::l=>v.s.may&&decide (0<v.s.cmp p)&&v.v.may&&versB v.s l
def histB (p:ByteArray) (h:Hs):Bool:=keyB h.key&& !leB h.key p&& !decide (h.vs.length=0)&&versB ⟨0,0,0⟩ h.vs
theorem versB_drop {l:List Vn} {k:Nat} {a:Vn} (p:Sp) (h:l[k]?=some a):versB p (l.drop k)=(a.s.may&&decide (0<a.s.cmp p)&&a.v.may&&versB a.s (l.drop (k+1))):=by
 have h1:=List.getElem?_eq_some_iff.1 h
 rw[List.drop_eq_getElem_cons h1.1,h1.2]
 rfl
abbrev Sp.arr (s:Sp):Array Value:=#[.int .i64 s.w,.int .i64 s.l,.int .i64 s.n]
def HistRel (l:List Vn) (w:World) (i:Value) (wr:World):Prop:=
 ∃(k:Nat) (p:Sp),k≤l.length∧i=.int .i64 (k:Int)∧versB p (l.drop k)=versB ⟨0,0,0⟩ l∧Blk wr (w.heap.size+1) 26 p.arr∧Below w.heap.size w wr
theorem history_good (A:Option Addr) (n c:Nat) (h:Hs) (p:ByteArray) (w:World) (hh:Sl VnRel 6 w w.heap.size A n h.vs) (hn:n≤maxLen) (h1:keyB h.key=true) (h2:leB h.key p=false) (h3:h.vs.length≠0):
 Calls Tryz.prog 162 #[.agg #[.string h.key,.slice A n c],.string p] w fun e w'=>e=.returned (.bool (versB ⟨0,0,0⟩ h.vs))∧Below w.heap.size w w':=by
 unfold maxLen at hn
 have hl:=hh.1
 have hge:n≤h.vs.length:=by omega
 have hle:h.vs.length≤n:=by omega
 have hk:=fun w=>key_any h.key w
 rw[h1]at hk
 have hn0:((n:Int)==0)=false:=by simp;omega
 have hn1:(n==0)=false:=by simp;omega
 unfold leB at h2
 rw[Bool.or_eq_false_iff]at h2
 obtain⟨h21,h22⟩:=h2
 clear hl h1 h3
 generalize h.vs=l at*
 go_enter Tryz.func162,Tryz.ntmps162
 go_wp2_with (first
  |((with_reducible refine(hk _).mono ?_);rintro e w1 ⟨rfl,rfl⟩))
 go_loopw [28] (fun i wr=>HistRel l w i wr) (fun i _=>n-(intOf i).toNat)
 case atStart=>exact⟨0,⟨0,0,0⟩,by omega,rfl,rfl,Blk.new' _ _ (by simp),by go_grown⟩
 case round=>
  obtain⟨k,q,hk',rfl,hs,b5,hb⟩:=hrel
  have hzz:=hb.size
  by_cases hlt:k<n
  · obtain⟨ad,a,rfl,ha,hbk,hok,c0,c1,c2,c3,c4,c5⟩:=(hh.below VnRel.kept hb).vn hlt
    have hd1:decide ((k:Int)<(n:Int))=true:=by simp;omega
    have hm:=fun w=>hmay_any a.s w
    have hc:=fun w=>cmp_any a.s q w
    have hv:=fun w=>vmay_any a.v w
    rw[versB_drop q ha]at hs
    obtain⟨g5,y0,y1,y2⟩:=b5.three
    have g55:w.heap.size+1<wr.heap.size+1:=by omega
    cases hmb:a.s.may
    · rw[hmb]at hm hs
      have HF:=Lib.hid (show versB ⟨0,0,0⟩ l=false by rw[←hs];rfl)
      clear hs ha hmb
      go_wp2_with ((with_reducible refine(hm _).mono ?_);rintro e w1 ⟨rfl,rfl⟩)
      go_ret
      rw[HF.out]
      exact⟨rfl,hb.trans (((Below.refl _ _).alloc (by omega) _).alloc (by simp;omega) _)⟩
    rw[hmb]at hm hs
    generalize a.s.cmp q=cc at*
    by_cases hcc:cc≤0
    · have HF:=Lib.hid (show versB ⟨0,0,0⟩ l=false by rw[←hs];simp;intro h;omega)
      clear hs ha hmb
      go_wp2_with (first
       |((with_reducible refine(hm _).mono ?_);rintro e w1 ⟨rfl,rfl⟩)
       |((with_reducible refine(hc _).mono ?_);rintro e w2 ⟨rfl,hb2⟩
         have b7:=((Blk.new wr 160 a.cells.toArray).alloc _).below hb2 (by simp<;>omega)
         have b5':=((b5.alloc _).alloc _).below hb2 (by simp;omega)
         obtain⟨g7,x0,x1,x2,x3,x4,x5⟩:=b7.six
         obtain⟨g5,y0,y1,y2⟩:=b5'.three
         have hw2:Below w.heap.size w w2:=hb.trans ((((Below.refl _ _).alloc (by omega) _).alloc (by simp;omega) _).trans (hb2.mono (by simp;omega)))))
      go_ret
      rw[HF.out]
      exact⟨rfl,hw2⟩
    cases hvb:a.v.may
    · rw[hvb]at hv hs
      have HF:=Lib.hid (show versB ⟨0,0,0⟩ l=false by rw[←hs];simp)
      clear hs ha hmb hvb
      go_wp2_with (first
       |((with_reducible refine(hm _).mono ?_);rintro e w1 ⟨rfl,rfl⟩)
       |((with_reducible refine(hc _).mono ?_);rintro e w2 ⟨rfl,hb2⟩
         have b7:=((Blk.new wr 160 a.cells.toArray).alloc _).below hb2 (by simp<;>omega)
         have b5':=((b5.alloc _).alloc _).below hb2 (by simp;omega)
         obtain⟨g7,x0,x1,x2,x3,x4,x5⟩:=b7.six
         obtain⟨g5,y0,y1,y2⟩:=b5'.three
         have hw2:Below w.heap.size w w2:=hb.trans ((((Below.refl _ _).alloc (by omega) _).alloc (by simp;omega) _).trans (hb2.mono (by simp;omega))))
       |((with_reducible refine(hv _).mono ?_);rintro e w3 ⟨rfl,hb3⟩
         have b7':=b7.below hb3 (by omega)
         have b5'':=b5'.below hb3 (by omega)
         obtain⟨g7',x0',x1',x2',x3',x4',x5'⟩:=b7'.six
         obtain⟨g5',y0',y1',y2'⟩:=b5''.three
         have hw3:Below w.heap.size w w3:=hw2.trans (hb3.mono (by omega))))
      go_ret
      rw[HF.out]
      exact⟨rfl,hw3⟩
    · rw[hvb]at hv hs
      have HT:=Lib.hid (show versB a.s (l.drop (k+1))=versB ⟨0,0,0⟩ l by rw[←hs];simp;intro h;omega)
      clear hs ha hmb hvb
      go_wp2_with (first
       |((with_reducible refine(hm _).mono ?_);rintro e w1 ⟨rfl,rfl⟩)
       |((with_reducible refine(hc _).mono ?_);rintro e w2 ⟨rfl,hb2⟩
         have b7:=((Blk.new wr 160 a.cells.toArray).alloc _).below hb2 (by simp<;>omega)
         have b5':=((b5.alloc _).alloc _).below hb2 (by simp;omega)
         obtain⟨g7,x0,x1,x2,x3,x4,x5⟩:=b7.six
         obtain⟨g5,y0,y1,y2⟩:=b5'.three
         have hw2:Below w.heap.size w w2:=hb.trans ((((Below.refl _ _).alloc (by omega) _).alloc (by simp;omega) _).trans (hb2.mono (by simp;omega))))
       |((with_reducible refine(hv _).mono ?_);rintro e w3 ⟨rfl,hb3⟩
         have b7':=b7.below hb3 (by omega)
         have b5'':=b5'.below hb3 (by omega)
         obtain⟨g7',x0',x1',x2',x3',x4',x5'⟩:=b7'.six
         obtain⟨g5',y0',y1',y2'⟩:=b5''.three
         have hw3:Below w.heap.size w w3:=hw2.trans (hb3.mono (by omega)))
       |(refine wpList_store_row rfl 26 _ _ rfl _ _ rfl rfl _ _ b5'' (by kernel_rfl) (by kernel_rfl) (by kernel_rfl) ?_))
      go_roundw
      case rel=>exact⟨k+1,a.s,by omega,by go_num,HT.out,b5''.setRow _,below_setRow hw3 (by omega) _⟩
      case measure=>simp[intOf];omega
  · have hd1:decide ((k:Int)<(n:Int))=false:=by simp;omega
    rw[List.drop_of_length_le (by omega)]at hs
    have HS:=Lib.hid hs
    clear hs
    go_wp2
    go_ret
    rw[←HS.out]
    exact⟨rfl,hb⟩
theorem history_any (A:Option Addr) (n c:Nat) (h:Hs) (p:ByteArray) (w:World) (hh:Sl VnRel 6 w w.heap.size A n h.vs) (hn:n≤maxLen):
 Calls Tryz.prog 162 #[.agg #[.string h.key,.slice A n c],.string p] w fun e w'=>e=.returned (.bool (histB p h))∧Below w.heap.size w w':=by
 have hk:=fun w=>key_any h.key w
 have hl:=hh.1
 cases h1:keyB h.key
 · rw[h1]at hk
   have HF:=Lib.hid (show histB p h=false by unfold histB;rw[h1];rfl)
   clear h1
   go_enter Tryz.func162,Tryz.ntmps162
   go_wp2_with ((with_reducible refine(hk _).mono ?_);rintro e w1 ⟨rfl,rfl⟩)
   go_ret
   rw[HF.out]
   exact⟨rfl,by go_grown⟩
 cases h2:leB h.key p
 · by_cases h3:h.vs.length=0
   · have hn0:n=0:=by omega
     have HF:=Lib.hid (show histB p h=false by unfold histB;rw[h3];simp)
     subst hn0
     rw[h1]at hk
     unfold leB at h2
     rw[Bool.or_eq_false_iff]at h2
     obtain⟨h21,h22⟩:=h2
     clear h1 h3 hh hl
     go_enter Tryz.func162,Tryz.ntmps162
     go_wp2_with ((with_reducible refine(hk _).mono ?_);rintro e w1 ⟨rfl,rfl⟩)
     go_ret
     rw[HF.out]
     exact⟨rfl,by go_grown⟩
   · have e:histB p h=versB ⟨0,0,0⟩ h.vs:=by unfold histB;rw[h1,h2];simp[h3]
     rw[e]
     exact history_good A n c h p w hh hn h1 h2 h3
 · rw[h1]at hk
   have HF:=Lib.hid (show histB p h=false by unfold histB;rw[h2];simp)
   unfold leB at h2
   clear h1
   go_enter Tryz.func162,Tryz.ntmps162
   go_wp2_with ((with_reducible refine(hk _).mono ?_);rintro e w1 ⟨rfl,rfl⟩)
   all_goals go_ret
   all_goals rw[HF.out]
   all_goals exact⟨rfl,by go_grown⟩
abbrev Pn.val (p:Pn) (r q:Value):Value:=.agg #[.int .i64 p.t.c,.int .i64 p.t.l,.int .i64 p.t.s,.int .i64 p.s.w,.int .i64 p.s.l,.int .i64 p.s.n,r,q]
def Sp.zero (s:Sp):Bool:=(s.w==0)&&(s.l==0)&&(s.n==0)
def allMay:List Wt→Bool
 |[]=>true
 |a::l=>a.v.may&&allMay l
def pendE (p:Pn):Int:=if !p.t.may then 4 else if !p.s.may||p.s.zero then 17 else if !riseB p.r|| !riseB (p.w.map (·.key)) then 4 else if allMay p.w then 0 else 4
theorem allMay_drop {l:List Wt} {k:Nat} {a:Wt} (h:l[k]?=some a):allMay (l.drop k)=(a.v.may&&allMay (l.drop (k+1))):=by
 have h1:=List.getElem?_eq_some_iff.1 h
 rw[List.drop_eq_getElem_cons h1.1,h1.2]
 rfl
def MayRel (l:List Wt) (w:World) (i:Value) (wr:World):Prop:=∃k:Nat,k≤l.length∧i=.int .i64 (k:Int)∧allMay (l.drop k)=allMay l∧Below w.heap.size w wr
theorem zero_run (s:Sp) (w:World):(Op.equalIn 10000 26 (.agg #[.int .i64 s.w,.int .i64 s.l,.int .i64 s.n]) (.agg #[.int .i64 0,.int .i64 0,.int .i64 0])).run Tryz.prog w=.ok s.zero w:=by
 unfold Sp.zero
 cases h1:(s.w==0)<;>cases h2:(s.l==0)<;>cases h3:(s.n==0)
 all_goals simp[go_sem,h1,h2,h3]
theorem pend_any (p:Pn) (A1 A2:Option Addr) (n1 n2 c1 c2:Nat) (w:World) (hr:Sl KyRel 1 w w.heap.size A1 n1 p.r) (hw:Sl WtRel 4 w w.heap.size A2 n2 p.w) (hn1:n1≤maxLen) (hn2:n2≤1000000):
 Calls Tryz.prog 115 #[p.val (.slice A1 n1 c1) (.slice A2 n2 c2)] w fun e w'=>e=.returned (.int .i64 (pendE p))∧Below w.heap.size w w':=by
 have ht':=fun w=>txnMay_any p.t w
 have hs':=fun w=>hmay_any p.s w
 have hzr:=fun w=>zero_run p.s w
 have hB:=Blk.new w 162 #[.int .i64 p.t.c,.int .i64 p.t.l,.int .i64 p.t.s,.int .i64 p.s.w,.int .i64 p.s.l,.int .i64 p.s.n,.slice A1 n1 c1,.slice A2 n2 c2]
 cases ht:p.t.may
 · have HF:=Lib.hid (show pendE p=4 by unfold pendE;rw[ht];rfl)
   rw[ht]at ht'
   clear ht
   go_enter Tryz.func115,Tryz.ntmps115
   go_wp2_with ((with_reducible refine(ht' _).mono ?_);rintro e w1 ⟨rfl,hb1⟩)
   go_ret
   rw[HF.out]
   exact⟨rfl,((Below.refl _ _).alloc (Nat.le_refl _) _).trans (hb1.mono (by simp))⟩
 rw[ht]at ht'
 cases hs:p.s.may
 · have HF:=Lib.hid (show pendE p=17 by unfold pendE;rw[ht,hs];rfl)
   rw[hs]at hs'
   clear ht hs
   go_enter Tryz.func115,Tryz.ntmps115
   go_wp2_with (first
    |((with_reducible refine(ht' _).mono ?_);rintro e w1 ⟨rfl,hb1⟩
      have hB1:=hB.below hb1 (by simp)
      obtain⟨g1,x0,x1,x2,x3,x4,x5,x6,x7⟩:=hB1.eight)
    |((with_reducible refine(hs' _).mono ?_);rintro e w2 ⟨rfl,rfl⟩))
   go_ret
   rw[HF.out]
   exact⟨rfl,(((Below.refl _ _).alloc (Nat.le_refl _) _).trans (hb1.mono (by simp))).alloc (by omega) _⟩
 rw[hs]at hs'
 cases hz:p.s.zero
 · have hE:pendE p=if !riseB p.r|| !riseB (p.w.map (·.key)) then 4 else if allMay p.w then 0 else 4:=by unfold pendE;rw[ht,hs,hz];rfl
   rw[hz]at hzr
   clear ht hs hz
   cases hr1:riseB p.r
   · have HF:=Lib.hid (show pendE p=4 by rw[hE,hr1];rfl)
     clear hE
     go_enter Tryz.func115,Tryz.ntmps115
     go_wp2_with (first
        |((with_reducible refine(ht' _).mono ?_);rintro e w1 ⟨rfl,hb1⟩
          have hB1:=hB.below hb1 (by simp)
          obtain⟨g1,x0,x1,x2,x3,x4,x5,x6,x7⟩:=hB1.eight
          have hw1:Below w.heap.size w w1:=((Below.refl _ _).alloc (Nat.le_refl _) _).trans (hb1.mono (by simp)))
        |((with_reducible refine(hs' _).mono ?_);rintro e w2 ⟨rfl,rfl⟩
          have hw2:Below w.heap.size w (w1.alloc (.cells p.s.arr 26)):=hw1.alloc (by omega) _
          have hR:=rise_any A1 n1 c1 p.r _ (hr.below KyRel.kept hw2|>.more KyRel.kept hw2.size) hn1
          rw[hr1]at hR)
        |((with_reducible refine hR.mono ?_);rintro e w3 ⟨rfl,rfl⟩))
     go_ret
     rw[HF.out]
     exact⟨rfl,hw2⟩
   go_enter Tryz.func115,Tryz.ntmps115
   go_wp2_with (first
    |((with_reducible refine(ht' _).mono ?_);rintro e w1 ⟨rfl,hb1⟩
      have hB1:=hB.below hb1 (by simp)
      obtain⟨g1,x0,x1,x2,x3,x4,x5,x6,x7⟩:=hB1.eight
      have hw1:Below w.heap.size w w1:=((Below.refl _ _).alloc (Nat.le_refl _) _).trans (hb1.mono (by simp)))
    |((with_reducible refine(hs' _).mono ?_);rintro e w2 ⟨rfl,rfl⟩
      have hw2:Below w.heap.size w (w1.alloc (.cells p.s.arr 26)):=hw1.alloc (by omega) _
      have hR:=rise_any A1 n1 c1 p.r _ (hr.below KyRel.kept hw2|>.more KyRel.kept hw2.size) hn1
      rw[hr1]at hR)
    |((with_reducible refine hR.mono ?_);rintro e w3 ⟨rfl,rfl⟩)
    |(go_at_call 169;fail))
   refine(writeKeys_any A2 n2 c2 p.w _ (hw.below WtRel.kept hw2|>.more WtRel.kept hw2.size) hn2).mono ?_
   rintro e w4 ⟨v,rfl,ho,hb4⟩
   have hw4:Below w.heap.size w w4:=hw2.trans (hb4.mono hw2.size)
   have hB4:=(hB1.alloc (.cells p.s.arr 26)).below hb4 (by simp;omega)
   obtain⟨A3,n3,c3,rfl,hn3,hc3,hs3⟩:=ho.sl (ok:=fun k=>k.size≤140737488351232) (by omega) ky_len (fun k hk=>by
    obtain⟨a,ha,rfl⟩:=List.mem_map.1 hk
    obtain⟨i,hi⟩:=List.getElem?_of_mem ha
    obtain⟨ad,cs,e,hb,hl,hc,hr⟩:=hw.2 i a hi
    exact hr.2.1)
   have hR4:=rise_any A3 n3 c3 _ w4 hs3 (by omega)
   clear x0 x1 x2 x3 x4 x5 x6 x7 hR ht' hs' hzr g1
   obtain⟨g1,x0,x1,x2,x3,x4,x5,x6,x7⟩:=hB4.eight
   cases hr2:riseB (p.w.map (·.key))
   · have HF:=Lib.hid (show pendE p=4 by rw[hE,hr1,hr2];rfl)
     rw[hr2]at hR4
     clear hE
     go_wp2_with ((with_reducible refine hR4.mono ?_);rintro e w3 ⟨rfl,rfl⟩)
     go_ret
     rw[HF.out]
     exact⟨rfl,hw4⟩
   · rw[hr2]at hR4
     rw[hr1,hr2]at hE
     have hE':pendE p=if allMay p.w then 0 else 4:=hE
     have HE:=Lib.hid hE'
     clear hE hE'
     go_wp2_with ((with_reducible refine hR4.mono ?_);rintro e w3 ⟨rfl,rfl⟩)
     have hww:Sl WtRel 4 w4 w4.heap.size A2 n2 p.w:=hw.below WtRel.kept hw4|>.more WtRel.kept hw4.size
     have hl:=hw.1
     have hge:n2≤p.w.length:=by omega
     have hle:p.w.length≤n2:=by omega
     clear hl hw hr x0 x1 x2 x3 x4 x5 x6 x7 hB hB1 hB4 hs3 ho hR4 hr1 hr2
     go_loopw [36] (fun i wr=>MayRel p.w w4 i wr) (fun i _=>n2-(intOf i).toNat)
     case atStart=>exact⟨0,by omega,rfl,rfl,Below.refl _ _⟩
     case round=>
        obtain⟨k,hk,rfl,hs,hb⟩:=hrel
        have hzz:=hb.size
        by_cases hlt:k<n2
        · obtain⟨ad,a,rfl,ha,hbk,hok,c0,c1,c2,c3⟩:=(hww.below WtRel.kept hb).wt hlt
          have hd1:decide ((k:Int)<(n2:Int))=true:=by simp;omega
          have hk0:(0:Int)≤(k:Int):=by omega
          have hk1:(k:Int)<(n2:Int):=by omega
          have hv:=fun w=>vmay_any a.v w
          rw[allMay_drop ha]at hs
          cases hm:a.v.may
          · rw[hm]at hv hs
            have HF:=Lib.hid (show pendE p=4 by rw[HE.out,←hs];rfl)
            clear hs ha hm HE
            go_wp2_with ((with_reducible refine(hv _).mono ?_);rintro e w5 ⟨rfl,hb5⟩)
            go_ret
            rw[HF.out]
            exact⟨rfl,hw4.trans (Below.mono (hb.trans (((Below.refl _ _).alloc hzz _).trans (hb5.mono (by simp;omega)))) hw4.size)⟩
          · rw[hm]at hv hs
            have HT:=Lib.hid hs
            clear hs ha hm
            go_wp2_with ((with_reducible refine(hv _).mono ?_);rintro e w5 ⟨rfl,hb5⟩)
            go_roundw
            case rel=>exact⟨k+1,by omega,by go_num,HT.out,hb.trans (((Below.refl _ _).alloc hzz _).trans (hb5.mono (by simp;omega)))⟩
            case measure=>simp[intOf];omega
        · have hd1:decide ((k:Int)<(n2:Int))=false:=by simp;omega
          have HF:=Lib.hid (show pendE p=0 by rw[HE.out,←hs,List.drop_of_length_le (by omega)];rfl)
          clear hs HE
          go_wp2
          go_ret
          rw[HF.out]
          exact⟨rfl,hw4.trans (hb.mono hw4.size)⟩
 · have HF:=Lib.hid (show pendE p=17 by unfold pendE;rw[ht,hs,hz];rfl)
   rw[hz]at hzr
   clear ht hs hz
   go_enter Tryz.func115,Tryz.ntmps115
   go_wp2_with (first
    |((with_reducible refine(ht' _).mono ?_);rintro e w1 ⟨rfl,hb1⟩
      have hB1:=hB.below hb1 (by simp)
      obtain⟨g1,x0,x1,x2,x3,x4,x5,x6,x7⟩:=hB1.eight)
    |((with_reducible refine(hs' _).mono ?_);rintro e w2 ⟨rfl,rfl⟩))
   go_ret
   rw[HF.out]
   exact⟨rfl,(((Below.refl _ _).alloc (Nat.le_refl _) _).trans (hb1.mono (by simp))).alloc (by omega) _⟩
theorem vn_info:(Tryz.prog.info? 160).map (fun i=>(i.zero,i.size,i.bytes))=some (some (.agg #[.int .i64 0,.int .i64 0,.int .i64 0,.int .i64 0,.float .f64 0,.string ⟨#[]⟩]),6,56):=by kernel_rfl
theorem clone_vn (A:Option Addr) (n c:Nat) (l:List Vn) (w:World) (h:Sl VnRel 6 w w.heap.size A n l) (hn:n≤1000000):
 Calls Tryz.prog 163 #[.slice A n c] w fun e w'=>∃v,e=.returned v∧OwnL Vn.cells 160 6 w.heap.size w' v l∧Below w.heap.size w w':=by
 cases A with
 |none=>
  have hl:l=[]:=by
   rcases Nat.eq_zero_or_pos n with h0|h0
   · exact List.eq_nil_of_length_eq_zero (by rw[h.1];exact h0)
   · obtain⟨ad,_,_,e,_⟩:=h.at_ h0;cases e
  subst hl
  obtain rfl:n=0:=h.1.symm
  have he:∀w:World,(binOp .eql 156 (.slice none 0 c) (.slice none 0 0)).run Tryz.prog w=.ok (.bool true) w:=fun _=>rfl
  go_enter Tryz.func163,Tryz.ntmps163
  go_wp2
  go_ret
  exact⟨_,rfl,OwnL.nil _,Below.refl _ _⟩
 |some ad=>
  obtain⟨i0,hi0,hz0,hz1,hz2⟩:=info_parts vn_info
  have hl:=h.1
  have he:∀w:World,(binOp .eql 156 (.slice (some ad) n c) (.slice none 0 0)).run Tryz.prog w=.ok (.bool false) w:=fun _=>rfl
  have hr:=h.reads (by omega) vn_len
  go_enter Tryz.func163,Tryz.ntmps163
  go_wp2_with (first
   |(at_builtin
     refine wpList_append_any _ rfl (.tmp 5) (.tmp 6) _ rfl w.heap.size 160 i0 _ 6 56 Tryz.underlying156 hi0 hz0 hz1 hz2 rfl (by omega) (.slice (some ⟨w.heap.size,0,none⟩) 0 0) 0 [] (by rfl)
      (World.ownsRow_made w #[] 0 (Nat.le_refl _) (by unfold maxLen;omega) rfl) w.heap.size (some ad) n c (l.flatMap Vn.cells) (by rfl) (hr.alloc (Nat.le_refl _) _) (one_of vn_one l) (by unfold maxLen;omega) (by omega) (by simp) ?_
     intro v1 w1 hown1 hg1 hat1
     simp only[Nat.zero_add,List.nil_append]at hown1
     obtain⟨A1,c1,rfl,hn1,hc1⟩:=own_form hown1))
  have hb1:Below w.heap.size w w1:=((Below.refl _ _).alloc (Nat.le_refl _) _).grown hg1 (by simp) (by intro k hk;simp[Value.ownBlock]at hk;omega)
  go_ret
  refine⟨_,rfl,?_,hb1⟩
  unfold OwnL
  rw[hl]
  exact hown1
theorem clone_ky (A:Option Addr) (n c:Nat) (l:List ByteArray) (w:World) (h:Sl KyRel 1 w w.heap.size A n l) (hn:n≤1000000):
 Calls Tryz.prog 206 #[.slice A n c] w fun e w'=>∃v,e=.returned v∧OwnL keyCells 9 1 w.heap.size w' v l∧Below w.heap.size w w':=by
 cases A with
 |none=>
  have hl:l=[]:=by
   rcases Nat.eq_zero_or_pos n with h0|h0
   · exact List.eq_nil_of_length_eq_zero (by rw[h.1];exact h0)
   · obtain⟨ad,_,_,e,_⟩:=h.at_ h0;cases e
  subst hl
  obtain rfl:n=0:=h.1.symm
  have he:∀w:World,(binOp .eql 27 (.slice none 0 c) (.slice none 0 0)).run Tryz.prog w=.ok (.bool true) w:=fun _=>rfl
  go_enter Tryz.func206,Tryz.ntmps206
  go_wp2
  go_ret
  exact⟨_,rfl,OwnL.nil _,Below.refl _ _⟩
 |some ad=>
  obtain⟨i0,hi0,hz0,hz1,hz2⟩:=info_parts ky_info
  have hl:=h.1
  have he:∀w:World,(binOp .eql 27 (.slice (some ad) n c) (.slice none 0 0)).run Tryz.prog w=.ok (.bool false) w:=fun _=>rfl
  have hr:=h.reads (by omega) ky_len
  go_enter Tryz.func206,Tryz.ntmps206
  go_wp2_with (first
   |(at_builtin
     refine wpList_append_any _ rfl (.tmp 5) (.tmp 6) _ rfl w.heap.size 9 i0 _ 1 16 Tryz.underlying27 hi0 hz0 hz1 hz2 rfl (by omega) (.slice (some ⟨w.heap.size,0,none⟩) 0 0) 0 [] (by rfl)
      (World.ownsRow_made w #[] 0 (Nat.le_refl _) (by unfold maxLen;omega) rfl) w.heap.size (some ad) n c (l.flatMap keyCells) (by rfl) (hr.alloc (Nat.le_refl _) _) (one_of ky_one l) (by unfold maxLen;omega) (by omega) (by simp) ?_
     intro v1 w1 hown1 hg1 hat1
     simp only[Nat.zero_add,List.nil_append]at hown1
     obtain⟨A1,c1,rfl,hn1,hc1⟩:=own_form hown1))
  have hb1:Below w.heap.size w w1:=((Below.refl _ _).alloc (Nat.le_refl _) _).grown hg1 (by simp) (by intro k hk;simp[Value.ownBlock]at hk;omega)
  go_ret
  refine⟨_,rfl,?_,hb1⟩
  unfold OwnL
  rw[hl]
  exact hown1
theorem clone_wt (A:Option Addr) (n c:Nat) (l:List Wt) (w:World) (h:Sl WtRel 4 w w.heap.size A n l) (hn:n≤1000000):
 Calls Tryz.prog 207 #[.slice A n c] w fun e w'=>∃v,e=.returned v∧OwnL Wt.cells 61 4 w.heap.size w' v l∧Below w.heap.size w w':=by
 cases A with
 |none=>
  have hl:l=[]:=by
   rcases Nat.eq_zero_or_pos n with h0|h0
   · exact List.eq_nil_of_length_eq_zero (by rw[h.1];exact h0)
   · obtain⟨ad,_,_,e,_⟩:=h.at_ h0;cases e
  subst hl
  obtain rfl:n=0:=h.1.symm
  have he:∀w:World,(binOp .eql 29 (.slice none 0 c) (.slice none 0 0)).run Tryz.prog w=.ok (.bool true) w:=fun _=>rfl
  go_enter Tryz.func207,Tryz.ntmps207
  go_wp2
  go_ret
  exact⟨_,rfl,OwnL.nil _,Below.refl _ _⟩
 |some ad=>
  obtain⟨i0,hi0,hz0,hz1,hz2⟩:=info_parts wt_info
  have hl:=h.1
  have he:∀w:World,(binOp .eql 29 (.slice (some ad) n c) (.slice none 0 0)).run Tryz.prog w=.ok (.bool false) w:=fun _=>rfl
  have hr:=h.reads (by omega) wt_len
  go_enter Tryz.func207,Tryz.ntmps207
  go_wp2_with (first
   |(at_builtin
     refine wpList_append_any _ rfl (.tmp 5) (.tmp 6) _ rfl w.heap.size 61 i0 _ 4 48 Tryz.underlying29 hi0 hz0 hz1 hz2 rfl (by omega) (.slice (some ⟨w.heap.size,0,none⟩) 0 0) 0 [] (by rfl)
      (World.ownsRow_made w #[] 0 (Nat.le_refl _) (by unfold maxLen;omega) rfl) w.heap.size (some ad) n c (l.flatMap Wt.cells) (by rfl) (hr.alloc (Nat.le_refl _) _) (one_of wt_one l) (by unfold maxLen;omega) (by omega) (by simp) ?_
     intro v1 w1 hown1 hg1 hat1
     simp only[Nat.zero_add,List.nil_append]at hown1
     obtain⟨A1,c1,rfl,hn1,hc1⟩:=own_form hown1))
  have hb1:Below w.heap.size w w1:=((Below.refl _ _).alloc (Nat.le_refl _) _).grown hg1 (by simp) (by intro k hk;simp[Value.ownBlock]at hk;omega)
  go_ret
  refine⟨_,rfl,?_,hb1⟩
  unfold OwnL
  rw[hl]
  exact hown1
def inL (k:ByteArray) (l:List ByteArray):Bool:=l.any fun b=>k.toList==b.toList
def wrL (k:ByteArray) (l:List Wt):Bool:=l.any fun a=>a.key.toList==k.toList
theorem any_drop {α:Type} {f:α→Bool} {l:List α} {k:Nat} {a:α} (h:l[k]?=some a):(l.drop k).any f=(f a||(l.drop (k+1)).any f):=by
 have h1:=List.getElem?_eq_some_iff.1 h
 rw[List.drop_eq_getElem_cons h1.1,h1.2]
 rfl
def AnyRel {α:Type} (f:α→Bool) (l:List α) (w:World) (i:Value) (wr:World):Prop:=∃k:Nat,k≤l.length∧i=.int .i64 (k:Int)∧(l.drop k).any f=l.any f∧Below w.heap.size w wr
theorem index_any (A:Option Addr) (n c:Nat) (l:List ByteArray) (x:ByteArray) (w:World) (h:Sl KyRel 1 w w.heap.size A n l) (hn:n≤maxLen):
 Calls Tryz.prog 231 #[.slice A n c,.string x] w fun e w'=>∃z:Int,e=.returned (.int .i64 z)∧decide (0≤z)=inL x l∧Below w.heap.size w w':=by
 unfold maxLen at hn
 have hl:=h.1
 have hge:n≤l.length:=by omega
 have hle:l.length≤n:=by omega
 clear hl
 go_enter Tryz.func231,Tryz.ntmps231
 go_wp2
 go_loopw [8] (fun i wr=>AnyRel (fun b=>x.toList==b.toList) l w i wr) (fun i _=>n-(intOf i).toNat)
 case atStart=>exact⟨0,by omega,rfl,rfl,Below.refl _ _⟩
 case round=>
  obtain⟨k,hk,rfl,hs,hb⟩:=hrel
  by_cases hlt:k<n
  · obtain⟨ad,a,rfl,ha,hbk,hok,c0⟩:=(h.below KyRel.kept hb).ky hlt
    have hd1:decide ((k:Int)<(n:Int))=true:=by simp;omega
    have hk0:(0:Int)≤(k:Int):=by omega
    have hk1:(k:Int)<(n:Int):=by omega
    rw[any_drop ha]at hs
    cases hq:(x.toList==a.toList)
    · rw[hq]at hs
      have HT:=Lib.hid hs
      clear hs ha
      go_wp2
      go_roundw
      case rel=>exact⟨k+1,by omega,by go_num,HT.out,hb⟩
      case measure=>simp[intOf];omega
    · have HF:=Lib.hid (show inL x l=true by unfold inL;rw[←hs,hq];rfl)
      clear hs ha
      go_wp2
      go_ret
      exact⟨k,rfl,by rw[HF.out];simp,hb⟩
  · have hd1:decide ((k:Int)<(n:Int))=false:=by simp;omega
    have HF:=Lib.hid (show inL x l=false by unfold inL;rw[←hs,List.drop_of_length_le (by omega)];rfl)
    clear hs
    go_wp2
    go_ret
    exact⟨-1,rfl,by rw[HF.out];simp,hb⟩
theorem contains_any (A:Option Addr) (n c:Nat) (l:List ByteArray) (x:ByteArray) (w:World) (h:Sl KyRel 1 w w.heap.size A n l) (hn:n≤maxLen):
 Calls Tryz.prog 204 #[.slice A n c,.string x] w fun e w'=>e=.returned (.bool (inL x l))∧Below w.heap.size w w':=by
 go_enter Tryz.func204,Tryz.ntmps204
 go_wp2_with (go_at_call 231;fail)
 refine(index_any A n c l x w h hn).mono ?_
 rintro e w1 ⟨z,rfl,hz,hb⟩
 have HZ:=Lib.hid hz
 clear hz
 go_wp2
 go_ret
 exact⟨ret_bool HZ.out,hb⟩
theorem wrClos (a:Wt) (x:ByteArray) (B:Nat) (w:World) (hB:B<w.heap.size) (hc:w.cell? ⟨B,0,none⟩=some (.string x)):
 Calls Tryz.prog 230 #[a.val,.pointer (some ⟨B,0,none⟩)] w fun e w'=>e=.returned (.bool (a.key.toList==x.toList))∧Below w.heap.size w w':=by
 go_enter Tryz.func230,Tryz.ntmps230
 go_wp2
 go_ret
 exact⟨rfl,by go_grown⟩
theorem indexF_any (A:Option Addr) (n c:Nat) (l:List Wt) (x:ByteArray) (B:Nat) (w:World) (h:Sl WtRel 4 w w.heap.size A n l) (hn:n≤maxLen) (hB:B<w.heap.size) (hc:w.cell? ⟨B,0,none⟩=some (.string x)):
 Calls Tryz.prog 235 #[.slice A n c,.func (.func 230) #[] #[.pointer (some ⟨B,0,none⟩)]] w fun e w'=>∃z:Int,e=.returned (.int .i64 z)∧decide (0≤z)=wrL x l∧Below w.heap.size w w':=by
 unfold maxLen at hn
 have hl:=h.1
 have hge:n≤l.length:=by omega
 have hle:l.length≤n:=by omega
 clear hl
 go_enter Tryz.func235,Tryz.ntmps235
 go_wp2
 go_loopw [8] (fun i wr=>AnyRel (fun a:Wt=>a.key.toList==x.toList) l w i wr) (fun i _=>n-(intOf i).toNat)
 case atStart=>exact⟨0,by omega,rfl,rfl,Below.refl _ _⟩
 case round=>
  obtain⟨k,hk,rfl,hs,hb⟩:=hrel
  have hzz:=hb.size
  by_cases hlt:k<n
  · obtain⟨ad,a,rfl,ha,hbk,hok,c0,c1,c2,c3⟩:=(h.below WtRel.kept hb).wt hlt
    have hd1:decide ((k:Int)<(n:Int))=true:=by simp;omega
    have hk0:(0:Int)≤(k:Int):=by omega
    have hk1:(k:Int)<(n:Int):=by omega
    have hC:=wrClos a x B wr (by omega) ((hb.cell (p:=⟨B,0,none⟩) hB).trans hc)
    rw[any_drop ha]at hs
    cases hq:(a.key.toList==x.toList)
    · rw[hq]at hs hC
      have HT:=Lib.hid hs
      clear hs ha
      go_wp2_with (first
       |((with_reducible refine hC.mono ?_);rintro e w1 ⟨rfl,hb1⟩))
      go_roundw
      case rel=>exact⟨k+1,by omega,by go_num,HT.out,hb.trans (hb1.mono hzz)⟩
      case measure=>simp[intOf];omega
    · have HF:=Lib.hid (show wrL x l=true by unfold wrL;rw[←hs,hq];rfl)
      rw[hq]at hC
      clear hs ha
      go_wp2_with (first
       |((with_reducible refine hC.mono ?_);rintro e w1 ⟨rfl,hb1⟩))
      go_ret
      exact⟨k,rfl,by rw[HF.out];simp,hb.trans (hb1.mono hzz)⟩
  · have hd1:decide ((k:Int)<(n:Int))=false:=by simp;omega
    have HF:=Lib.hid (show wrL x l=false by unfold wrL;rw[←hs,List.drop_of_length_le (by omega)];rfl)
    clear hs
    go_wp2
    go_ret
    exact⟨-1,rfl,by rw[HF.out];simp,hb⟩
theorem containsF_any (A:Option Addr) (n c:Nat) (l:List Wt) (x:ByteArray) (B:Nat) (w:World) (h:Sl WtRel 4 w w.heap.size A n l) (hn:n≤maxLen) (hB:B<w.heap.size) (hc:w.cell? ⟨B,0,none⟩=some (.string x)):
 Calls Tryz.prog 229 #[.slice A n c,.func (.func 230) #[] #[.pointer (some ⟨B,0,none⟩)]] w fun e w'=>e=.returned (.bool (wrL x l))∧Below w.heap.size w w':=by
 go_enter Tryz.func229,Tryz.ntmps229
 go_wp2_with (go_at_call 235;fail)
 refine(indexF_any A n c l x B w h hn hB hc).mono ?_
 rintro e w1 ⟨z,rfl,hz,hb⟩
 have HZ:=Lib.hid hz
 clear hz
 go_wp2
 go_ret
 exact⟨ret_bool HZ.out,hb⟩
theorem writes_any (p:Pn) (r:Value) (x:ByteArray) (A:Option Addr) (n c:Nat) (w:World) (_hr:r.oneCell'=true) (h:Sl WtRel 4 w w.heap.size A n p.w) (hn:n≤maxLen):
 Calls Tryz.prog 203 #[p.val r (.slice A n c),.string x] w fun e w'=>e=.returned (.bool (wrL x p.w))∧Below w.heap.size w w':=by
 go_enter Tryz.func203,Tryz.ntmps203
 go_wp2_with (go_at_call 229;fail)
 have hX:Below w.heap.size w ((w.alloc (.cells #[.int .i64 p.t.c,.int .i64 p.t.l,.int .i64 p.t.s,.int .i64 p.s.w,.int .i64 p.s.l,.int .i64 p.s.n,r,.slice A n c] 162)).alloc (.cells #[.string x] 9)):=by go_grown
 refine(containsF_any A n c p.w x (w.heap.size+1) _ (h.below WtRel.kept hX|>.more WtRel.kept hX.size) hn (by simp) ((Blk.new' _ _ (by simp)).cell 0)).mono ?_
 rintro e w1 ⟨rfl,hb⟩
 go_wp2
 go_ret
 exact⟨rfl,hX.trans (hb.mono hX.size)⟩
section
variable {α:Type} {f:α→List Value} {E size base base':Nat} {w:World} {v:Value} {l:List α}
theorem OwnL.mono_base (h:OwnL f E size base w v l) (hb:base'≤base):OwnL f E size base' w v l:=by
 refine⟨h.1,?_⟩
 rcases h.2 with h|⟨g,c,cur,e,hg,r⟩
 · exact .inl h
 · exact .inr ⟨g,c,cur,e,Nat.le_trans hb hg,r⟩
theorem OwnL.far (h:OwnL f E size base w v l) {g:Nat} (hg:g<base):v.ownBlock=none∨v.ownBlock≠some g:=by
 cases e:v.ownBlock with
 |none=>exact .inl rfl
 |some k=>
  refine .inr fun e2=>?_
  have:=(h.lt k e).1
  injection e2 with e2
  omega
theorem OwnL.set_far (h:OwnL f E size base w v l) {p:Addr} (hp:p.block<base) (u:Value):OwnL f E size base (w.setCell p u) v l:=
 World.ownsRow.kept (row:=some p.block) h ⟨rfl,rfl,rfl,by simp,fun k _ hne=>Below.heap_setCell w p u k (fun e=>hne (by rw[e]))⟩ (h.far hp)
theorem OwnL.setRow_far (h:OwnL f E size base w v l) {g:Nat} (hp:g<base) (cs:Array Value):OwnL f E size base (w.setRow g cs) v l:=
 World.ownsRow.kept (row:=some g) h ⟨rfl,rfl,rfl,by simp,fun k _ hne=>setRow_other w g k cs (fun e=>hne (by rw[e]))⟩ (h.far hp)
end
def ClonePost (p:Pn) (w:World):Ending→World→Prop:=fun e w'=>∃r q,e=.returned (p.val r q)∧OwnL keyCells 9 1 w.heap.size w' r p.r∧OwnL Wt.cells 61 4 w.heap.size w' q p.w∧Below w.heap.size w w'
theorem pclone_any (p:Pn) (A1 A2:Option Addr) (n1 n2 c1 c2:Nat) (w:World) (hr:Sl KyRel 1 w w.heap.size A1 n1 p.r) (hw:Sl WtRel 4 w w.heap.size A2 n2 p.w) (hn1:n1≤1000000) (hn2:n2≤1000000):
 Calls Tryz.prog 166 #[p.val (.slice A1 n1 c1) (.slice A2 n2 c2)] w (ClonePost p w):=by
 go_enter Tryz.func166,Tryz.ntmps166
 go_wp2_with (go_at_call 206;fail)
 have hX:Below w.heap.size w ((w.alloc (.cells #[.int .i64 p.t.c,.int .i64 p.t.l,.int .i64 p.t.s,.int .i64 p.s.w,.int .i64 p.s.l,.int .i64 p.s.n,.slice A1 n1 c1,.slice A2 n2 c2] 162)).alloc (.cells #[.int .i64 0,.int .i64 0,.int .i64 0,.int .i64 0,.int .i64 0,.int .i64 0,.slice none 0 0,.slice none 0 0] 162)):=by go_grown
 have d1:=(Blk.new w 162 #[.int .i64 p.t.c,.int .i64 p.t.l,.int .i64 p.t.s,.int .i64 p.s.w,.int .i64 p.s.l,.int .i64 p.s.n,.slice A1 n1 c1,.slice A2 n2 c2]).alloc (.cells #[.int .i64 0,.int .i64 0,.int .i64 0,.int .i64 0,.int .i64 0,.int .i64 0,.slice none 0 0,.slice none 0 0] 162)
 have d2:=Blk.new' (w:=w.alloc (.cells #[.int .i64 p.t.c,.int .i64 p.t.l,.int .i64 p.t.s,.int .i64 p.s.w,.int .i64 p.s.l,.int .i64 p.s.n,.slice A1 n1 c1,.slice A2 n2 c2] 162)) (g:=w.heap.size+1) 162 #[.int .i64 0,.int .i64 0,.int .i64 0,.int .i64 0,.int .i64 0,.int .i64 0,.slice none 0 0,.slice none 0 0] (by simp)
 refine(clone_ky A1 n1 c1 p.r _ (hr.below KyRel.kept hX|>.more KyRel.kept hX.size) hn1).mono ?_
 rintro e w1 ⟨v1,rfl,ho1,hb1⟩
 have e1:=d1.below hb1 d1.lt
 have e2:=d2.below hb1 d2.lt
 have hw1:Below w.heap.size w w1:=hX.trans (hb1.mono hX.size)
 replace ho1:OwnL keyCells 9 1 (w.heap.size+2) w1 v1 p.r:=ho1.mono_base (by simp)
 clear hb1 hX d1 d2
 obtain⟨g1,x0,x1,x2,x3,x4,x5,x6,x7⟩:=e1.eight
 have g2:=e2.lt
 have f6:=e1.frozen 6
 have f7:=e1.frozen 7
 obtain⟨A3,q3,rfl,hq3,hq3m⟩:=ho1.form
 go_wp2_with (go_at_call 207;fail)
 have ho2:=ho1.set_far (p:=⟨w.heap.size,6,none⟩) (by simp) (.slice A3 p.r.length q3)
 have k1:Blk (w1.setCell ⟨w.heap.size,6,none⟩ (.slice A3 p.r.length q3)) w.heap.size 162 #[.int .i64 p.t.c,.int .i64 p.t.l,.int .i64 p.t.s,.int .i64 p.s.w,.int .i64 p.s.l,.int .i64 p.s.n,.slice A3 p.r.length q3,.slice A2 n2 c2]:=e1.set_ 6 _
 have k2:=e2.far (p:=⟨w.heap.size,6,none⟩) (by simp) (.slice A3 p.r.length q3)
 have hw2:Below w.heap.size w (w1.setCell ⟨w.heap.size,6,none⟩ (.slice A3 p.r.length q3)):=hw1.setCell (by simp) _
 clear e1 e2 ho1 hw1 x0 x1 x2 x3 x4 x5 x6 x7 f6 f7
 generalize (w1.setCell ⟨w.heap.size,6,none⟩ (.slice A3 p.r.length q3))=w2 at*
 refine(clone_wt A2 n2 c2 p.w _ (hw.below WtRel.kept hw2|>.more WtRel.kept hw2.size) hn2).mono ?_
 rintro e w3 ⟨v3,rfl,ho3,hb3⟩
 have e1:=k1.below hb3 k1.lt
 have e2:=k2.below hb3 k2.lt
 have hw3:Below w.heap.size w w3:=hw2.trans (hb3.mono hw2.size)
 have l2:=k2.lt
 replace ho3:OwnL Wt.cells 61 4 (w.heap.size+2) w3 v3 p.w:=ho3.mono_base (by omega)
 have ho2:=ho2.below hb3
 clear k1 k2 hw2
 obtain⟨g1,x0,x1,x2,x3,x4,x5,x6,x7⟩:=e1.eight
 have g2:=e2.lt
 have f7:=e1.frozen 7
 obtain⟨A4,q4,rfl,hq4,hq4m⟩:=ho3.form
 have e3:Blk (w3.setCell ⟨w.heap.size,7,none⟩ (.slice A4 p.w.length q4)) w.heap.size 162 #[.int .i64 p.t.c,.int .i64 p.t.l,.int .i64 p.t.s,.int .i64 p.s.w,.int .i64 p.s.l,.int .i64 p.s.n,.slice A3 p.r.length q3,.slice A4 p.w.length q4]:=e1.set_ 7 _
 have e4:=e2.far (p:=⟨w.heap.size,7,none⟩) (by simp) (.slice A4 p.w.length q4)
 go_wp2_with (first
  |(refine wpList_store_row rfl 162 _ _ rfl _ _ rfl rfl _ _ e4 (by kernel_rfl) (by kernel_rfl) (by kernel_rfl) ?_))
 refine post_cell rfl (by rfl) (e4.setRow _) rfl rfl (by kernel_rfl) ?_
 refine⟨_,_,rfl,?_,?_,?_⟩
 · exact((ho2.set_far (by simp) _).setRow_far (by omega) _).mono_base (by omega)
 · exact((ho3.set_far (by simp) _).setRow_far (by omega) _).mono_base (by omega)
 · exact below_setRow (hw3.setCell (by simp) _) (by omega) _
abbrev anyE:Value→Option (DataW Value×List MemPlace):=fun v=>some (.held v,[])
theorem laidO:laidOutB Tryz.prog=true:=by kernel_rfl
theorem kStr:Maps.Keyed Tryz.prog 9:=Maps.string_keyed Tryz.underlying9
theorem kTxn:Maps.Keyed Tryz.prog 23:=Maps.Keyed.of_law (deep_law_laid (m:=3) laidO (by omega) (of_decide_eq_true (by kernel_rfl)) (by kernel_rfl) (by kernel_rfl))
noncomputable def txl (t:Tx):Lit:=(keyOf Tryz.prog 23 t.val).getD .nil
theorem txl_of {t:Tx} (h:t.ok):keyOf Tryz.prog 23 t.val=some (txl t):=by
 have hw:∀z,i64ok z→(Lit.int .i64 z).wf=true:=fun z hz=>by unfold i64ok at hz;simp[Lit.wf,IntKind.min,IntKind.max,IntKind.signed,IntKind.bits];omega
 have e:keyOf Tryz.prog 23 t.val=some (.string (keyBytes [.int .i64 t.c,.int .i64 t.l,.int .i64 t.s])):=by
  unfold keyOf
  rw[Tryz.underlying23]
  have h1:(Tryz.prog.keyType 23&&Value.formed Tryz.prog 23 t.val)=true:=by kernel_rfl
  show (if _ then _ else _)=_
  rw[if_pos h1]
  obtain⟨m,hm⟩:∃m,Tryz.prog.types.size=m+1:=⟨Tryz.prog.types.size-1,by
   have:0<Tryz.prog.types.size:=of_decide_eq_true (by kernel_rfl)
   omega⟩
  rw[hm]
  have hc:Tryz.prog.cellsOf 23=3:=by kernel_rfl
  have hi:Tryz.prog.cellsOf 3=1:=by kernel_rfl
  simp[Program.keyLits,Tryz.underlying23,Tryz.underlying3,hc,hi,Value.cells,hw _ h.1,hw _ h.2.1,hw _ h.2.2]
 unfold txl
 rw[e];rfl
theorem txl_inj {a b:Tx} (ha:a.ok) (hb:b.ok) (h:txl a=txl b):a=b:=by
 have h1:=txl_of ha
 have h2:=txl_of hb
 rw[h]at h1
 have:=kTxn.inj h1 h2
 cases a;cases b
 simpa using this
def versOf (l:List Hs) (key:ByteArray):List Vn:=l.foldl (fun acc h=>if h.key.toList==key.toList then h.vs else acc) []
theorem versOf_snoc (l:List Hs) (h:Hs) (key:ByteArray):versOf (l++[h]) key=if h.key.toList==key.toList then h.vs else versOf l key:=by
 unfold versOf
 rw[List.foldl_append]
 rfl
abbrev keyLit (k:ByteArray):Lit:=.string k.data.toList
abbrev zeroVs:DataW Value:=.held (.slice none 0 0)
def KeysD (w:World) (B:Nat) (D:DataW Value) (l:List Hs):Prop:=∀key:ByteArray,∃v,D.atKey (keyLit key) zeroVs=.held v∧HdRel VnRel 6 w B v (versOf l key)
def PendD (w:World) (B:Nat) (D:DataW Value) (l:List Pn):Prop:=
 (∀kl,Maps.has D kl=true→∃p∈l,kl=txl p.t)∧∀p∈l,p.t.ok∧p.s.ok∧∃r q,(∀zd,D.atKey (txl p.t) zd=.held (p.val r q))∧HdRel KyRel 1 w B r p.r∧HdRel WtRel 4 w B q p.w
section
variable {w w':World} {B B':Nat} {D:DataW Value} {l:List Hs} {m:List Pn}
theorem KeysD.below (h:KeysD w B D l) (hb:Below B w w'):KeysD w' B D l:=fun key=>by
 obtain⟨v,e,hv⟩:=h key
 exact⟨v,e,hv.below VnRel.kept hb⟩
theorem KeysD.more (h:KeysD w B D l) (hB:B≤B'):KeysD w B' D l:=fun key=>by
 obtain⟨v,e,hv⟩:=h key
 exact⟨v,e,hv.more VnRel.kept hB⟩
theorem PendD.below (h:PendD w B D m) (hb:Below B w w'):PendD w' B D m:=⟨h.1,fun p hp=>by
 obtain⟨h1,h2,r,q,e,hr,hq⟩:=h.2 p hp
 exact⟨h1,h2,r,q,e,hr.below KyRel.kept hb,hq.below WtRel.kept hb⟩⟩
theorem PendD.more (h:PendD w B D m) (hB:B≤B'):PendD w B' D m:=⟨h.1,fun p hp=>by
 obtain⟨h1,h2,r,q,e,hr,hq⟩:=h.2 p hp
 exact⟨h1,h2,r,q,e,hr.more KyRel.kept hB,hq.more WtRel.kept hB⟩⟩
theorem KeysD.nil:KeysD w B (.map []) []:=fun _=>⟨_,rfl,HdRel.nil⟩
theorem PendD.nil:PendD w B (.map []) []:=⟨fun kl h=>by simp[Maps.has]at h,fun p hp=>by simp at hp⟩
theorem keyLit_inj {a b:ByteArray} (h:keyLit a=keyLit b):a.toList=b.toList:=by
 injection h with h
 rw[ByteArray.toList_eq,ByteArray.toList_eq,h]
theorem KeysD.put (h:KeysD w B D l) (hD:Maps.IsMap D) {x:Hs} {v:Value} (hv:HdRel VnRel 6 w B v x.vs):KeysD w B (D.put (keyLit x.key) (.held v)) (l++[x]):=fun key=>by
 rw[versOf_snoc]
 by_cases hk:x.key.toList=key.toList
 · have e:keyLit key=keyLit x.key:=by rw[ByteArray.toList_eq,ByteArray.toList_eq]at hk;show Lit.string _=Lit.string _;rw[hk]
   rw[e,Maps.atKey_put_same hD (show WideAt.IsKeyLit (keyLit x.key) from trivial)]
   refine⟨v,rfl,?_⟩
   simp only[hk,beq_self_eq_true,if_true]
   exact hv
 · obtain⟨u,e,hu⟩:=h key
   refine⟨u,?_,?_⟩
   · rw[Maps.atKey_put_other (fun e2=>hk (keyLit_inj e2).symm)];exact e
   · simp only[beq_eq_false_iff_ne.2 hk,Bool.false_eq_true,if_false]
     exact hu
set_option maxRecDepth 100000 in
theorem PendD.put (h:PendD w B D m) (hD:Maps.IsMap D) {p:Pn} {r q:Value} (h1:p.t.ok) (h2:p.s.ok) (hr:HdRel KyRel 1 w B r p.r) (hq:HdRel WtRel 4 w B q p.w) (hn:∀x∈m,x.t≠p.t):
 PendD w B (D.put (txl p.t) (.held (p.val r q))) (m++[p]):=by
 have hk:WideAt.IsKeyLit (txl p.t):=kTxn.key (txl_of h1)
 refine⟨fun kl hkl=>?_,fun x hx=>?_⟩
 · by_cases e:kl=txl p.t
   · exact⟨p,by simp,e⟩
   · rw[Maps.has_put_other e]at hkl
     obtain⟨x,hx,e2⟩:=h.1 kl hkl
     exact⟨x,by simp[hx],e2⟩
 · rcases List.mem_append.1 hx with hx|hx
   · obtain⟨h3,h4,r',q',e,hr',hq'⟩:=h.2 x hx
     refine⟨h3,h4,r',q',fun zd=>?_,hr',hq'⟩
     rw[Maps.atKey_put_other (fun e2=>hn x hx (txl_inj h3 h1 e2))]
     exact e zd
   · simp only[List.mem_cons,List.not_mem_nil,or_false]at hx
     subst hx
     exact⟨h1,h2,r,q,fun zd=>Maps.atKey_put_same hD hk _ _,hr,hq⟩
end
structure StoreW (w:World) (base g b1 b2:Nat) (l:List Hs) (m:List Pn):Prop where
 blk:Blk w g 231 #[.map (some b1),.map (some b2),.int .i64 0,.int .i64 0,.int .i64 0]
 g0:base≤g
 b10:base≤b1
 b20:base≤b2
 ne:b1≠b2
 ne1:g≠b1
 ne2:g≠b2
 ks:∃D,w.ownsMap Tryz.prog 9 anyE b1 l.length D∧KeysD w w.heap.size D l
 one:∀p∈m,∀p'∈m,p.t=p'.t→p=p'
 ps:∃D,w.ownsMap Tryz.prog 23 anyE b2 m.length D∧PendD w w.heap.size D m
theorem grownBy_below {w w':World} (hb:Below w.heap.size w w') (row:Option Nat):w.grownBy w' row:=⟨hb.os,hb.tape,hb.output,hb.size,fun k hk _=>hb.block k hk⟩
theorem StoreW.below {w w':World} {base g b1 b2:Nat} {l:List Hs} {m:List Pn} (h:StoreW w base g b1 b2 l m) (hb:Below w.heap.size w w'):StoreW w' base g b1 b2 l m:=by
 obtain⟨D1,o1,k1⟩:=h.ks
 obtain⟨D2,o2,k2⟩:=h.ps
 exact⟨h.blk.below hb h.blk.lt,h.g0,h.b10,h.b20,h.ne,h.ne1,h.ne2,⟨D1,o1.kept (grownBy_below hb none) (by simp),(k1.below hb).more hb.size⟩,h.one,⟨D2,o2.kept (grownBy_below hb none) (by simp),(k2.below hb).more hb.size⟩⟩
set_option maxHeartbeats 1000000 in
theorem new_store (w:World):Calls Tryz.prog 161 #[] w fun e w'=>∃g b1 b2,e=.returned (.pointer (some ⟨g,0,none⟩))∧StoreW w' w.heap.size g b1 b2 [] []∧Below w.heap.size w w':=by
 have hmm:=@run_makeMap Tryz.prog
 go_enter Tryz.func161,Tryz.ntmps161
 go_wp2
 go_ret
 refine⟨_,w.heap.size,w.heap.size+1,rfl,⟨Blk.new' _ _ (by simp),by first|omega|(simp;omega),by first|omega|simp,by first|omega|simp,by first|omega|simp,by first|omega|(simp;omega),by first|omega|simp,⟨.map [],?_,KeysD.nil⟩,by simp,⟨.map [],?_,PendD.nil⟩⟩,(((Below.refl _ _).alloc (Nat.le_refl _) _).alloc (by simp) _).alloc (by simp;omega) _⟩
 · exact((World.ownsMap_made w _ _ _).alloc _).alloc _
 · have h:=(World.ownsMap_made (w.alloc (.map #[] 0)) Tryz.prog 23 anyE).alloc (.cells #[.map (some w.heap.size),.map (some (w.heap.size+1)),.int .i64 0,.int .i64 0,.int .i64 0] 231)
   rw[show (w.alloc (.map #[] 0)).heap.size=w.heap.size+1 from by simp]at h
   exact h
set_option maxHeartbeats 2000000
theorem rord_any (a b:Int) (w:World):Calls Tryz.prog 217 #[.int .i64 a,.int .i64 b] w fun e w'=>e=.returned (.int .i64 (ordI a b))∧w=w':=by
 go_enter Tryz.func217,Tryz.ntmps217
 go_wp2
 all_goals go_ret
 all_goals refine⟨ret_int ?_,rfl⟩
 all_goals simp_all [ordI]
 all_goals omega
theorem Sp.cmp_steps (a b:Sp):a.cmp b=if ordI a.w b.w=0 then (if ordI a.l b.l=0 then ordI a.n b.n else ordI a.l b.l) else ordI a.w b.w:=by
 have h:∀x y:Int,ordI x y=0↔x=y:=fun x y=>by unfold ordI;split<;>(try split)<;>omega
 unfold Sp.cmp
 simp only[h]
 by_cases h1:a.w=b.w
 · by_cases h2:a.l=b.l
   · simp[h1,h2]
   · simp[h1,h2]
 · simp[h1]
theorem rcmp_any (a b:Sp) (w:World):Calls Tryz.prog 183 #[a.val,b.val] w fun e w'=>e=.returned (.int .i64 (a.cmp b))∧Below w.heap.size w w':=by
 rw[Sp.cmp_steps]
 have h1:=fun w=>rord_any a.w b.w w
 have h2:=fun w=>rord_any a.l b.l w
 have h3:=fun w=>rord_any a.n b.n w
 generalize ordI a.w b.w=x at*
 generalize ordI a.l b.l=y at*
 generalize ordI a.n b.n=z at*
 by_cases hx:x=0
 · by_cases hy:y=0
   · rw[if_pos hx,if_pos hy]
     have hx0:(x==0)=true:=by simp[hx]
     have hy0:(y==0)=true:=by simp[hy]
     clear hx hy
     go_enter Tryz.func183,Tryz.ntmps183
     go_wp2_with (first
        |((with_reducible refine(h1 _).mono ?_);rintro e w1 ⟨rfl,rfl⟩)
        |((with_reducible refine(h2 _).mono ?_);rintro e w1 ⟨rfl,rfl⟩)
        |((with_reducible refine(h3 _).mono ?_);rintro e w1 ⟨rfl,rfl⟩))
     go_ret
     exact⟨rfl,by go_grown⟩
   · rw[if_pos hx,if_neg hy]
     have hx0:(x==0)=true:=by simp[hx]
     have hy0:(y==0)=false:=by simp[hy]
     clear hx hy
     go_enter Tryz.func183,Tryz.ntmps183
     go_wp2_with (first
        |((with_reducible refine(h1 _).mono ?_);rintro e w1 ⟨rfl,rfl⟩)
        |((with_reducible refine(h2 _).mono ?_);rintro e w1 ⟨rfl,rfl⟩))
     go_ret
     exact⟨rfl,by go_grown⟩
 · rw[if_neg hx]
   have hx0:(x==0)=false:=by simp[hx]
   clear hx
   go_enter Tryz.func183,Tryz.ntmps183
   go_wp2_with ((with_reducible refine(h1 _).mono ?_);rintro e w1 ⟨rfl,rfl⟩)
   go_ret
   exact⟨rfl,by go_grown⟩
theorem rless_any (a b:Sp) (w:World):Calls Tryz.prog 123 #[a.val,b.val] w fun e w'=>e=.returned (.bool (decide (a.cmp b<0)))∧Below w.heap.size w w':=by
 have h:=fun w=>rcmp_any a b w
 generalize a.cmp b=x at*
 go_enter Tryz.func123,Tryz.ntmps123
 go_wp2_with ((with_reducible refine(h _).mono ?_);rintro e w1 ⟨rfl,hb⟩)
 go_ret
 exact⟨rfl,(by go_grown:Below w.heap.size w ((w.alloc (.cells #[.int .i64 a.w,.int .i64 a.l,.int .i64 a.n] 26)).alloc (.cells #[.int .i64 b.w,.int .i64 b.l,.int .i64 b.n] 26))).trans (hb.mono (by simp;omega))⟩
theorem rnbits (a:Nat) (w:World):Calls Tryz.prog 209 #[.float .f64 a] w fun e w'=>e=.returned (.int .u64 (canonB a))∧w=w':=by
 by_cases h:dnan a=true
 · have e:canonB a=9221120237041090560:=by simp[canonB,h]
   have h':(FloatKind.f64.format.order a a !=some Ordering.eq)=true:=h
   rw[e]
   clear e h
   go_enter Tryz.func209,Tryz.ntmps209
   go_wp2
   go_ret
   exact⟨rfl,rfl⟩
 · have e:canonB a=a:=by simp[canonB,h]
   have h':(FloatKind.f64.format.order a a !=some Ordering.eq)=false:=by simpa [dnan] using h
   rw[e]
   clear e h
   go_enter Tryz.func209,Tryz.ntmps209
   go_wp2
   go_ret
   exact⟨rfl,rfl⟩
theorem rcanon (a:Nat) (w:World):Calls Tryz.prog 170 #[.float .f64 a] w fun e w'=>e=.returned (.float .f64 (canonB a))∧w=w':=by
 go_enter Tryz.func170,Tryz.ntmps170
 go_wp2_with ((with_reducible refine(rnbits _ _).mono ?_);rintro e w' ⟨rfl,rfl⟩)
 go_ret
 exact⟨rfl,rfl⟩
theorem rvmay_any (v:Vl) (w:World):Calls Tryz.prog 117 #[v.val] w fun e w'=>e=.returned (.bool v.may)∧Below w.heap.size w w':=by
 have hb:=fun w=>rbits v.n 0 w
 have hb2:=fun w=>rbits v.n (canonB v.n) w
 have hz:((v.n:Int)==((0:Nat):Int))=((v.n:Int)==0):=rfl
 rw[hz]at hb
 by_cases h0:v.k=0
 · have hk:(v.k==0)=true:=by simp[h0]
   rw[Vl.may0 h0]
   clear h0
   cases ht:emptyB v.t<;>cases hn:((v.n:Int)==0)
   all_goals unfold emptyB at ht
   all_goals rw[hn]at hb
   all_goals go_enter Tryz.func117,Tryz.ntmps117
   all_goals go_wp2_with ((with_reducible refine(hb _).mono ?_);rintro e w' ⟨rfl,rfl⟩)
   all_goals go_ret
   all_goals exact⟨rfl,by go_grown⟩
 by_cases h1:v.k=1
 · have hk:(v.k==0)=false:=by simp[h0]
   have hk2:(v.k==1)=true:=by simp[h1]
   rw[Vl.may1 h1]
   clear h0 h1
   cases ht:emptyB v.t<;>cases hn:((v.n:Int)==canonB v.n)
   all_goals unfold emptyB at ht
   all_goals rw[hn]at hb2
   all_goals go_enter Tryz.func117,Tryz.ntmps117
   all_goals go_wp2
   all_goals go_quiet (first|(go_at_call 170;exact quietSame (rcanon _ _))|(go_at_call 124;exact quietSame (hb2 _)))
   all_goals go_wp2
   all_goals go_ret
   all_goals exact⟨rfl,(by go_grown:Below w.heap.size w (w.alloc _)).trans ((belowN _).mono (by simp))⟩
 by_cases h2:v.k=2
 · have hk:(v.k==0)=false:=by simp[h0]
   have hk2:(v.k==1)=false:=by simp[h1]
   have hk3:(v.k==2)=true:=by simp[h2]
   rw[Vl.may2 h2]
   clear h0 h1 h2
   cases ht:decide ((v.t.size:Int)≤64)<;>cases hn:((v.n:Int)==0)
   all_goals rw[hn]at hb
   all_goals go_enter Tryz.func117,Tryz.ntmps117
   all_goals go_wp2_with ((with_reducible refine(hb _).mono ?_);rintro e w' ⟨rfl,rfl⟩)
   all_goals go_ret
   all_goals exact⟨rfl,by go_grown⟩
 · have hk:(v.k==0)=false:=by simp[h0]
   have hk2:(v.k==1)=false:=by simp[h1]
   have hk3:(v.k==2)=false:=by simp[h2]
   rw[Vl.may3 h0 h1 h2]
   clear h0 h1 h2
   go_enter Tryz.func117,Tryz.ntmps117
   go_wp2
   go_ret
   exact⟨rfl,by go_grown⟩
end Go.Proofs.YtcalkfgibflbnaaGreat
namespace Go.Proofs.YtcalkfgibflbnaaGreat
open Go.RowKit Fl
theorem less_total:∀a b:List UInt8,Op.bytesLess b a= !(Op.bytesLess a b||a==b)
 |[],[]=>rfl
 |[],_::_=>rfl
 |_::_,[]=>rfl
 |x::a,y::b=>by
  have ih:=less_total a b
  show (decide (y<x)||(y==x&&Op.bytesLess b a))= !((decide (x<y)||(x==y&&Op.bytesLess a b))||((x==y)&&(a==b)))
  rw[ih]
  by_cases h:x=y
  · subst h
    have h1:¬x<x:=UInt8.lt_irrefl x
    simp[h1]
  · have h2:(x==y)=false:=by simpa using h
    have h3:(y==x)=false:=by simpa using fun e:y=x=>h e.symm
    rw[h2,h3]
    by_cases h4:x<y
    · have h5:¬y<x:=UInt8.lt_asymm h4
      simp[h4,h5]
    · have h5:y<x:=UInt8.lt_of_le_of_ne (UInt8.not_lt.1 h4) (fun e=>h e.symm)
      simp[h4,h5]
theorem bl_le (a b:ByteArray):bl b a= !leB a b:=by
 unfold bl leB
 exact less_total a.toList b.toList
end Go.Proofs.YtcalkfgibflbnaaGreat
namespace Go.Proofs.YtcalkfgibflbnaaGreat
open Go.RowKit Fl
attribute [local go_sem] run_store_float
def KeysRel2 (l:List ByteArray) (w:World) (i:Value) (wr:World):Prop:=∃k:Nat,k≤l.length∧i=.int .i64 (k:Int)∧riseFrom (ahead l k) (l.drop k)=riseFrom none l∧Below w.heap.size w wr
set_option maxRecDepth 100000 in
set_option maxHeartbeats 4000000 in
theorem rkeys_any (A:Option Addr) (n c:Nat) (l:List ByteArray) (w:World) (h:Sl KyRel 1 w w.heap.size A n l) (hn:n≤maxLen):
 Calls Tryz.prog 66 #[.slice A n c,.int .i64 16] w fun e w'=>e=.returned (.bool (riseB l))∧Below w.heap.size w w':=by
 unfold maxLen at hn
 have hl:=h.1
 have hge:n≤l.length:=by omega
 by_cases hbig:(n:Int)≤16
 · have hb0:decide ((16:Int)<(n:Int))=false:=by simp;omega
   have hrb:riseB l=riseFrom none l:=by unfold riseB;rw[hl];simp[hbig]
   go_enter Tryz.func66,Tryz.ntmps66
   go_wp2
   go_loopw [5] (fun i wr=>KeysRel2 l w i wr) (fun i _=>n-(intOf i).toNat)
   case atStart=>exact⟨0,by omega,rfl,rfl,Below.refl _ _⟩
   case round=>
    obtain⟨k,hk,rfl,hs,hb⟩:=hrel
    have hzz:=hb.size
    by_cases hlt:k<n
    · obtain⟨ad,a,rfl,ha,hbk,hok,c0⟩:=(h.below KyRel.kept hb).ky hlt
      have hka:=fun w=>rkey_any a w
      have hd1:decide ((k:Int)<(n:Int))=true:=by simp;omega
      have hk0:(0:Int)≤(k:Int):=by omega
      have hk1:(k:Int)<(n:Int):=by omega
      rw[riseFrom_drop ha]at hs
      cases hkb:keyB a
      · rw[hkb]at hka hs
        have HF:=Lib.hid (show riseB l=false by rw[hrb,←hs];rfl)
        clear hs ha hl
        go_wp2
        go_quiet (first|(go_at_call 116;exact quietSame (hka _)))
        go_wp2
        go_ret
        rw[HF.out]
        exact⟨rfl,hb.trans ((belowN _).mono hzz)⟩
      · rw[hkb]at hka hs
        by_cases hz:k=0
        · have hd2:¬(0<k):=by omega
          have HS:=Lib.hid (show riseFrom (ahead l (k+1)) (l.drop (k+1))=riseFrom none l by rw[←hs,hz];simp[ahead])
          clear hs hl ha hz
          go_wp2
          go_quiet (first|(go_at_call 116;exact quietSame (hka _)))
          go_wp2
          go_roundw
          case rel=>exact⟨k+1,by omega,by go_num,HS.out,hb.trans ((belowN _).mono hzz)⟩
          case measure=>simp[intOf];omega
        · obtain⟨ad',b,e',hb',hbk',hok',d0⟩:=(h.below KyRel.kept hb).ky (k:=k-1) (by omega)
          injection e' with e'
          subst e'
          have hd2:0<k:=by omega
          have hj0:(0:Int)≤(k:Int)-1:=by omega
          have hj1:(k:Int)-1<(n:Int):=by omega
          have hj2:((k:Int)-1).toNat=k-1:=by omega
          have hah:ahead l k=some b:=by
           cases k with
           |zero=>omega
           |succ j=>exact hb'
          rw[hah]at hs
          have hle:(Op.bytesLess a.toList b.toList||a.toList==b.toList)= !bl b a:=by rw[bl_le];unfold leB;simp
          cases hbl:bl b a
          · have HF:=Lib.hid (show riseB l=false by rw[hrb,←hs];simp[hbl])
            rw[hbl]at hle
            have hle':(Op.bytesLess a.toList b.toList||a.toList==b.toList)=true:=hle
            clear hs hl ha hb' hz hah hle
            go_wp2
            go_quiet (first|(go_at_call 116;exact quietSame (hka _)))
            all_goals go_wp2
            all_goals go_ret
            all_goals rw[HF.out]
            all_goals exact⟨rfl,hb.trans ((belowN _).mono hzz)⟩
          · have HS:=Lib.hid (show riseFrom (ahead l (k+1)) (l.drop (k+1))=riseFrom none l by rw[←hs];simp[hbl])
            rw[hbl]at hle
            have hl1:Op.bytesLess a.toList b.toList=false∧(a.toList==b.toList)=false:=by simpa [Bool.or_eq_false_iff] using hle
            obtain⟨hl2,hl3⟩:=hl1
            clear hs hl ha hb' hz hah hle
            go_wp2
            go_quiet (first|(go_at_call 116;exact quietSame (hka _)))
            go_wp2
            go_roundw
            case rel=>exact⟨k+1,by omega,by go_num,HS.out,hb.trans ((belowN _).mono hzz)⟩
            case measure=>simp[intOf];omega
    · have hd1:decide ((k:Int)<(n:Int))=false:=by simp;omega
      have HS:=Lib.hid (show riseB l=true by rw[hrb,←hs,List.drop_of_length_le (by omega)];rfl)
      clear hs hl
      go_wp2
      go_ret
      rw[HS.out]
      exact⟨rfl,hb⟩
 · have hb0:decide ((16:Int)<(n:Int))=true:=by simp;omega
   have HF:=Lib.hid (show riseB l=false by unfold riseB;rw[hl];simp;omega)
   clear hl
   go_enter Tryz.func66,Tryz.ntmps66
   go_wp2
   go_ret
   rw[HF.out]
   exact⟨rfl,Below.refl _ _⟩
end Go.Proofs.YtcalkfgibflbnaaGreat
