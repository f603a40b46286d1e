/- The document's Load answers what the program's Load answers: plain laws. -/
import Derived.Test.YtcalkfgibflbnaaGreatBabj
namespace Go.Proofs.YtcalkfgibflbnaaGreat
set_option linter.unusedVariables false
open Go.RowKit Fl
theorem le_empty {k:ByteArray} (h:gY k=true):leB k ⟨#[]⟩=false:=by
 unfold gY at h;rw[Bool.and_eq_true,decide_eq_true_eq]at h;have h1:k.toList≠[]:=fun e=>by
  have:k.toList.length=0:=by rw[e];rfl
  rw[ByteArray.toList_eq,Array.length_toList]at this;have h2:k.size=0:=this;omega
 unfold leB;rw[show (⟨#[]⟩:ByteArray).toList=[] by rw[ByteArray.toList_eq]];cases hk:k.toList with
 |nil=>exact absurd hk h1
 |cons a l=>rfl
theorem aeG:∀(l:List Hs) (q:ByteArray),qB (some q) l=mX q l:=by
 intro l
 induction l with
 |nil=>intro q;rfl
 |cons a l ih=>intro q;show (Js (some q) a&&qB (some a.key) l)=(nM q a&&mX a.key l);rw[ih];rfl
theorem aeH (H:List Hs):qB none H=mX ⟨#[]⟩ H:=by
 cases H with
 |nil=>rfl
 |cons a l=>
  show (Js none a&&qB (some a.key) l)=(nM ⟨#[]⟩ a&&mX a.key l);rw[aeG]
  congr 1
  unfold Js nM;cases hk:gY a.key
  · rfl
  · rw[le_empty hk];rfl
theorem aeI:∀(l:List Hs) (q:ByteArray),mX q l=true->∀a∈l,bl q a.key=true:=by
 intro l
 induction l with
 |nil=>intro q _ a ha;cases ha
 |cons b l ih=>
  intro q h a ha;have h':(nM q b&&mX b.key l)=true:=h;rw[Bool.and_eq_true]at h';rcases List.mem_cons.1 ha with rfl|ha
  · exact TU h'.1
  · exact adb (TU h'.1) (ih _ h'.2 a ha)
theorem aeJ (a b:ByteArray) (h:bl a b=true):(a.toList==b.toList)=false:=by
 rw[BP]at h;unfold leB at h;cases he:(b.toList==a.toList)
 · rw[Bool.beq_comm];exact he
 · rw[he]at h;simp at h
theorem aeK:∀(l:List Hs) (key:ByteArray) (acc:List Vn),(∀a∈l,(a.key.toList==key.toList)=false)->l.foldl (fun acc h=>if h.key.toList==key.toList then h.vs else acc) acc=acc:=by
 intro l
 induction l with
 |nil=>intro _ _ _;rfl
 |cons a l ih=>
  intro key acc h;rw[List.foldl_cons,h a (List.mem_cons_self ..)];exact ih key acc fun b hb=>h b (List.mem_cons_of_mem _ hb)
theorem aeL:∀(l:List Hs) (q key:ByteArray),mX q l=true->sO key l=pV l key:=by
 intro l
 induction l with
 |nil=>intro _ _ _;rfl
 |cons a l ih=>
  intro q key h;have h':(nM q a&&mX a.key l)=true:=h;rw[Bool.and_eq_true]at h';cases he:(a.key.toList==key.toList)
  · have e1:sO key (a::l)=sO key l:=(by unfold sO;rw[List.find?_cons,he]);have e2:pV (a::l) key=pV l key:=(by unfold pV;rw[List.foldl_cons,he];rfl);rw[e1,e2];exact ih _ _ h'.2
  · have e1:sO key (a::l)=a.vs:=(by unfold sO;rw[List.find?_cons,he]);rw[e1];unfold pV;rw[List.foldl_cons,he];refine(aeK l key a.vs fun b hb=>?_).symm;have e3:a.key.toList=key.toList:=(by simpa using he);rw[<-e3,Bool.beq_comm];exact aeJ _ _ (aeI l _ h'.2 b hb)
theorem aeM (t:Tx):∀(l:List Pn) (i:Nat),decide ((0:Int)<=oI t i l)=l.any fun y=>decide (y.t=t):=by
 intro l
 induction l with
 |nil=>intro i;rfl
 |cons a l ih=>
  intro i;rw[List.any_cons,<-ih (i+1)];by_cases h:a.t=t
  · have e:oI t i (a::l)=(i:Int):=(by unfold oI;simp[h]);rw[e];simp[h]
  · have e:oI t i (a::l)=oI t (i+1) l:=(by rw[oI];simp[h]);rw[e];simp[h]
theorem aeN (f:Pn->Bool) (l:List Pn) (p:Pn):(wY l p).any f=(l.any f||f p):=by
 unfold wY;rw[List.any_append,List.any_cons];have e:l.any f=((l.takeWhile fun x=>x.t.less p.t).any f||(l.dropWhile fun x=>x.t.less p.t).any f):=by rw[<-List.any_append,List.takeWhile_append_dropWhile]
 rw[e];cases f p<;>simp
theorem aeO (f:Pn->Bool) (l:List Pn):(qO l).any f=l.any f:=by
 have h:∀(l m:List Pn),(l.foldl wY m).any f=(m.any f||l.any f):=by
  intro l
  induction l with
  |nil=>intro m;simp
  |cons a l ih=>intro m;rw[List.foldl_cons,ih,aeN,List.any_cons,Bool.or_assoc]
 unfold qO;rw[h];rfl
theorem aeP {s:Sp} (h1:s.may=true) (h2:s.zero=false):¬(0:Int)<=(⟨0,0,0⟩:Sp).cmp s:=by
 unfold Sp.may at h1;simp only[Bool.and_eq_true,decide_eq_true_eq]at h1;unfold Sp.zero at h2;have h3:¬(s.w=0/\s.l=0/\s.n=0):=fun⟨a,b,c⟩=>by rw[a,b,c]at h2;simp at h2
 unfold Sp.cmp oP;simp only
 repeat' split
 all_goals omega
theorem aeQ {H:List Hs} {x:Pn} {q:ByteArray} (hH:mX q H=true) (hp:dw x=0):zB H x=vM H x:=by
 unfold zB vM
 congr 1
 funext a
 unfold yt;have h:=TT.1 hp;rw[<-aeL H q a.key hH];rcases Sz a.key H with ⟨h1,h2⟩|⟨i,b,h1,h2,h3⟩
 · rw[h2];have e:decide ((0:Int)<=(pY []).s.cmp x.s)=false:=decide_eq_false (aeP h.2.1 h.2.2.1);rw[e,Bool.and_false]
 · rw[h1];have e:decide ((0:Int)<=(i:Int))=true:=aA;rw[e,Bool.true_and]
theorem aeR {H:List Hs} {q:ByteArray} (hH:mX q H=true):∀(l m:List Pn),zG H m l=vO H m l:=by
 intro l
 induction l with
 |nil=>intro m;rfl
 |cons x l ih=>
  intro m;have e1:((0:Int)<=oI x.t 0 (qO m))↔(m.any fun y=>decide (y.t=x.t))=true:=by
   rw[<-aeO,<-aeM x.t _ 0,decide_eq_true_eq]
  unfold zG vO;by_cases hp:dw x=0
  · have hpn:¬dw x≠0:=fun e=>e hp
    simp only[if_neg hpn,aeQ hH hp,ih];by_cases h2:(m.any fun y=>decide (y.t=x.t))=true
    · rw[if_pos (e1.2 h2),if_pos h2]
    · rw[if_neg (fun e=>h2 (e1.1 e)),if_neg h2]
  · simp only[if_pos hp]
theorem aeS (H:List Hs) (Q:List Pn):iU H Q=ou H Q:=by
 unfold iU ou;rw[aeH];cases h:mX ⟨#[]⟩ H
 · rfl
 · simp only[if_true];exact aeR h Q []
