/- The document's Load answers what the program's Load answers: plain laws. -/
import Derived.Test.YtcalkfgibflbnaaGreatDabj
namespace Go.Proofs.YtcalkfgibflbnaaGreat
set_option linter.unusedVariables false
open Go.RowKit Fl
theorem le_empty {k:ByteArray} (h:keyB k=true):leB k ⟨#[]⟩=false:=by
 unfold keyB at h
 rw[Bool.and_eq_true,decide_eq_true_eq]at h
 have h1:k.toList≠[]:=fun e=>by
  have:k.toList.length=0:=by rw[e];rfl
  rw[ByteArray.toList_eq,Array.length_toList]at this
  have h2:k.size=0:=this
  omega
 unfold leB
 rw[show (⟨#[]⟩:ByteArray).toList=[] by rw[ByteArray.toList_eq]]
 cases hk:k.toList with
 |nil=>exact absurd hk h1
 |cons a l=>rfl
theorem rhistsB_some:∀(l:List Hs) (q:ByteArray),rhistsB (some q) l=histsB q l:=by
 intro l
 induction l with
 |nil=>intro q;rfl
 |cons a l ih=>intro q;show (rhistB (some q) a&&rhistsB (some a.key) l)=(histB q a&&histsB a.key l);rw[ih];rfl
theorem rhistsB_eq (H:List Hs):rhistsB none H=histsB ⟨#[]⟩ H:=by
 cases H with
 |nil=>rfl
 |cons a l=>
  show (rhistB none a&&rhistsB (some a.key) l)=(histB ⟨#[]⟩ a&&histsB a.key l)
  rw[rhistsB_some]
  congr 1
  unfold rhistB histB
  cases hk:keyB a.key
  · rfl
  · rw[le_empty hk];rfl
theorem hists_far:∀(l:List Hs) (q:ByteArray),histsB q l=true→∀a∈l,bl q a.key=true:=by
 intro l
 induction l with
 |nil=>intro q _ a ha;cases ha
 |cons b l ih=>
  intro q h a ha
  have h':(histB q b&&histsB b.key l)=true:=h
  rw[Bool.and_eq_true]at h'
  rcases List.mem_cons.1 ha with rfl|ha
  · exact histB_lt h'.1
  · exact bl_trans (histB_lt h'.1) (ih _ h'.2 a ha)
theorem bl_irrefl (a b:ByteArray) (h:bl a b=true):(a.toList==b.toList)=false:=by
 rw[bl_le]at h
 unfold leB at h
 cases he:(b.toList==a.toList)
 · rw[Bool.beq_comm];exact he
 · rw[he]at h;simp at h
theorem versOf_none:∀(l:List Hs) (key:ByteArray) (acc:List Vn),(∀a∈l,(a.key.toList==key.toList)=false)→l.foldl (fun acc h=>if h.key.toList==key.toList then h.vs else acc) acc=acc:=by
 intro l
 induction l with
 |nil=>intro _ _ _;rfl
 |cons a l ih=>
  intro key acc h
  rw[List.foldl_cons,h a (List.mem_cons_self ..)]
  exact ih key acc fun b hb=>h b (List.mem_cons_of_mem _ hb)
theorem rvers_eq:∀(l:List Hs) (q key:ByteArray),histsB q l=true→rvers key l=versOf l key:=by
 intro l
 induction l with
 |nil=>intro _ _ _;rfl
 |cons a l ih=>
  intro q key h
  have h':(histB q a&&histsB a.key l)=true:=h
  rw[Bool.and_eq_true]at h'
  cases he:(a.key.toList==key.toList)
  · have e1:rvers key (a::l)=rvers key l:=by unfold rvers;rw[List.find?_cons,he]
    have e2:versOf (a::l) key=versOf l key:=by unfold versOf;rw[List.foldl_cons,he];rfl
    rw[e1,e2]
    exact ih _ _ h'.2
  · have e1:rvers key (a::l)=a.vs:=by unfold rvers;rw[List.find?_cons,he]
    rw[e1]
    unfold versOf
    rw[List.foldl_cons,he]
    refine(versOf_none l key a.vs fun b hb=>?_).symm
    have e3:a.key.toList=key.toList:=by simpa using he
    rw[←e3,Bool.beq_comm]
    exact bl_irrefl _ _ (hists_far l _ h'.2 b hb)
theorem whFrom_any (t:Tx):∀(l:List Pn) (i:Nat),decide ((0:Int)≤whFrom t i l)=l.any fun y=>decide (y.t=t):=by
 intro l
 induction l with
 |nil=>intro i;rfl
 |cons a l ih=>
  intro i
  rw[List.any_cons,←ih (i+1)]
  by_cases h:a.t=t
  · have e:whFrom t i (a::l)=(i:Int):=by unfold whFrom;simp[h]
    rw[e]
    simp[h]
  · have e:whFrom t i (a::l)=whFrom t (i+1) l:=by rw[whFrom];simp[h]
    rw[e]
    simp[h]
theorem putL_any (f:Pn→Bool) (l:List Pn) (p:Pn):(putL l p).any f=(l.any f||f p):=by
 unfold putL
 rw[List.any_append,List.any_cons]
 have e:l.any f=((l.takeWhile fun x=>x.t.less p.t).any f||(l.dropWhile fun x=>x.t.less p.t).any f):=by rw[←List.any_append,List.takeWhile_append_dropWhile]
 rw[e]
 cases f p<;>simp
theorem putAll_any (f:Pn→Bool) (l:List Pn):(putAll l).any f=l.any f:=by
 have h:∀(l m:List Pn),(l.foldl putL m).any f=(m.any f||l.any f):=by
  intro l
  induction l with
  |nil=>intro m;simp
  |cons a l ih=>intro m;rw[List.foldl_cons,ih,putL_any,List.any_cons,Bool.or_assoc]
 unfold putAll
 rw[h]
 rfl
theorem zero_cmp {s:Sp} (h1:s.may=true) (h2:s.zero=false):¬(0:Int)≤(⟨0,0,0⟩:Sp).cmp s:=by
 unfold Sp.may at h1
 simp only[Bool.and_eq_true,decide_eq_true_eq]at h1
 unfold Sp.zero at h2
 have h3:¬(s.w=0∧s.l=0∧s.n=0):=fun⟨a,b,c⟩=>by rw[a,b,c]at h2;simp at h2
 unfold Sp.cmp ordI
 simp only
 repeat' split
 all_goals omega
theorem roldB_eq {H:List Hs} {x:Pn} {q:ByteArray} (hH:histsB q H=true) (hp:pendE x=0):roldB H x=oldB H x:=by
 unfold roldB oldB
 congr 1
 funext a
 unfold roldF
 have h:=pendE_zero.1 hp
 rw[←rvers_eq H q a.key hH]
 rcases at_vers a.key H with ⟨h1,h2⟩|⟨i,b,h1,h2,h3⟩
 · rw[h2]
   have e:decide ((0:Int)≤(lastV []).s.cmp x.s)=false:=decide_eq_false (zero_cmp h.2.1 h.2.2.1)
   rw[e,Bool.and_false]
 · rw[h1]
   have e:decide ((0:Int)≤(i:Int))=true:=by simp
   rw[e,Bool.true_and]
theorem rpendsE_eq {H:List Hs} {q:ByteArray} (hH:histsB q H=true):∀(l m:List Pn),rpendsE H m l=pendsE H m l:=by
 intro l
 induction l with
 |nil=>intro m;rfl
 |cons x l ih=>
  intro m
  have e1:((0:Int)≤whFrom x.t 0 (putAll m))↔(m.any fun y=>decide (y.t=x.t))=true:=by
   rw[←putAll_any,←whFrom_any x.t _ 0,decide_eq_true_eq]
  unfold rpendsE pendsE
  by_cases hp:pendE x=0
  · have hpn:¬pendE x≠0:=fun e=>e hp
    simp only[if_neg hpn,roldB_eq hH hp,ih]
    by_cases h2:(m.any fun y=>decide (y.t=x.t))=true
    · rw[if_pos (e1.2 h2),if_pos h2]
    · rw[if_neg (fun e=>h2 (e1.1 e)),if_neg h2]
  · simp only[if_pos hp]
theorem rloadE_eq (H:List Hs) (Q:List Pn):rloadE H Q=loadE H Q:=by
 unfold rloadE loadE
 rw[rhistsB_eq]
 cases h:histsB ⟨#[]⟩ H
 · rfl
 · simp only[if_true]
   exact rpendsE_eq h Q []
end Go.Proofs.YtcalkfgibflbnaaGreat
