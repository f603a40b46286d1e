/- Plain facts: the bytes of numbers, floats and texts; no program in sight. -/
import Derived.Laws.Wrap64
import Derived.OneCell
import Derived.Lib.AppendStr
import Derived.Lib.OwnKind
import Derived.Test.YtcalkfgibflbnaaGreatProg
import Derived.StillTailTactics
import Derived.Laws.BytesArg
import Derived.Laws.Slices
import Derived.Test.YtcalkfgibflbnaaGreatBaad
namespace Go.Proofs.YtcalkfgibflbnaaGreat
def Il:Nat->Nat->List UInt8
 |0,u=>[u.toUInt8]
 |k+1,u=>if u<128 then [u.toUInt8] else (u%128+128).toUInt8::Il k (u/128)
def kU (u:Nat):List UInt8:=Il u u
theorem ZN:∀(k j u:Nat),u<=k->u<=j->Il k u=Il j u:=by
 intro k
 induction k with
 |zero=>
  intro j u h _;have e:u=0:=byOmega;subst e;cases j with
  |zero=>rfl
  |succ j=>show _=if 0<128 then _ else _;rw[if_pos byOmega];rfl
 |succ k ih=>
  intro j u h1 h2;cases j with
  |zero=>
   have e:u=0:=byOmega;subst e;show (if 0<128 then _ else _)=_;rw[if_pos byOmega];rfl
  |succ j=>
   show (if u<128 then _ else _)=if u<128 then _ else _
   by_cases h:u<128
   · rw[if_pos h,if_pos h]
   · rw[if_neg h,if_neg h,ih j (u/128) byOmega byOmega]
def zig (n:Int):Nat:=if 0<=n then (2*n).toNat else (-2*n-1).toNat
def encI (n:Int):List UInt8:=kU (zig n)
def lX:Nat->Nat->List UInt8
 |0,_=>[]
 |k+1,u=>(u%256).toUInt8::lX k (u/256)
def jX (s:List UInt8):List UInt8:=encI s.length++s
def qF (b:Bool):List UInt8:=[if b then 1 else 0]
theorem yS {u:Nat} (h:u<128):kU u=[u.toUInt8]:=by
 unfold kU;cases u with
 |zero=>rfl
 |succ u=>show (if u+1<128 then _ else _)=_;rw[if_pos h]
theorem yT {u:Nat} (h:¬u<128):kU u=(u%128+128).toUInt8::kU (u/128):=by
 unfold kU;cases u with
 |zero=>omega
 |succ u=>show (if u+1<128 then _ else _)=_;rw[if_neg h,ZN u ((u+1)/128) ((u+1)/128) byOmega (Nat.le_refl _)]
theorem xP (k:Nat):∀u,(lX k u).length=k:=by
 induction k with
 |zero=>intro u;rfl
 |succ k ih=>intro u;simp[lX,ih]
theorem QJ {k:Nat}:∀u,u<128^k->0<k->(kU u).length<=k:=by
 induction k with
 |zero=>intro u _ h;omega
 |succ k ih=>
  intro u hu _;by_cases h:u<128
  · rw[yS h];simp
  · rw[yT h];have h2:u/128<128^k:=(by rw[Nat.pow_succ]at hu;omega);have h3:0<k:=by
        rcases Nat.eq_zero_or_pos k with e|e
        · subst e;simp at h2;omega
        · exact e
    have:=ih _ h2 h3;simp;omega
theorem Io {n:Int} (h1: -9223372036854775808<=n) (h2:n<=9223372036854775807):zig n<18446744073709551616:=by unfold zig;split<;>omega
theorem iE {n:Int} (h1: -9223372036854775808<=n) (h2:n<=9223372036854775807):(encI n).length<=10:=by
 have:=Io h1 h2;exact QJ _ byOmega byOmega
end Go.Proofs.YtcalkfgibflbnaaGreat
namespace Go.Proofs.YtcalkfgibflbnaaGreat
open Go.RowKit
abbrev bytesV (l:List UInt8):List Value:=l.map fun c=> .int .u8 (c.toNat:Int)
theorem mY (l:List UInt8):∀u∈bytesV l,u.oneCell'=true:=by
 intro u hu;obtain⟨b,_,rfl⟩:=List.mem_map.1 hu;rfl
theorem ZO (l:List UInt8):(bytesV l).length=l.length:=aA
def Wr (w:World) (B g:Nat) (v:Value) (bs:List UInt8):Prop:=B<=g/\aj w g 129 #[v]/\w.ownsRow B 5 1 v bs.length (bytesV bs)
structure dh (w w':World) (g:Nat) (v v':Value):Prop where
 os:w'.os=w.os
 tape:w'.tape=w.tape
 output:w'.output=w.output
 size:w.heap.size<=w'.heap.size
 block:∀k,k<w.heap.size->k≠g->some k≠v.ownBlock->w'.heap[k]?=w.heap[k]?
 own:v'.ownBlock=v.ownBlock∨∃k,v'.ownBlock=some k/\w.heap.size<=k
theorem dh.refl (w:World) (g:Nat) (v:Value):dh w w g v v:=⟨rfl,rfl,rfl,Nat.le_refl _,fun _ _ _ _=>rfl,.inl rfl⟩
theorem dh.trans {w w1 w2:World} {g:Nat} {v v1 v2:Value} (h:dh w w1 g v v1) (k:dh w1 w2 g v1 v2):dh w w2 g v v2:=by
 refine⟨k.os.trans h.os,k.tape.trans h.tape,k.output.trans h.output,Nat.le_trans h.size k.size,fun i hi h1 h2=>(k.block i (Nat.lt_of_lt_of_le hi h.size) h1 ?_).trans (h.block i hi h1 h2),?_⟩
 · rcases h.own with e|⟨j,e,hj⟩
   · rw[e];exact h2
   · rw[e];intro e2;cases e2;omega
 · rcases k.own with e|⟨j,e,hj⟩
   · rw[e];exact h.own
   · exact .inr ⟨j,e,Nat.le_trans h.size hj⟩
section
variable {w w' X w1:World} {B g:Nat} {v v' v1:Value} {bs more:List UInt8}
theorem Wr.ge (h:Wr w B g v bs):B<=g:=h.1
theorem Wr.lt (h:Wr w B g v bs):g<w.heap.size:=h.2.1.lt
theorem Wr.blk (h:Wr w B g v bs):aj w g 129 #[v]:=h.2.1
theorem Wr.row (h:Wr w B g v bs):w.ownsRow B 5 1 v bs.length (bytesV bs):=h.2.2
theorem Wr.QK (h:Wr w B g v bs):∀k,v.ownBlock=some k->B<=k:=fun k hk=>(h.row.lt k hk).1
theorem Wr.yU (h:Wr w B g v bs):∀k,v.ownBlock=some k->k<w.heap.size:=fun k hk=>(h.row.lt k hk).2
theorem Wr.own_ne (h:Wr w B g v bs):v.ownBlock≠some g:=by
 intro e;obtain⟨c,fz,hc⟩:=Go.Lib.ownsRow_kind h.row g e;have:=h.blk;unfold aj at this;rw[this]at hc;simp at hc
theorem Wr.below (h:Wr w B g v bs) (hb:Below w.heap.size w w'):Wr w' B g v bs:=
 ⟨h.1,h.blk.below hb h.lt,h.row.kept (row:=none) ⟨hb.os,hb.tape,hb.output,hb.size,fun k hk _=>hb.block k hk⟩ (by cases v.ownBlock<;>simp)⟩
theorem dh.below (hf:dh w w' g v v') (h:Wr w B g v bs):Below B w w':=
 ⟨hf.os,hf.tape,hf.output,hf.size,fun k hk=>hf.block k (by have:=h.lt;have:=h.ge;omega) (by have:=h.ge;omega) (fun e=>by have:=h.QK k e.symm;omega)⟩
theorem Wr.app (h:Wr w B g v bs) (hb:Below w.heap.size w X) (hown:w1.ownsRow B 5 1 v1 (bs.length+more.length) (bytesV bs++bytesV more)) (hg:X.grownBy w1 v.ownBlock) (hat:v1.ownBlock=v.ownBlock∨v1.ownBlock=some X.heap.size):
 Wr (w1.setCell ⟨g,0,none⟩ v1) B g v1 (bs++more)/\dh w (w1.setCell ⟨g,0,none⟩ v1) g v v1:=by
 have hz:=hb.size;have hgl:=h.lt;have hne:v1.ownBlock≠some g:=by
  rcases hat with e|e
  · rw[e];exact h.own_ne
  · rw[e];intro e2;cases e2;omega
 have hblk:aj w1 g 129 #[v]:=(h.blk.below hb hgl).grown hg (fun e=>h.own_ne e.symm);refine⟨⟨h.1,?_,?_⟩,⟨?_,?_,?_,?_,?_,?_⟩⟩
 · exact hblk.fB 0 v1
 · rw[aK,bytesV,List.map_append];exact ownsRow_setCell_other hown hne v1
 · exact hg.os.trans hb.os
 · exact hg.tape.trans hb.tape
 · exact hg.output.trans hb.output
 · rw[show (w1.setCell ⟨g,0,none⟩ v1).heap.size=w1.heap.size from by simp[World.setCell]];exact Nat.le_trans hz hg.size
 · intro k hk h1 h2;rw[Below.heap_setCell _ _ _ _ (by simpa using h1),hg.block k byOmega h2,hb.block k hk]
 · rcases hat with e|e
   · exact .inl e
   · exact .inr ⟨_,e,hz⟩
theorem Wr.mid (h:Wr w B g v bs) (hb:Below w.heap.size w X) (hg:X.grownBy w1 v.ownBlock):w1.cell? ⟨g,0,none⟩=some v/\w1.frozen? ⟨g,0,none⟩=false:=by
 have hblk:aj w1 g 129 #[v]:=(h.blk.below hb h.lt).grown hg (fun e=>h.own_ne e.symm);exact⟨hblk.cell 0,hblk.frozen 0⟩
theorem Wr.new (w:World):Wr (w.alloc (.cells #[.slice none 0 0] 129)) w.heap.size w.heap.size (.slice none 0 0) []:=
 ⟨Nat.le_refl _,aj.new w _ _,World.ownsRow_nil _ _ _ _⟩
end
theorem yV (w:World) (t:TypeId) (cs:List Value) (k:Nat) (h:cs.length=k):Reads (w.alloc (.cells cs.toArray t)) (w.heap.size+1) k (some ⟨w.heap.size,0,none⟩) 1 cs:=by
 refine⟨by rw[h,Nat.one_mul],fun _=>⟨_,rfl,aA,fun j u hj=>?_⟩⟩;rw[Addr.add_mid,Nat.zero_add,(aj.new w t cs.toArray).cell];simpa using hj
theorem oV:(Tryz.prog.info? 5).map (fun i=>(i.zero,i.size,i.bytes))=some (some (.int .u8 0),1,1):=ah
theorem oW {P:Program} {t:TypeId} {z:Value} {s b:Nat} (h:(P.info? t).map (fun i=>(i.zero,i.size,i.bytes))=some (some z,s,b)):∃i,P.info? t=some i/\i.zero=some z/\i.size=s/\i.bytes=b:=by
 cases hi:P.info? t with
 |none=>rw[hi]at h;cases h
 |some i=>
  rw[hi]at h;simp only[Option.map_some,Option.some.injEq,Prod.mk.injEq]at h;exact⟨i,rfl,h.1,h.2.1,h.2.2⟩
section
variable {P:Program} (w:World)
theorem ZP (base:Nat) (t u ty e:TypeId) (i:TypeInfo) (ht:P.underlying t=some (.slice e)) (hu:P.underlying u=some .string) (hi:P.info? e=some i) (hz:i.zero=some (.int .u8 0))
 (hsize:i.size=1) (hby:i.bytes=1)
 (v:Value) (n:Nat) (xs:List Value) (hown:w.ownsRow base e 1 v n xs) (s:ByteArray)
 (h63:n+s.size<=maxLen) (hbytes:n+s.size<=140737488355328) (hbase:base<=w.heap.size):
 ∃v' w',(Builtin.append_ #[t,u] ty #[v,.string s]).run P w=.ok v' w'/\w'.ownsRow base e 1 v' (n+s.size) (xs++Go.Lib.strCells s)/\w.grownBy w' v.ownBlock/\
  (v'.ownBlock=v.ownBlock∨v'.ownBlock=some w.heap.size):=by
 obtain⟨v',w',hr,h2,h3,h4⟩:=Go.Lib.run_append_own_string (P:=P) w base t u ty e i ht hu hi hz hsize hby v n xs hown s h63 hbytes hbase;refine⟨v',w',hr,h2,h3,?_⟩;have hsmall:n+s.size<=9223372036854775807:=by simp only[maxLen]at h63;omega
 have hxl:xs.length=n:=by simpa using hown.1
 rcases hown.2 with ⟨rfl,rfl⟩|⟨g,cap,cur,rfl,hbg,hg,hnc,hcm,hcs,htake⟩
 · by_cases hm:s.size=0
   · rw[h4.2 ⟨rfl,hm⟩];exact .inl rfl
   · have hr2:=Go.run_append_nil_string (P:=P) w t u ty e i (.int .u8 0) ht hu hi hz s byOmega byOmega (by rw[hby];omega);rw[hr2]at hr;injection hr with e1 e2
     rw[<-e1];exact .inr rfl
 · by_cases hroom:n+s.size<=cap
   · have hcs':cur.size=cap:=(by simpa using hcs);have hr2:=Go.Lib.run_append_room_string (P:=P) w t u ty e i ht hu hi hsize g n cap cur hg s hroom byOmega;rw[hr2]at hr;injection hr with e1 e2
     rw[<-e1];exact .inl rfl
   · have holds:∀j u,xs[j]?=some u->w.cell? ((⟨g,0,none⟩:Addr).add j)=some u:=hown.cells (g:=g) rfl;have hr2:=Go.Lib.run_append_grow_string (P:=P) w t u ty e i (.int .u8 0) ht hu hi hz ⟨g,0,none⟩ n cap xs (by rw[hsize];simpa using hxl) holds s byOmega byOmega (by rw[hby];exact growslice_fits byOmega byOmega);rw[hr2]at hr;injection hr with e1 e2
     rw[<-e1];exact .inr rfl
theorem QL {ops:Array Oper} {rest:List Oper} {o:Oper} {a:Act} {Q:Exit->Act->World->Prop} (hgd:o.guard=none) (sl x:Operand) (t u:TypeId)
 (ho:o.op=.call {callee:=.builtin .append,args:=#[sl,x],argTypes:=#[t,u]})
 (base:Nat) (e:TypeId) (i:TypeInfo) (ht:P.underlying t=some (.slice e)) (hu:P.underlying u=some .string) (hi:P.info? e=some i) (hz:i.zero=some (.int .u8 0))
 (hsize:i.size=1) (hby:i.bytes=1)
 (v:Value) (n:Nat) (xs:List Value) (hs:a.eval sl=v) (hown:w.ownsRow base e 1 v n xs) (s:ByteArray) (hx:a.eval x=.string s)
 (h63:n+s.size<=maxLen) (hbytes:n+s.size<=140737488355328) (hbase:base<=w.heap.size)
 (h:∀v' w',w'.ownsRow base e 1 v' (n+s.size) (xs++Go.Lib.strCells s)->w.grownBy w' v.ownBlock->(v'.ownBlock=v.ownBlock∨v'.ownBlock=some w.heap.size)->wpList P ops Q rest (a.put o.dst v') w'):wpList P ops Q (o::rest) a w:=by
 refine wpList_plain hgd fun K hK=>?_
 obtain⟨v',w',hr,h2,h3,h4⟩:=ZP (P:=P) w base t u o.type e i ht hu hi hz hsize hby v n xs hown s h63 hbytes hbase;unfold Oper.wp execOp;simp only[ho,resolve,invoke,builtin,Sem.run_bind,Sem.run_pure,Result.andThen_ok,List.map_toArray,List.map_cons,List.map_nil,hs,hx,hr];exact hK _ _ (h v' w' h2 h3 h4)
end
def Fz (w:World) (B g:Nat) (v:Value) (bs:List UInt8) (more:List UInt8):Ending->World->Prop:=
 fun e w'=>e=.returned (.tuple #[])/\∃v',Wr w' B g v' (bs++more)/\dh w w' g v v'
theorem ZQ (k:Nat):bits .or .u8 (IntKind.u8.wrap (k:Int)) 128=(((k%128+128).toUInt8.toNat:Nat):Int):=by
 have h:∀x:Fin 256,(x.val|||128)=x.val%128+128:=by decide+kernel
 have h1:=h ⟨k%256,Nat.mod_lt _ byOmega⟩;simp only at h1;have e:IntKind.u8.wrap (k:Int)=((k%256:Nat):Int):=by rw[IntKind.wrap_u8'];omega
 rw[e,show (128:Int)=((128:Nat):Int) from rfl,Go.u8_or_nat _ _ (Nat.mod_lt _ byOmega) byOmega,h1]
 congr 1
 show _=(k%128+128)%256;omega
theorem ZR (k:Nat):bytesV [(k%128+128).toUInt8]=[.int .u8 (bits .or .u8 ((k:Int)%256) 128)]:=by
 rw[<-IntKind.wrap_u8',ZQ];rfl
theorem QM (k:Nat) (h:k<128):bytesV [k.toUInt8]=[.int .u8 (k:Int)]:=by
 show [Value.int .u8 ((k%256:Nat):Int)]=_;rw[Nat.mod_eq_of_lt byOmega]
theorem ZT (b:Nat) (h:b<18446744073709551616):bits .xor .u64 IntKind.u64.max (b:Int)=((18446744073709551615-b:Nat):Int):=by
 have e:IntKind.u64.max=((18446744073709551615:Nat):Int):=rfl;rw[e,Go.u64_xor_nat _ _ byOmega h]
 congr 1
 have h1:(BitVec.allOnes 64^^^BitVec.ofNat 64 b).toNat=18446744073709551615^^^b:=by
  rw[BitVec.toNat_xor,BitVec.toNat_allOnes,BitVec.toNat_ofNat,Nat.mod_eq_of_lt h]
 rw[<-h1,BitVec.allOnes_xor,BitVec.toNat_not,BitVec.toNat_ofNat,Nat.mod_eq_of_lt h]
theorem QN {n:Int} (h:0<=n) (h2:n<=9223372036854775807):IntKind.u64.wrap (IntKind.u64.wrap n*2)=((zig n:Nat):Int):=by
 unfold zig;rw[if_pos h,IntKind.wrap_u64,IntKind.wrap_u64];omega
theorem QO {n:Int} (h:n<0) (h1: -9223372036854775808<=n):bits .xor .u64 IntKind.u64.max (IntKind.u64.wrap (IntKind.u64.wrap n*2))=((zig n:Nat):Int):=by
 have e:IntKind.u64.wrap (IntKind.u64.wrap n*2)=((18446744073709551616+2*n).toNat:Int):=by
  rw[IntKind.wrap_u64,IntKind.wrap_u64];omega
 rw[e,ZT _ byOmega];unfold zig;rw[if_neg byOmega];omega
def ZU (w:World) (B g:Nat) (v:Value) (bs:List UInt8) (n:Int) (u:Value) (wr:World):Prop:=
 ∃(k:Nat) (pre:List UInt8) (v1:Value),u=.int .u64 k/\k<18446744073709551616/\pre++kU k=encI n/\Wr wr B g v1 (bs++pre)/\dh w wr g v v1
set_option maxRecDepth 100000 in
set_option maxHeartbeats 4000000 in
theorem rH (g:Nat) (n:Int) (v:Value) (bs:List UInt8) (B:Nat) (w:World) (hw:Wr w B g v bs) (hB:B<=w.heap.size) (hn1: -9223372036854775808<=n) (hn2:n<=9223372036854775807) (hlen:bs.length+10<=1000000000000):
 Calls Tryz.prog 127 #[.pointer (some ⟨g,0,none⟩),.int .i64 n] w (Fz w B g v bs (encI n)):=by
 obtain⟨i0,hi0,hz0,hz1,hz2⟩:=oW oV;have hzl:=Io hn1 hn2;have hel:=iE hn1 hn2;have hcase:n<0∨0<=n:=byOmega;rcases hcase with hneg|hneg
 all_goals (
  go_enter Tryz.func127,Tryz.ntmps127;go_wp2
  go_loopw [4] (fun u wr=>ZU w B g v bs n u wr) (fun u _=>(intOf u).toNat)
  case atStart=>
   refine⟨zig n,[],v,?_,hzl,rfl,by simpa using hw,dh.refl _ _ _⟩
   first
        |rw[QO hneg hn1]
        |(have e:=QN hneg hn2
          rw[show IntKind.u64.wrap n=n from by rw[IntKind.wrap_u64];omega,show IntKind.u64.wrap (n*2)=n*2 from by rw[IntKind.wrap_u64];omega]at e;rw[e])
  case round=>
   obtain⟨k,pre,v1,rfl,hk,henc,hwr,hf⟩:=hrel;have hzz:=hf.size;have hbl:=hwr.blk;have hgl:=hbl.lt;have hc0:=cl (hbl.cell 0);have hfz:wr.frozen? ⟨g,0,none⟩=false:=hbl.frozen 0;have hpre:pre.length+(kU k).length=(encI n).length:=(by rw[<-henc,aK]);by_cases hbig:k<128
   · have h1:kU k=[k.toUInt8]:=yS hbig;go_wp2_with (first
      |(at_builtin
        refine iI _ rfl (.tmp 32) (.tmp 35) _ rfl B 5 i0 _ 1 1 Tryz.underlying49 hi0 hz0 hz1 hz2 rfl byOmega v1 _ (bytesV (bs++pre)) aI (hwr.row.alloc _) (wr.heap.size+1) (some ⟨wr.heap.size,0,none⟩) 1 1 (bytesV [k.toUInt8]) aI
            (by rw[QM k hbig];exact yV wr 5 _ 1 rfl) (mY _) (by unfold maxLen;simp;omega) ay ay ?_
        intro v2 w1 hown1 hg1 nN;obtain⟨A2,c2,rfl,hA1,hA2⟩:=fP hown1;obtain⟨hm1,hm2⟩:=hwr.mid ((aC).alloc (Nat.le_refl _) _) hg1))
     have hap:=hwr.app (more:=[k.toUInt8]) ((aC).alloc (Nat.le_refl _) _) hown1 hg1 nN;rw[aK]at hap;rw[<-henc,h1]
     go_end0
     rw[List.append_assoc]at hap;exact⟨rfl,_,hap.1,hf.trans hap.2⟩
   · have h1:=yT hbig;go_wp2_with (first
      |(at_builtin
        refine iI _ rfl (.tmp 18) (.tmp 22) _ rfl B 5 i0 _ 1 1 Tryz.underlying49 hi0 hz0 hz1 hz2 rfl byOmega v1 _ (bytesV (bs++pre)) aI (hwr.row.alloc _) (wr.heap.size+1) (some ⟨wr.heap.size,0,none⟩) 1 1 (bytesV [(k%128+128).toUInt8]) aI
            (by rw[ZR k];exact yV wr 5 _ 1 rfl) (mY _) (by unfold maxLen;simp;omega) ay ay ?_
        intro v2 w1 hown1 hg1 nN;obtain⟨A2,c2,rfl,hA1,hA2⟩:=fP hown1;obtain⟨hm1,hm2⟩:=hwr.mid ((aC).alloc (Nat.le_refl _) _) hg1))
     have hap:=hwr.app (more:=[(k%128+128).toUInt8]) ((aC).alloc (Nat.le_refl _) _) hown1 hg1 nN;go_roundw;rw[aK]at hap
     case rel=>
      refine⟨k/128,pre++[(k%128+128).toUInt8],_,?_,byOmega,?_,?_,hf.trans hap.2⟩
      · go_num
      · rw[List.append_assoc,<-henc,h1];rfl
      · rw[<-List.append_assoc];exact hap.1
     case measure=>simp[intOf];omega)
end Go.Proofs.YtcalkfgibflbnaaGreat
namespace Go.Proofs.YtcalkfgibflbnaaGreat
set_option maxHeartbeats 4000000
set_option maxRecDepth 100000
open Go.RowKit Fl
theorem QS (w:World):
 Calls Tryz.prog 41 #[] w fun e w'=>e=.returned (.pointer (some ⟨w.heap.size,0,none⟩))/\w.alloc (.cells #[.slice none 0 0] 129)=w':=by
 go_enter Tryz.func41,Tryz.ntmps41;go_wp2;go_ret;exact⟨rfl,rfl⟩
theorem ZV (g:Nat) (b:Bool) (v:Value) (bs:List UInt8) (B:Nat) (w:World) (hw:Wr w B g v bs) (hB:B<=w.heap.size) (hlen:bs.length+1<=1000000000000):
 Calls Tryz.prog 188 #[.pointer (some ⟨g,0,none⟩),.bool b] w (Fz w B g v bs (qF b)):=by
 obtain⟨i0,hi0,hz0,hz1,hz2⟩:=oW oV;have hbl:=hw.blk;have hgl:=hbl.lt;have hc0:=cl (hbl.cell 0);have hfz:w.frozen? ⟨g,0,none⟩=false:=hbl.frozen 0;cases b
 · go_enter Tryz.func188,Tryz.ntmps188;go_wp2_with (first
         |(at_builtin
           refine iI _ rfl (.tmp 18) (.tmp 19) _ rfl B 5 i0 _ 1 1 Tryz.underlying49 hi0 hz0 hz1 hz2 rfl byOmega v _ (bytesV bs) aI (hw.row.alloc _) (w.heap.size+1) (some ⟨w.heap.size,0,none⟩) 1 1 (bytesV [0]) aI
               (yV w 5 _ 1 rfl) (mY _) (by unfold maxLen;simp;omega) ay ay ?_
           intro v2 w1 hown1 hg1 nN;obtain⟨A2,c2,rfl,hA1,hA2⟩:=fP hown1;obtain⟨hm1,hm2⟩:=hw.mid ((aC).alloc (Nat.le_refl _) _) hg1))
   have hap:=hw.app (more:=[0]) ((aC).alloc (Nat.le_refl _) _) hown1 hg1 nN
   go_end0
   exact⟨rfl,_,hap.1,hap.2⟩
 · go_enter Tryz.func188,Tryz.ntmps188;go_wp2_with (first
         |(at_builtin
           refine iI _ rfl (.tmp 9) (.tmp 10) _ rfl B 5 i0 _ 1 1 Tryz.underlying49 hi0 hz0 hz1 hz2 rfl byOmega v _ (bytesV bs) aI (hw.row.alloc _) (w.heap.size+1) (some ⟨w.heap.size,0,none⟩) 1 1 (bytesV [1]) aI
               (yV w 5 _ 1 rfl) (mY _) (by unfold maxLen;simp;omega) ay ay ?_
           intro v2 w1 hown1 hg1 nN;obtain⟨A2,c2,rfl,hA1,hA2⟩:=fP hown1;obtain⟨hm1,hm2⟩:=hw.mid ((aC).alloc (Nat.le_refl _) _) hg1))
   have hap:=hw.app (more:=[1]) ((aC).alloc (Nat.le_refl _) _) hown1 hg1 nN;refine bodyPost_ret (results_none rfl _ _ _) rfl ?_;exact⟨rfl,_,hap.1,hap.2⟩
theorem QT (k:Nat):bytesV [(k%256).toUInt8]=[.int .u8 ((k:Int)%256)]:=by
 show [Value.int .u8 ((k%256%256:Nat):Int)]=_;rw[Nat.mod_mod,Int.natCast_emod];rfl
def ZW (w:World) (B g:Nat) (v:Value) (bs:List UInt8) (x:Nat) (u i:Value) (wr:World):Prop:=
 ∃(j k:Nat) (pre:List UInt8) (v1:Value),j<=8/\i=.int .i64 j/\u=.int .u64 k/\k<18446744073709551616/\pre.length=j/\pre++lX (8-j) k=lX 8 x/\Wr wr B g v1 (bs++pre)/\dh w wr g v v1
theorem QU (g:Nat) (a:Nat) (v:Value) (bs:List UInt8) (B:Nat) (w:World) (hw:Wr w B g v bs) (hB:B<=w.heap.size) (ha:a<18446744073709551616) (hlen:bs.length+8<=1000000000000):
 Calls Tryz.prog 219 #[.pointer (some ⟨g,0,none⟩),.float .f64 a] w (Fz w B g v bs (lX 8 (bU a))):=by
 obtain⟨i0,hi0,hz0,hz1,hz2⟩:=oW oV;have hcan:bU a<18446744073709551616:=by unfold bU;split<;>omega
 go_enter Tryz.func219,Tryz.ntmps219;go_wp2_with ((with_reducible refine(nbits _ _).mono ?_);rintro e w' ⟨rfl,rfl⟩)
 go_loopw [4,7] (fun u i wr=>ZW w B g v bs (bU a) u i wr) (fun _ i _=>8-(intOf i).toNat)
 case atStart=>exact⟨0,_,[],v,byOmega,rfl,rfl,hcan,rfl,rfl,by simpa using hw,dh.refl _ _ _⟩
 case round=>
  obtain⟨j,k,pre,v1,hj,rfl,rfl,hk,hpl,henc,hwr,hf⟩:=hrel;have hzz:=hf.size;have hbl:=hwr.blk;have hgl:=hbl.lt;have hc0:=cl (hbl.cell 0);have hfz:wr.frozen? ⟨g,0,none⟩=false:=hbl.frozen 0;by_cases hlt:j<8
  · go_wp2_with (first
     |(at_builtin
       refine iI _ rfl (.tmp 13) (.tmp 16) _ rfl B 5 i0 _ 1 1 Tryz.underlying49 hi0 hz0 hz1 hz2 rfl byOmega v1 _ (bytesV (bs++pre)) aI (hwr.row.alloc _) (wr.heap.size+1) (some ⟨wr.heap.size,0,none⟩) 1 1 (bytesV [(k%256).toUInt8]) aI
               (by rw[QT k];exact yV wr 5 _ 1 rfl) (mY _) (by unfold maxLen;simp;omega) ay ay ?_
       intro v2 w1 hown1 hg1 nN;obtain⟨A2,c2,rfl,hA1,hA2⟩:=fP hown1;obtain⟨hm1,hm2⟩:=hwr.mid ((aC).alloc (Nat.le_refl _) _) hg1))
    have hap:=hwr.app (more:=[(k%256).toUInt8]) ((aC).alloc (Nat.le_refl _) _) hown1 hg1 nN;rw[aK,hpl]at hap;go_roundw
    case rel=>
        refine⟨j+1,k/256,pre++[(k%256).toUInt8],_,byOmega,by go_num,?_,byOmega,by simp[hpl],?_,?_,hf.trans hap.2⟩
        · go_num
        · rw[List.append_assoc,<-henc,show 8-j=(8-(j+1))+1 from byOmega];rfl
        · rw[<-List.append_assoc];exact hap.1
    case measure=>simp[intOf];omega
  · obtain rfl:j=8:=byOmega;have hen:pre=lX 8 (bU a):=(by simpa [lX] using henc);subst hen;go_wp2
    go_end0
    exact⟨rfl,_,hwr,hf⟩
theorem QV (g:Nat) (s:ByteArray) (v:Value) (bs:List UInt8) (B:Nat) (w:World) (hw:Wr w B g v bs) (hB:B<=w.heap.size) (hlen:bs.length+10+s.size<=1000000000000):
 Calls Tryz.prog 185 #[.pointer (some ⟨g,0,none⟩),.string s] w (Fz w B g v bs (jX s.data.toList)):=by
 obtain⟨i0,hi0,hz0,hz1,hz2⟩:=oW oV;have hel:(encI (s.size:Int)).length<=10:=iE byOmega byOmega;go_enter Tryz.func185,Tryz.ntmps185;go_wp2_with fail;refine(rH g _ v bs B w hw hB byOmega byOmega byOmega).mono ?_;rintro e w1 ⟨rfl,v1,hw1,hf1⟩;have hzz:=hf1.size;have hbl:=hw1.blk;have hgl:=hbl.lt;have hc0:=cl (hbl.cell 0);have hfz:w1.frozen? ⟨g,0,none⟩=false:=hbl.frozen 0;go_wp2_with (first
         |(at_builtin
           refine QL _ rfl (.tmp 12) (.tmp 13) _ _ rfl B 5 i0 Tryz.underlying49 Tryz.underlying9 hi0 hz0 hz1 hz2 v1 _ (bytesV (bs++encI (s.size:Int))) aI hw1.row s aI
              (by unfold maxLen;simp;omega) ay byOmega ?_
           intro v2 w2 hown1 hg1 nN;obtain⟨A2,c2,rfl,hA1,hA2⟩:=fP hown1;obtain⟨hm1,hm2⟩:=hw1.mid aC hg1))
 have hsz:s.size=s.data.toList.length:=(Array.length_toList (xs:=s.data)).symm;have hap:=hw1.app (more:=s.data.toList) aC (by rw[<-hsz];exact hown1) hg1 nN;rw[List.append_assoc,aK]at hap
 go_end0
 exact⟨rfl,_,by unfold jX;rw[<-hsz];exact hap.1,hf1.trans hap.2⟩
def cO (w:World) (bs:List UInt8):Ending->World->Prop:=fun e w'=>
 ∃A c,e=.returned (.slice A bs.length c)/\bs.length<=c/\c<=maxLen/\w'.ownsRow w.heap.size 5 1 (.slice A bs.length c) bs.length (bytesV bs)/\Below w.heap.size w w'
theorem QW (g:Nat) (v:Value) (bs:List UInt8) (B:Nat) (w:World) (hw:Wr w B g v bs) (hlen:bs.length<=1000000000000):
 Calls Tryz.prog 43 #[.pointer (some ⟨g,0,none⟩)] w (cO w bs):=by
 obtain⟨i0,hi0,hz0,hz1,hz2⟩:=oW oV;have hbl:=hw.blk;have hgl:=hbl.lt;obtain⟨A,c,rfl,hA1,hA2⟩:=fP hw.row;have hc0:=cl (hbl.cell 0);go_enter Tryz.func43,Tryz.ntmps43;go_wp2_with (first
         |(at_builtin
           refine iI _ rfl (.tmp 3) (.tmp 7) _ rfl w.heap.size 5 i0 _ 1 1 Tryz.underlying49 hi0 hz0 hz1 hz2 rfl byOmega (.slice (some ⟨w.heap.size,0,none⟩) 0 0) 0 [] aI
              (World.ownsRow_made w #[] 0 (Nat.le_refl _) dX rfl) w.heap.size A bs.length c (bytesV bs) aI ((Reads.kK hw.row).alloc (Nat.le_refl _) _) (mY _) dX byOmega aA ?_
           intro v1 w1 hown1 hg1 nN))
 simp only[Nat.zero_add,List.nil_append]at hown1;obtain⟨A1,c1,hv,hn1,hc1⟩:=fP hown1;subst hv;have hb1:Below w.heap.size w w1:=((aC).alloc (Nat.le_refl _) _).grown hg1 aA (by intro k hk;simp[Value.ownBlock]at hk;omega);go_ret;exact⟨A1,c1,rfl,hn1,hc1,hown1,hb1⟩
set_option linter.unusedVariables false
def dK (a:Nat):List UInt8:=lX 8 (bU a)
def bn (s:ByteArray):List UInt8:=jX s.data.toList
def aU (s:Sp):List UInt8:=encI s.w++(encI s.l++encI s.n)
def eP (t:Tx):List UInt8:=encI t.c++(encI t.l++encI t.s)
def eY (v:Vl):List UInt8:=if v.may then (if v.k=1 then encI 1++dK v.n else if v.k=2 then encI 2++bn v.t else encI 0) else encI 0
def bP (a:Wt):List UInt8:=bn a.key++eY a.v
def kE (a:Vn):List UInt8:=aU a.s++eY a.v
def aH {α:Type} (f:α->List UInt8) (l:List α):List UInt8:=encI l.length++l.flatMap f
def iQ (h:Hs):List UInt8:=bn h.key++aH kE h.vs
def fH (p:Pn):List UInt8:=eP p.t++(aU p.s++(aH bn p.r++aH bP p.w))
def dU (r:Rg):List UInt8:=encI r.id++(encI r.ep++(dK r.lo++dK r.hi))
def oC (s:dP):List UInt8:=dU s.r++(aU s.f++(aU s.c++(aH iQ s.h++aH fH s.p)))
def gu (r:Rc):List UInt8:=
 if r.k=1 then oC r.st else
 if r.k=2 then encI r.n else
 if r.k=3 then fH ⟨r.t,r.s,r.rd,r.wr⟩++aH encI r.ps else
 if r.k=4 then eP r.t++(qF r.cm++aU r.s) else
 if r.k=5 then aU r.s else
 if r.k=6 then dK r.pt++(encI r.n++aU r.s) else
 if r.k=7 then encI r.n else
 if r.k=8 then encI r.n else
 if r.k=9 then eP r.t++(aU r.s++aH encI r.ps) else
 if r.k=10 then eP r.t else
 if r.k=11 then aU r.pv++(aU r.s++(eP r.t++aH bP r.wr)) else
 if r.k=12 then aU r.s++aH bP r.pr else []
def bC (r:Rc):List UInt8:=encI r.k++gu r
theorem xQ {α:Type} (f:α->List UInt8) {l:List α} {k:Nat} {a:α} (h:l[k]?=some a):(l.take (k+1)).flatMap f=(l.take k).flatMap f++f a:=by
 rw[List.take_add_one,h];simp
theorem xR {α:Type} (f:α->List UInt8) (l:List α) (k:Nat):((l.take k).flatMap f).length<=(l.flatMap f).length:=by
 conv=>rhs;rw[<-List.take_append_drop k l]
 rw[List.flatMap_append,aK];omega
theorem xU {α:Type} (f:α->List UInt8) {l:List α} {k:Nat} (h:l.length<=k):(l.take k).flatMap f=l.flatMap f:=by rw[List.take_of_length_le h]
end Go.Proofs.YtcalkfgibflbnaaGreat
namespace Go.Proofs.YtcalkfgibflbnaaGreat
open Fl
structure RS where
 at_:Nat
 e:Int
 p:Nat
 deriving DecidableEq
def val:List UInt8->Nat
 |[]=>0
 |c::t=>c.toNat%128+128*val t
def grp:List UInt8->Option (List UInt8)
 |[]=>none
 |c::t=>if c.toNat<128 then some [c] else (grp t).map (c:: ·)
def over (bs:List UInt8):Bool:=decide (10<bs.length)||decide (18446744073709551616<=val bs)
def good (bs:List UInt8):Bool:= !over bs&&(decide (bs.length<=1)||decide (bs.getLast?≠some 0))
def uN (u:Nat):Int:=if u%2=0 then ((u/2:Nat):Int) else -((u/2:Nat):Int)-1
inductive Dec where
 |short
 |form
 |ok (n:Int) (next:Nat)
 deriving DecidableEq
def dec (l:List UInt8) (a:Nat):Dec:=
 match grp (l.drop a) with
 |none=> .short
 |some bs=>if good bs then .ok (uN (val bs)) (a+bs.length) else .form
def jr:List UInt8->Nat
 |[]=>0
 |c::t=>c.toNat+256*jr t
def fD (s:RS) (e:Int) (q:Nat):RS:=if s.e=0/\e≠0 then ⟨s.at_,e,q⟩ else s
def aS (l:List UInt8) (s:RS):Int×RS:=
 if s.e≠0 then (0,s) else
 match dec l s.at_ with
 | .short=>(0,fD s 5 l.length)
 | .form=>(0,fD s 4 s.at_)
 | .ok n next=>(n,⟨next,s.e,s.p⟩)
def nS (l:List UInt8) (s:RS):Bool×RS:=
 if s.e≠0 then (false,s) else
 match l[s.at_]? with
 |none=>(false,fD s 5 l.length)
 |some c=>if 1<c.toNat then (false,fD s 4 s.at_) else (c.toNat==1,⟨s.at_+1,s.e,s.p⟩)
def fK (l:List UInt8) (s:RS):Nat×RS:=
 if s.e≠0 then (0,s) else
 if l.length-s.at_<8 then (0,fD s 5 l.length) else
 let u:=jr ((l.drop s.at_).take 8)
 if bU u≠u then (0,fD s 4 s.at_) else (u,⟨s.at_+8,s.e,s.p⟩)
def aX (l:List UInt8) (s:RS) (most e:Int):Int×RS:=
 if s.e≠0 then (0,s) else
 match dec l s.at_ with
 | .short=>(0,fD s 5 l.length)
 | .form=>(0,fD s 4 s.at_)
 | .ok n next=>if n<0 then (0,fD s 4 s.at_) else if most<n then (0,fD s e s.at_) else (n,⟨next,s.e,s.p⟩)
def dZ (l:List UInt8) (s:RS) (most:Int):List UInt8×RS:=
 if s.e≠0 then ([],s) else
 match dec l s.at_ with
 | .short=>([],fD s 5 l.length)
 | .form=>([],fD s 4 s.at_)
 | .ok n next=>if n<0 then ([],fD s 4 s.at_) else if most<n then ([],fD s 2 s.at_) else
   if (l.length:Int)-next<n then ([],fD s 5 l.length) else ((l.drop next).take n.toNat,⟨next+n.toNat,s.e,s.p⟩)
def bI (l:List UInt8) (s:RS):Nat:=if s.e≠0 then 0 else l.length-s.at_
def lY (l:List UInt8) (s:RS):Int×Nat:=if s.e=0/\s.at_<l.length then (6,s.at_) else (s.e,s.p)
theorem QX:∀bs:List UInt8,val bs<128^bs.length:=by
 intro bs
 induction bs with
 |nil=>simp[val]
 |cons c t ih=>
  have:c.toNat%128<128:=Nat.mod_lt _ byOmega;simp only[val,List.length_cons,Nat.pow_succ];omega
theorem Ls (pre:List UInt8) (c:UInt8):val (pre++[c])=val pre+128^pre.length*(c.toNat%128):=by
 induction pre with
 |nil=>simp[val]
 |cons d t ih=>
  simp only[List.cons_append,val,ih,List.length_cons,Nat.pow_succ];rw[Nat.mul_add,Nat.add_assoc,<-Nat.mul_assoc,Nat.mul_comm 128 (128^t.length)]
theorem QY:∀(k u:Nat) (r:List UInt8),u<=k->grp (kU u++r)=some (kU u)/\val (kU u)=u/\((kU u).length<=1∨(kU u).getLast?≠some 0):=by
 intro k
 induction k with
 |zero=>
  intro u r h;obtain rfl:u=0:=byOmega;exact⟨rfl,rfl,.inl (Nat.le_refl _)⟩
 |succ k ih=>
  intro u r h;by_cases hs:u<128
  · rw[yS hs];have e:u.toUInt8.toNat=u:=(by show u%256=u;omega);refine⟨?_,?_,.inl (Nat.le_refl _)⟩
    · show (if _ then _ else _)=_;rw[if_pos (by rw[e];exact hs)]
    · simp only[val,e];omega
  · obtain⟨h1,h2,h3⟩:=ih (u/128) r byOmega;rw[yT hs];have e:(u%128+128).toUInt8.toNat=u%128+128:=(by show (u%128+128)%256=_;omega);refine⟨?_,?_,?_⟩
    · show (if _ then _ else _)=_;rw[if_neg (by rw[e];omega)];show Option.map _ (grp (kU (u/128)++r))=_;rw[h1];rfl
    · simp only[val,h2,e];omega
    · right
      cases hl:kU (u/128) with
      |nil=>
       exfalso;by_cases h5:u/128<128
       · rw[yS h5]at hl;cases hl
       · rw[yT h5]at hl;cases hl
      |cons d t=>
       rw[List.getLast?_cons_cons,<-hl];rcases h3 with h3|h3
       · by_cases h5:u/128<128
         · rw[yS h5];intro h6;have h7:(u/128).toUInt8=0:=(by simpa using h6);have h8:(u/128).toUInt8.toNat=0:=(by rw[h7];rfl);have h9:(u/128).toUInt8.toNat=u/128:=(by show u/128%256=_;omega);omega
         · exfalso;rw[yT h5]at h3;cases h10:kU (u/128/128) with
           |nil=>
            by_cases h11:u/128/128<128
            · rw[yS h11]at h10;cases h10
            · rw[yT h11]at h10;cases h10
           |cons _ _=>rw[h10]at h3;simp at h3
       · exact h3
theorem QZ:∀{r bs:List UInt8},grp r=some bs->∃pre c,bs=pre++[c]/\c.toNat<128/\(∀d∈pre,128<=d.toNat)/\r=bs++r.drop bs.length/\grp bs=some bs:=by
 intro r
 induction r with
 |nil=>intro bs h;cases h
 |cons c t ih=>
  intro bs h;by_cases hc:c.toNat<128
  · have e:grp (c::t)=some [c]:=(by show (if _ then _ else _)=_;rw[if_pos hc]);rw[e]at h;obtain rfl:=Option.some.inj h;refine⟨[],c,rfl,hc,aA,rfl,?_⟩;show (if _ then _ else _)=_;rw[if_pos hc]
  · have e:grp (c::t)=(grp t).map (c:: ·):=(by show (if _ then _ else _)=_;rw[if_neg hc]);rw[e]at h;cases ht:grp t with
    |none=>rw[ht]at h;cases h
    |some b=>
     rw[ht]at h;obtain rfl:=Option.some.inj h;obtain⟨pre,d,rfl,hd,hp,hr,hg⟩:=ih ht;refine⟨c::pre,d,rfl,hd,?_,?_,?_⟩
     · intro x hx;rcases List.mem_cons.1 hx with rfl|hx
       · omega
       · exact hp x hx
     · show c::t=(c::(pre++[d]))++List.drop ((pre++[d]).length+1) (c::t);rw[List.drop_succ_cons];show c::t=c::((pre++[d])++_);rw[<-hr]
     · show (if _ then _ else _)=_;rw[if_neg hc];show Option.map _ (grp (pre++[d]))=_;rw[hg];rfl
theorem ZX:∀(r:List UInt8),grp r=none↔∀c∈r,128<=c.toNat:=by
 intro r
 induction r with
 |nil=>simp[grp]
 |cons c t ih=>
  by_cases hc:c.toNat<128
  · have e:grp (c::t)=some [c]:=(by show (if _ then _ else _)=_;rw[if_pos hc]);rw[e];constructor
    · intro h;cases h
    · intro h;have:=h c aA;omega
  · have e:grp (c::t)=(grp t).map (c:: ·):=(by show (if _ then _ else _)=_;rw[if_neg hc]);rw[e,Option.map_eq_none_iff,ih];constructor
    · intro h x hx;rcases List.mem_cons.1 hx with rfl|hx
      · omega
      · exact h x hx
    · intro h x hx;exact h x (by simp[hx])
theorem ZY:∀bs:List UInt8,grp bs=some bs->(bs.length<=1∨bs.getLast?≠some 0)->kU (val bs)=bs:=by
 intro bs
 induction bs with
 |nil=>intro h;cases h
 |cons c t ih=>
  intro h hl;have hcl:c.toNat<256:=c.toNat_lt;by_cases hc:c.toNat<128
  · have e:grp (c::t)=some [c]:=(by show (if _ then _ else _)=_;rw[if_pos hc]);rw[e]at h;obtain rfl:t=[]:=(by have:=Option.some.inj h;simp at this;exact this);have e2:val [c]=c.toNat:=(by simp only[val];omega);rw[e2,yS hc]
    congr 1
    apply UInt8.toNat_inj.1;show c.toNat%256=_;omega
  · have e:grp (c::t)=(grp t).map (c:: ·):=(by show (if _ then _ else _)=_;rw[if_neg hc]);rw[e]at h;cases ht:grp t with
    |none=>rw[ht]at h;cases h
    |some b=>
     rw[ht]at h;have hb:b=t:=(by have:=Option.some.inj h;simpa using this);subst hb;have hne:b≠[]:=(by intro e;subst e;cases ht);obtain⟨d,b',rfl⟩:∃d b',b=d::b':=(by cases b with|nil=>exact absurd rfl hne|cons d b'=>exact⟨d,b',rfl⟩);have hl2:(d::b').getLast?≠some 0:=by
      rcases hl with hl|hl
      · simp at hl
      · rwa [List.getLast?_cons_cons]at hl
     have hi:=ih ht (.inr hl2);have hpos:0<val (d::b'):=by
      obtain⟨pre,x,e3,_,_,_,_⟩:=QZ ht;rw[e3,Ls];have hx:x≠0:=by
       intro e4;rw[e3,e4]at hl2;simp at hl2
      have hx2:0<x.toNat:=by
       rcases Nat.eq_zero_or_pos x.toNat with h0|h0
       · exact absurd (UInt8.toNat_inj.1 (by rw[h0];rfl)) hx
       · exact h0
      have hxm:0<x.toNat%128:=byOmega;have:=Nat.mul_pos (Nat.pow_pos (n:=pre.length) (show 0<128 by omega)) hxm;omega
     have ev:val (c::d::b')=c.toNat%128+128*val (d::b'):=rfl;rw[yT (by rw[ev];omega)];have e5:val (c::d::b')/128=val (d::b'):=(by rw[ev];omega);have e6:(val (c::d::b')%128+128).toUInt8=c:=by
      apply UInt8.toNat_inj.1;show (val (c::d::b')%128+128)%256=c.toNat;rw[ev];omega
     rw[e5,e6,hi]
theorem Z4 {n:Int} (h1: -9223372036854775808<=n) (h2:n<=9223372036854775807):uN (zig n)=n:=by
 unfold uN zig;split<;>split<;>omega
theorem Z5 (u:Nat):zig (uN u)=u:=by
 unfold uN zig;split<;>split<;>omega
theorem Z7 {u:Nat} (h:u<18446744073709551616): -9223372036854775808<=uN u/\uN u<=9223372036854775807:=by
 unfold uN;split<;>omega
theorem Z8 {u:Nat} (h:u<18446744073709551616):good (kU u)=true:=by
 obtain⟨_,h2,h3⟩:=QY u u [] (Nat.le_refl _);have hl:(kU u).length<=10:=QJ u byOmega byOmega;unfold good over;rw[h2];simp only[Bool.and_eq_true,Bool.not_eq_true',Bool.or_eq_false_iff,decide_eq_false_iff_not,Bool.or_eq_true,decide_eq_true_eq];exact⟨⟨byOmega,byOmega⟩,h3⟩
theorem Z9 {bs:List UInt8} (h:grp bs=some bs) (hg:good bs=true):kU (val bs)=bs/\val bs<18446744073709551616:=by
 unfold good over at hg;simp only[Bool.and_eq_true,Bool.not_eq_true',Bool.or_eq_false_iff,decide_eq_false_iff_not,Bool.or_eq_true,decide_eq_true_eq]at hg;exact⟨ZY bs h hg.2,byOmega⟩
theorem Z' (pre r:List UInt8) {n:Int} (h1: -9223372036854775808<=n) (h2:n<=9223372036854775807):dec (pre++encI n++r) pre.length=.ok n (pre.length+(encI n).length):=by
 unfold dec encI;rw[List.append_assoc,List.drop_left' rfl];obtain⟨h3,h4,_⟩:=QY (zig n) (zig n) r (Nat.le_refl _);rw[h3];simp only;rw[if_pos (Z8 (Io h1 h2)),h4,Z4 h1 h2]
theorem wQ {l:List UInt8} {a next:Nat} {n:Int} (h:dec l a=.ok n next):
 l.drop a=encI n++l.drop next/\next=a+(encI n).length/\a<next/\next<=l.length/\ -9223372036854775808<=n/\n<=9223372036854775807:=by
 unfold dec at h;cases hg:grp (l.drop a) with
 |none=>rw[hg]at h;cases h
 |some bs=>
  rw[hg]at h;simp only at h;by_cases hgd:good bs=true
  · rw[if_pos hgd]at h;injection h with e1 e2
    obtain⟨pre,c,e3,_,_,hr,hgb⟩:=QZ hg;obtain⟨h4,h5⟩:=Z9 hgb hgd;have e6:encI n=bs:=(by unfold encI;rw[<-e1,Z5,h4]);have hu:=Z7 h5;rw[e1]at hu;have hlen:bs.length=pre.length+1:=(by rw[e3];simp);have hle:bs.length<=(l.drop a).length:=(by rw[hr,aK];omega);rw[List.length_drop]at hle;rw[e6];refine⟨?_,e2.symm,byOmega,byOmega,hu.1,hu.2⟩;rw[<-e2,<-List.drop_drop];exact hr
  · rw[if_neg hgd]at h;cases h
end Go.Proofs.YtcalkfgibflbnaaGreat
namespace Go.Proofs.YtcalkfgibflbnaaGreat
set_option linter.unusedVariables false
open Go.RowKit Fl
abbrev eG (α:Type):=List UInt8->RS->α×RS
def sG (most:Int):eG ByteArray:=fun l s=>(⟨(dZ l s most).1.toArray⟩,(dZ l s most).2)
abbrev iF:eG ByteArray:=sG 262144
def dY:eG Sp:=fun l s=>
 (⟨(aS l s).1,(aS l (aS l s).2).1,(aS l (aS l (aS l s).2).2).1⟩,(aS l (aS l (aS l s).2).2).2)
def oD:eG Tx:=fun l s=>
 (⟨(aS l s).1,(aS l (aS l s).2).1,(aS l (aS l (aS l s).2).2).1⟩,(aS l (aS l (aS l s).2).2).2)
def oZ:eG Vl:=fun l s=>
 if (aX l s 2 4).1=1 then (⟨1,(fK l (aX l s 2 4).2).1,⟨#[]⟩⟩,(fK l (aX l s 2 4).2).2) else
 if (aX l s 2 4).1=2 then (⟨2,0,(sG 64 l (aX l s 2 4).2).1⟩,(sG 64 l (aX l s 2 4).2).2) else
 (⟨(aX l s 2 4).1,0,⟨#[]⟩⟩,(aX l s 2 4).2)
def je:eG Vl:=fun l s=>if (oZ l s).2.e≠0 then (⟨0,0,⟨#[]⟩⟩,(oZ l s).2) else oZ l s
def eu {α β γ:Type} (f:eG α) (g:eG β) (mk:α->β->γ):eG γ:=fun l s=>(mk (f l s).1 (g l (f l s).2).1,(g l (f l s).2).2)
def nT:eG Wt:=eu iF je Wt.mk
def wU:eG Vn:=eu dY je Vn.mk
def iG {α:Type} (f:eG α) (l:List UInt8):Nat->RS->List α×RS
 |0,s=>([],s)
 |k+1,s=>if s.e≠0 then ([],s) else ((f l s).1::(iG f l k (f l s).2).1,(iG f l k (f l s).2).2)
def qG (l:List UInt8) (s:RS):Int×RS:=aX l s (bI l s:Int) 3
def dn {α:Type} (f:eG α):eG (List α):=fun l s=>iG f l (qG l s).1.toNat (qG l s).2
def sH:eG Hs:=eu iF (dn wU) Hs.mk
def pq:eG Pn:=eu (eu (eu oD dY Prod.mk) (dn iF) Prod.mk) (dn nT) fun a w=>⟨a.1.1,a.1.2,a.2,w⟩
def kF:eG Rg:=eu (eu (eu aS aS Prod.mk) fK Prod.mk) fK fun a h=>⟨a.1.1,a.1.2,a.2,h⟩
def xW:eG dP:=eu (eu (eu (eu kF dY Prod.mk) dY Prod.mk) (dn sH) Prod.mk) (dn pq) fun a p=>⟨a.1.1.1,a.1.1.2,a.1.2,a.2,p⟩
def mZ {α:Type} (f:eG α):Prop:=∀l s,s.e≠0->(f l s).2=s
theorem kV:mZ aS:=fun l s h=>by unfold aS;rw[if_pos h]
theorem Lu:mZ nS:=fun l s h=>by unfold nS;rw[if_pos h]
theorem uO:mZ fK:=fun l s h=>by unfold fK;rw[if_pos h]
theorem LC (l:List UInt8) (s:RS) (m e:Int) (h:s.e≠0):aX l s m e=(0,s):=by unfold aX;rw[if_pos h]
theorem Q5 (m:Int):mZ (sG m):=fun l s h=>by unfold sG dZ;rw[if_pos h]
theorem qH:mZ dY:=fun l s h=>by unfold dY;simp only[kV l s h]
theorem LD:mZ oD:=fun l s h=>by unfold oD;simp only[kV l s h]
theorem kX {α β γ:Type} {f:eG α} {g:eG β} {mk:α->β->γ} (hf:mZ f) (hg:mZ g):mZ (eu f g mk):=fun l s h=>by
 unfold eu;simp only[hf l s h,hg l s h]
theorem aac:mZ oZ:=fun l s h=>by
 unfold oZ;rw[LC l s 2 4 h];rfl
theorem Bq:mZ je:=fun l s h=>by
 unfold je;rw[aac l s h,if_pos h]
theorem sJ {α:Type} (f:eG α) (l:List UInt8) (k:Nat) (s:RS) (h:s.e≠0):iG f l k s=([],s):=by
 cases k with
 |zero=>rfl
 |succ k=>unfold iG;rw[if_pos h]
theorem jv {α:Type} (f:eG α):mZ (dn f):=fun l s h=>by
 unfold dn qG;rw[LC l s _ 3 h,sJ f l _ s h]
theorem aad:mZ pq:=kX (kX (kX LD qH) (jv _)) (jv _)
theorem aae:mZ kF:=kX (kX (kX kV kV) uO) uO
theorem Q7:mZ xW:=kX (kX (kX (kX aae qH) qH) (jv _)) (jv _)
theorem mZ.ok {α:Type} {f:eG α} (h:mZ f) {l:List UInt8} {s:RS} (he:(f l s).2.e=0):s.e=0:=Decidable.byContradiction fun hn=>by rw[h l s hn]at he;exact hn he
theorem LG {α:Type} (f:eG α) (l:List UInt8) {k:Nat} {s:RS} (hk:0<k) (h:s.e=0):iG f l k s=((f l s).1::(iG f l (k-1) (f l s).2).1,(iG f l (k-1) (f l s).2).2):=by
 obtain⟨m,rfl⟩:∃m,k=m+1:=⟨k-1,byOmega⟩;show (if s.e≠0 then _ else _)=_;rw[if_neg byOmega];rfl
end Go.Proofs.YtcalkfgibflbnaaGreat
namespace Go.Proofs.YtcalkfgibflbnaaGreat
set_option maxHeartbeats 1000000
set_option maxRecDepth 100000
set_option linter.unusedVariables false
open Go.RowKit Fl
attribute [local go_sem] dJ
def dA (w:World) (g:Nat) (v:Value) (b:Nat):Prop:=b<w.heap.size/\b≠g/\some b≠v.ownBlock
theorem dh.bQ {w w':World} {g:Nat} {v v':Value} {b:Nat} (hf:dh w w' g v v') (h:dA w g v b):dA w' g v' b:=by
 refine⟨Nat.lt_of_lt_of_le h.1 hf.size,h.2.1,?_⟩;rcases hf.own with e|⟨k,e,hk⟩
 · rw[e];exact h.2.2
 · rw[e];intro e2;have:=h.1;cases e2;omega
theorem dh.heap {w w':World} {g:Nat} {v v':Value} {b:Nat} (hf:dh w w' g v v') (h:dA w g v b):w'.heap[b]?=w.heap[b]?:=hf.block b h.1 h.2.1 h.2.2
def At (w:World) (p:Addr) (cs:List Value):Prop:=∀j u,cs[j]?=some u->w.cell? (p.add j)=some u
theorem dh.at_ {w w':World} {g:Nat} {v v':Value} {p:Addr} {cs:List Value} (hf:dh w w' g v v') (h:dA w g v p.block) (ha:At w p cs):At w' p cs:=fun j u hj=>by
 rw[World.cell?_of_block (w:=w) (w':=w') (by rw[iW];exact hf.heap h)];exact ha j u hj
theorem At.head {w:World} {p:Addr} {u:Value} {cs:List Value} (h:At w p (u::cs)):w.cell? p=some u:=h 0 u rfl
theorem At.sub {w:World} {p:Addr} {a b c:List Value} (h:At w p (a++(b++c))):At w (p.add a.length) b:=fun j u hj=>by
 rw[oh];refine h _ u ?_;rw[List.getElem?_append_right byOmega,Nat.add_sub_cancel_left,List.getElem?_append_left (by
  rcases Nat.lt_or_ge j b.length with h|h
  · exact h
  · rw[List.getElem?_eq_none h]at hj;cases hj)]
 exact hj
theorem At.blk {w:World} {g:Nat} {t:TypeId} {cs:Array Value} (h:aj w g t cs):At w ⟨g,0,none⟩ cs.toList:=fun j u hj=>by
 have e:(⟨g,0,none⟩:Addr).add j=⟨g,j,none⟩:=by unfold Addr.add;split<;>simp_all
 rw[e,h.cell];simpa using hj
structure CW (w:World) (B g:Nat) (v:Value) (bs:List UInt8) (gc:Nat):Prop where
 wr:Wr w B g v bs
 hB:B<=w.heap.size
 blk:aj w gc 87 #[.pointer (some ⟨g,0,none⟩),.pointer none]
 bQ:dA w g v gc
def jk (w:World) (B g:Nat) (v:Value) (bs:List UInt8) (gc:Nat) (more:List UInt8):Ending->World->Prop:=
 fun e w'=>e=.returned (.tuple #[])/\∃v',CW w' B g v' (bs++more) gc/\dh w w' g v v'
theorem CW.step {w w':World} {B g gc:Nat} {v v':Value} {bs bs':List UInt8} (h:CW w B g v bs gc) (hw:Wr w' B g v' bs') (hf:dh w w' g v v'):CW w' B g v' bs' gc:=
 ⟨hw,Nat.le_trans h.hB hf.size,(hf.heap h.bQ).trans h.blk,hf.bQ h.bQ⟩
theorem CW.below {w w':World} {B g gc:Nat} {v:Value} {bs:List UInt8} (h:CW w B g v bs gc) (hb:Below w.heap.size w w'):CW w' B g v bs gc:=
 ⟨h.wr.below hb,Nat.le_trans h.hB hb.size,h.blk.below hb h.bQ.1,⟨Nat.lt_of_lt_of_le h.bQ.1 hb.size,h.bQ.2⟩⟩
theorem dh.eU {w w':World} (g:Nat) (v:Value) (hb:Below w.heap.size w w'):dh w w' g v v:=⟨hb.os,hb.tape,hb.output,hb.size,fun k hk _ _=>hb.block k hk,.inl rfl⟩
theorem CW.lo {w w':World} {B g gc:Nat} {v v':Value} {bs:List UInt8} (h:CW w B g v bs gc) (hf:dh w w' g v v'):Below B w w':=hf.below h.wr
theorem dA.low {w:World} {B g gc b:Nat} {v:Value} {bs:List UInt8} (h:CW w B g v bs gc) (hb:b<B):dA w g v b:=
 ⟨Nat.lt_of_lt_of_le hb h.hB,by have:=h.wr.ge;omega,fun e=>by have:=h.wr.QK b e.symm;omega⟩
def sK {α:Type} (F:Nat) (R:Rel α) (size:Nat) (f:α->List UInt8):Prop:=
 ∀(a:α) (w:World) (B g:Nat) (v:Value) (bs:List UInt8) (gc:Nat) (p:Addr) (cs:List Value),CW w B g v bs gc->dA w g v p.block->cs.length=size->At w p cs->R w B cs a->bs.length+(f a).length+10<=1000000000000->
  Calls Tryz.prog F #[.pointer (some ⟨gc,0,none⟩),.pointer (some p)] w (jk w B g v bs gc (f a))
abbrev Ip:Rel Nat:=Flat (fun a=>[.float .f64 a]) fun a=>a<18446744073709551616
abbrev FB:Rel Bool:=Flat (fun a=>[.bool a]) fun _=>True
abbrev LH:Rel Vl:=Flat Vl.cells Vl.ok
abbrev DR:Rel Sp:=Flat (fun s=>[.int .i64 s.w,.int .i64 s.l,.int .i64 s.n]) Sp.ok
abbrev Iq:Rel Tx:=Flat (fun s=>[.int .i64 s.c,.int .i64 s.l,.int .i64 s.s]) Tx.ok
theorem kG:sK 81 bK 1 encI:=by
 rintro a w B g v bs gc p _ hc hp-hA ⟨rfl,h1,h2⟩ hlen;have n0:=hA.head;have c0:=hc.blk.cell 0;have hD:Below w.heap.size w w.drew:=(aC).drew;have hcd:=hc.below hD;have hI:=rH g a v bs B w.drew hcd.wr hcd.hB h1 h2 byOmega;go_enter Tryz.func81,Tryz.ntmps81;go_wp2;go_still_tail 7,ah;go_wp2_with (refine hI.mono ?_;rintro e w1 ⟨rfl,v1,hw1,hf1⟩)
 go_end0
 have hf2:=(dh.eU g v hD).trans hf1;exact⟨rfl,v1,hc.step hw1 hf2,hf2⟩
theorem Q8:sK 138 FB 1 qF:=by
 rintro a w B g v bs gc p _ hc hp-hA ⟨rfl,-⟩ hlen;have n0:=hA.head;have c0:=hc.blk.cell 0;have hD:Below w.heap.size w w.drew:=(aC).drew;have hcd:=hc.below hD;have hI:=ZV g a v bs B w.drew hcd.wr hcd.hB (by simp[qF]at hlen;omega);go_enter Tryz.func138,Tryz.ntmps138;go_wp2;go_still_tail 7,ah;go_wp2_with (refine hI.mono ?_;rintro e w1 ⟨rfl,v1,hw1,hf1⟩)
 go_end0
 have hf2:=(dh.eU g v hD).trans hf1;exact⟨rfl,v1,hc.step hw1 hf2,hf2⟩
theorem LJ:sK 187 Ip 1 dK:=by
 rintro a w B g v bs gc p _ hc hp-hA ⟨rfl,h1⟩ hlen;have n0:=hA.head;have c0:=hc.blk.cell 0;have hD:Below w.heap.size w w.drew:=(aC).drew;have hcd:=hc.below hD;have hI:=QU g a v bs B w.drew hcd.wr hcd.hB h1 byOmega;go_enter Tryz.func187,Tryz.ntmps187;go_wp2;go_still_tail 7,ah;go_wp2_with (refine hI.mono ?_;rintro e w1 ⟨rfl,v1,hw1,hf1⟩)
 go_end0
 have hf2:=(dh.eU g v hD).trans hf1;exact⟨rfl,v1,hc.step hw1 hf2,hf2⟩
theorem DT:sK 132 aO 1 bn:=by
 rintro a w B g v bs gc p _ hc hp-hA ⟨rfl,h1⟩ hlen;have n0:=hA.head;have c0:=hc.blk.cell 0;have hD:Below w.heap.size w w.drew:=(aC).drew;have hcd:=hc.below hD;have hI:=QV g a v bs B w.drew hcd.wr hcd.hB (by have:a.size<=(bn a).length:=by {have e:a.size=a.data.toList.length:=(Array.length_toList (xs:=a.data)).symm;unfold bn jX;rw[aK];omega};omega);go_enter Tryz.func132,Tryz.ntmps132;go_wp2;go_still_tail 7,ah;go_wp2_with (refine hI.mono ?_;rintro e w1 ⟨rfl,v1,hw1,hf1⟩)
 go_end0
 have hf2:=(dh.eU g v hD).trans hf1;exact⟨rfl,v1,hc.step hw1 hf2,hf2⟩
set_option maxHeartbeats 4000000
theorem LK {a:Vl} (h:a.may=true):a.k=0∨a.k=1∨a.k=2:=by
 by_cases h0:a.k=0
 · exact .inl h0
 by_cases h1:a.k=1
 · exact .inr (.inl h1)
 by_cases h2:a.k=2
 · exact .inr (.inr h2)
 rw[Vl.Ky h0 h1 h2]at h;cases h
theorem Wr.hB' {w:World} {B g:Nat} {v:Value} {bs:List UInt8} (h:Wr w B g v bs):B<=w.heap.size:=by have:=h.ge;have:=h.lt;omega
theorem aaf (a:Vl) (w:World) (B g:Nat) (v:Value) (bs:List UInt8) (hw:Wr w B g v bs) (hB:B<=w.heap.size) (hok:a.ok) (hlen:bs.length+(eY a).length+10<=1000000000000):
 Calls Tryz.prog 194 #[.pointer (some ⟨g,0,none⟩),a.val] w (Fz w B g v bs (eY a)):=by
 have hM:=fun w'=>Du a w'
 have hX:Below w.heap.size w (w.alloc (.cells a.cells.toArray 59)):=aJ;have hBx:B<=w.heap.size+1:=byOmega;cases hm:a.may
 · have he:eY a=encI 0:=(by unfold eY;rw[hm];rfl);rw[he]at hlen ⊢;rw[hm]at hM;clear he hm;have hl0:(encI 0).length=1:=rfl;go_enter Tryz.func194,Tryz.ntmps194;go_wp2_with (first
    |((with_reducible refine(hM _).mono ?_);rintro e w1 ⟨rfl,hb1⟩
      have k1:aj w1 w.heap.size 59 a.cells.toArray:=(aj.new w _ _).below hb1 (aj.new w _ _).lt;have hX1:=hX.trans (hb1.mono hX.size))
    |(refine wpList_store_row rfl 59 _ _ rfl w.heap.size _ rfl rfl _ _ k1 ah ah ah ?_
      have k2:=k1.setRow #[.int .i64 0,.float .f64 0,.string ⟨#[]⟩];have c0:=k2.cell 0;have hX2:=below_setRow hX1 (Nat.le_refl _) #[.int .i64 0,.float .f64 0,.string ⟨#[]⟩]))
   have hw2:=hw.below hX2;have hl0:(encI 0).length=1:=rfl;refine(rH g 0 v bs B _ hw2 (Nat.le_trans hB hX2.size) byOmega byOmega byOmega).mono ?_;rintro e w3 ⟨rfl,v3,hw3,hf3⟩;have ha2:dA (w1.setRow w.heap.size #[.int .i64 0,.float .f64 0,.string ⟨#[]⟩]) g v w.heap.size:=⟨k2.lt,by have:=hw.lt;omega,fun e=>by have:=hw.yU _ e.symm;omega⟩;have k3:aj w3 w.heap.size 59 #[.int .i64 0,.float .f64 0,.string ⟨#[]⟩]:=(hf3.heap ha2).trans k2;have c3:=k3.cell 0;go_wp2
   go_end0
   exact⟨rfl,v3,hw3,(dh.eU g v hX2).trans hf3⟩
 · rcases LK hm with hk|hk|hk
   · have he:eY a=encI 0:=(by unfold eY;rw[hm,hk];rfl);have hk1:(a.k==1)=false:=(by rw[hk];rfl);have hk2:(a.k==2)=false:=(by rw[hk];rfl);rw[he]at hlen ⊢;rw[hm]at hM;have hki:=hok.1;obtain⟨ak,an,at'⟩:=a;change ak=0 at hk;subst hk;clear he hm hk1 hk2;go_enter Tryz.func194,Tryz.ntmps194;go_wp2_with (first
        |((with_reducible refine(hM _).mono ?_);rintro e w1 ⟨rfl,hb1⟩
          have k1:aj w1 w.heap.size 59 (Vl.cells ⟨0,an,at'⟩).toArray:=(aj.new w _ _).below hb1 (aj.new w _ _).lt;have hX1:=hX.trans (hb1.mono hX.size);have c0:=cl (k1.cell 0))
        |fail)
     have hw1:=hw.below hX1;have ha1:dA w1 g v w.heap.size:=⟨k1.lt,by have:=hw.lt;omega,fun e=>by have:=hw.yU _ e.symm;omega⟩;refine(rH g 0 v bs B _ hw1 (Nat.le_trans hB hX1.size) byOmega byOmega byOmega).mono ?_;rintro e w2 ⟨rfl,v2,hw2,hf2⟩;have FC:=(dh.eU g v hX1).trans hf2;have k2:aj w2 w.heap.size 59 (Vl.cells ⟨0,an,at'⟩).toArray:=(hf2.heap ha1).trans k1;have c0':=cl (k2.cell 0);go_wp2
     go_end0
     exact⟨rfl,v2,hw2,FC⟩
   · have he:eY a=encI 1++dK a.n:=(by unfold eY;rw[hm,hk];rfl);have hk1:(a.k==1)=true:=(by rw[hk];rfl);have hk2:(a.k==2)=false:=(by rw[hk];rfl);rw[he]at hlen ⊢;rw[hm]at hM;have hki:=hok.1;obtain⟨ak,an,at'⟩:=a;change ak=1 at hk;subst hk;clear he hm hk1 hk2;go_enter Tryz.func194,Tryz.ntmps194;go_wp2_with (first
        |((with_reducible refine(hM _).mono ?_);rintro e w1 ⟨rfl,hb1⟩
          have k1:aj w1 w.heap.size 59 (Vl.cells ⟨1,an,at'⟩).toArray:=(aj.new w _ _).below hb1 (aj.new w _ _).lt;have hX1:=hX.trans (hb1.mono hX.size);have c0:=cl (k1.cell 0))
        |fail)
     have hw1:=hw.below hX1;have ha1:dA w1 g v w.heap.size:=⟨k1.lt,by have:=hw.lt;omega,fun e=>by have:=hw.yU _ e.symm;omega⟩;refine(rH g 1 v bs B _ hw1 (Nat.le_trans hB hX1.size) byOmega byOmega (by simp only[aK]at hlen;omega)).mono ?_;rintro e w2 ⟨rfl,v2,hw2,hf2⟩;have FC:=(dh.eU g v hX1).trans hf2;have ha2:=hf2.bQ ha1;have k2:aj w2 w.heap.size 59 (Vl.cells ⟨1,an,at'⟩).toArray:=(hf2.heap ha1).trans k1;have c0':=cl (k2.cell 0);have c1':=cl (k2.cell 1);have c2':=cl (k2.cell 2);have hll:(encI (1:Int)).length=1:=rfl;simp only[aK,hll]at hlen;go_wp2_with fail;refine(QU g an v2 _ B _ hw2 hw2.hB' hok.2.1 ay).mono ?_;rintro e w3 ⟨rfl,v3,hw3,hf3⟩;go_wp2
     go_end0
     rw[List.append_assoc]at hw3;exact⟨rfl,v3,hw3,FC.trans hf3⟩
   · have he:eY a=encI 2++bn a.t:=(by unfold eY;rw[hm,hk];rfl);have hk1:(a.k==1)=false:=(by rw[hk];rfl);have hk2:(a.k==2)=true:=(by rw[hk];rfl);rw[he]at hlen ⊢;rw[hm]at hM;have hki:=hok.1;obtain⟨ak,an,at'⟩:=a;change ak=2 at hk;subst hk;clear he hm hk1 hk2;go_enter Tryz.func194,Tryz.ntmps194;go_wp2_with (first
        |((with_reducible refine(hM _).mono ?_);rintro e w1 ⟨rfl,hb1⟩
          have k1:aj w1 w.heap.size 59 (Vl.cells ⟨2,an,at'⟩).toArray:=(aj.new w _ _).below hb1 (aj.new w _ _).lt;have hX1:=hX.trans (hb1.mono hX.size);have c0:=cl (k1.cell 0))
        |fail)
     have hw1:=hw.below hX1;have ha1:dA w1 g v w.heap.size:=⟨k1.lt,by have:=hw.lt;omega,fun e=>by have:=hw.yU _ e.symm;omega⟩;refine(rH g 2 v bs B _ hw1 (Nat.le_trans hB hX1.size) byOmega byOmega (by simp only[aK]at hlen;omega)).mono ?_;rintro e w2 ⟨rfl,v2,hw2,hf2⟩;have FC:=(dh.eU g v hX1).trans hf2;have ha2:=hf2.bQ ha1;have k2:aj w2 w.heap.size 59 (Vl.cells ⟨2,an,at'⟩).toArray:=(hf2.heap ha1).trans k1;have c0':=cl (k2.cell 0);have c1':=cl (k2.cell 1);have c2':=cl (k2.cell 2);have hll:(encI (2:Int)).length=1:=rfl;simp only[aK,hll]at hlen;go_wp2_with fail;refine(QV g at' v2 _ B _ hw2 hw2.hB' (by simp;have e:at'.size=at'.data.toList.length:=(Array.length_toList (xs:=at'.data)).symm;have:at'.size<=(bn at').length:=by {unfold bn jX;rw[aK];omega};omega)).mono ?_;rintro e w3 ⟨rfl,v3,hw3,hf3⟩;go_wp2
     go_end0
     rw[List.append_assoc]at hw3;exact⟨rfl,v3,hw3,FC.trans hf3⟩
theorem Ir:sK 146 LH 3 eY:=by
 rintro a w B g v bs gc p _ hc hp-hA ⟨rfl,hok⟩ hlen;have n0:w.cell? p=some (.int .i64 a.k):=hA 0 _ rfl;have n1:w.cell? ⟨p.block,p.off+1,none⟩=some (.float .f64 a.n):=hA 1 _ rfl;have n2:w.cell? ⟨p.block,p.off+2,none⟩=some (.string a.t):=hA 2 _ rfl;have c0:=hc.blk.cell 0;have hD:Below w.heap.size w w.drew:=(aC).drew;have hcd:=hc.below hD;have hI:=aaf a w.drew B g v bs hcd.wr hcd.hB hok hlen;go_enter Tryz.func146,Tryz.ntmps146;go_wp2;go_still_tail 7,ah;go_wp2_with (refine hI.mono ?_;rintro e w1 ⟨rfl,v1,hw1,hf1⟩)
 go_end0
 have hf2:=(dh.eU g v hD).trans hf1;exact⟨rfl,v1,hc.step hw1 hf2,hf2⟩
theorem uP:sK 84 DR 3 aU:=by
 rintro a w B g v bs gc p _ hc hp-hA ⟨rfl,h1,h2,h3⟩ hlen;have A0:At w p (sF a.w):=hA.sub (a:=[]);have A1:At w ⟨p.block,p.off+1,none⟩ (sF a.l):=hA.sub (a:=[_]) (b:=[_]) (c:=[_]);have A2:At w ⟨p.block,p.off+2,none⟩ (sF a.n):=hA.sub (a:=[_,_]) (b:=[_]) (c:=[]);have hl:(aU a).length=(encI a.w).length+((encI a.l).length+(encI a.n).length):=by unfold aU;simp
 go_enter Tryz.func84,Tryz.ntmps84;go_wp2_with fail;refine(kG a.w w B g v bs gc p _ hc hp rfl A0 ⟨rfl,h1⟩ byOmega).mono ?_;rintro e w1 ⟨rfl,v1,hc1,hf1⟩;have hp1:=hf1.bQ hp;have uQ:=hf1.at_ (p:=⟨p.block,p.off+1,none⟩) hp A1;have pz:=hf1.at_ (p:=⟨p.block,p.off+2,none⟩) hp A2;go_wp2_with fail;refine(kG a.l w1 B g v1 _ gc ⟨p.block,p.off+1,none⟩ _ hc1 hp1 rfl uQ ⟨rfl,h2⟩ (by rw[aK];omega)).mono ?_;rintro e w2 ⟨rfl,v2,hc2,hf2⟩;have hp2:=hf2.bQ hp1;have LM:=hf2.at_ (p:=⟨p.block,p.off+2,none⟩) hp1 pz;go_wp2_with fail;refine(kG a.n w2 B g v2 _ gc ⟨p.block,p.off+2,none⟩ _ hc2 hp2 rfl LM ⟨rfl,h3⟩ (by rw[aK,aK];omega)).mono ?_;rintro e w3 ⟨rfl,v3,hc3,hf3⟩;go_wp2
 go_end0
 refine⟨rfl,v3,?_,(hf1.trans hf2).trans hf3⟩;unfold aU;simpa only[List.append_assoc] using hc3
theorem Bz:sK 82 Iq 3 eP:=by
 rintro a w B g v bs gc p _ hc hp-hA ⟨rfl,h1,h2,h3⟩ hlen;have A0:At w p (sF a.c):=hA.sub (a:=[]);have A1:At w ⟨p.block,p.off+1,none⟩ (sF a.l):=hA.sub (a:=[_]) (b:=[_]) (c:=[_]);have A2:At w ⟨p.block,p.off+2,none⟩ (sF a.s):=hA.sub (a:=[_,_]) (b:=[_]) (c:=[]);have hl:(eP a).length=(encI a.c).length+((encI a.l).length+(encI a.s).length):=by unfold eP;simp
 go_enter Tryz.func82,Tryz.ntmps82;go_wp2_with fail;refine(kG a.c w B g v bs gc p _ hc hp rfl A0 ⟨rfl,h1⟩ byOmega).mono ?_;rintro e w1 ⟨rfl,v1,hc1,hf1⟩;have hp1:=hf1.bQ hp;have uQ:=hf1.at_ (p:=⟨p.block,p.off+1,none⟩) hp A1;have pz:=hf1.at_ (p:=⟨p.block,p.off+2,none⟩) hp A2;go_wp2_with fail;refine(kG a.l w1 B g v1 _ gc ⟨p.block,p.off+1,none⟩ _ hc1 hp1 rfl uQ ⟨rfl,h2⟩ (by rw[aK];omega)).mono ?_;rintro e w2 ⟨rfl,v2,hc2,hf2⟩;have hp2:=hf2.bQ hp1;have LM:=hf2.at_ (p:=⟨p.block,p.off+2,none⟩) hp1 pz;go_wp2_with fail;refine(kG a.s w2 B g v2 _ gc ⟨p.block,p.off+2,none⟩ _ hc2 hp2 rfl LM ⟨rfl,h3⟩ (by rw[aK,aK];omega)).mono ?_;rintro e w3 ⟨rfl,v3,hc3,hf3⟩;go_wp2
 go_end0
 refine⟨rfl,v3,?_,(hf1.trans hf2).trans hf3⟩;unfold eP;simpa only[List.append_assoc] using hc3
end Go.Proofs.YtcalkfgibflbnaaGreat
namespace Go.Proofs.YtcalkfgibflbnaaGreat
open Go.RowKit Fl
abbrev Rd.cells (A:Option Addr) (n c:Nat) (s:RS):Array Value:=#[.slice A n c,.int .i64 s.at_,.int .i64 s.e,.int .i64 s.p]
structure Rd (t:TypeId) (w:World) (g:Nat) (A:Option Addr) (n c:Nat) (l:List UInt8) (s:RS):Prop where
 blk:aj w g t (Rd.cells A n c s)
 reads:Reads w w.heap.size 1 A n (bytesV l)
 len:l.length=n
 small:n<=1000000000000
 apart:∀ad,A=some ad->0<n->ad.block≠g
 nU:s.at_<=n
 nc:n<=c
 cm:c<=maxLen
def qI (t:TypeId) (w:World) (g:Nat) (A:Option Addr) (n c:Nat) (l:List UInt8) (v:Value) (s':RS):Ending->World->Prop:=
 fun e w'=>e=.returned v/\Rd t w' g A n c l s'/\w.grownBy w' (some g)
section
variable {t:TypeId} {w w':World} {g:Nat} {A:Option Addr} {n c:Nat} {l:List UInt8} {s s':RS}
theorem Rd.turn (h:Rd t w g A n c l s) (hb:aj w' g t (Rd.cells A n c s')) (hg:w.grownBy w' (some g)) (ha:s'.at_<=n):Rd t w' g A n c l s' where
 blk:=hb
 reads:=⟨h.reads.1,fun hn=>by
  obtain⟨ad,e,hlt,hc⟩:=h.reads.2 hn;have hne:=h.apart ad e hn;refine⟨ad,e,Nat.lt_of_lt_of_le hlt hg.size,fun j u hu=>?_⟩;rw[World.cell?_of_block (w:=w) (w':=w') (hg.block _ (by rw[iW];exact hlt) (by rw[iW];intro e;exact hne (by injection e)))];exact hc j u hu⟩
 len:=h.len
 small:=h.small
 apart:=h.apart
 nU:=ha
 nc:=h.nc
 cm:=h.cm
theorem Rd.below (h:Rd t w g A n c l s) (hb:Below w.heap.size w w'):Rd t w' g A n c l s where
 blk:=h.blk.below hb h.blk.lt
 reads:=(h.reads.below hb).more hb.size
 len:=h.len
 small:=h.small
 apart:=h.apart
 nU:=h.nU
 nc:=h.nc
 cm:=h.cm
theorem Rd.far (h:Rd t w g A n c l s) {k:Nat} (hg:w.grownBy w' (some k)) (hk:g≠k) (ha:∀ad,A=some ad->0<n->ad.block≠k):Rd t w' g A n c l s where
 blk:=h.blk.grown hg (by intro e;exact hk (by injection e))
 reads:=⟨h.reads.1,fun hn=>by
  obtain⟨ad,e,hlt,hc⟩:=h.reads.2 hn;have hne:=ha ad e hn;refine⟨ad,e,Nat.lt_of_lt_of_le hlt hg.size,fun j u hu=>?_⟩;rw[World.cell?_of_block (w:=w) (w':=w') (hg.block _ (by rw[iW];exact hlt) (by rw[iW];intro e;exact hne (by injection e)))];exact hc j u hu⟩
 len:=h.len
 small:=h.small
 apart:=h.apart
 nU:=h.nU
 nc:=h.nc
 cm:=h.cm
theorem Rd.cell (h:Rd t w g A n c l s) {k:Nat} (hk:k<n):∃ad u,A=some ad/\ad.block<w.heap.size/\l[k]?=some u/\w.cell? (ad.add k)=some (.int .u8 u.toNat):=by
 obtain⟨ad,u,e,hb,hx,hc⟩:=h.reads.at_ hk;have hl:=h.len;have hu:l[k]?=some l[k]:=List.getElem?_eq_getElem byOmega;rw[List.getElem?_map,hu]at hx;obtain rfl:=Option.some.inj hx;exact⟨ad,_,e,hb,hu,hc⟩
theorem jJ (w:World) (g i:Nat) (u:Value):w.grownBy (w.setCell ⟨g,i,none⟩ u) (some g):=
 ⟨rfl,rfl,rfl,by simp[World.setCell],fun k _ h=>Below.heap_setCell _ _ _ _ (fun e=>h (by rw[e]))⟩
theorem Rd.moved (h:Rd t w g A n c l s) {k:Nat} (hk:k<=n):Rd t (w.setCell ⟨g,1,none⟩ (.int .i64 (k:Int))) g A n c l ⟨k,s.e,s.p⟩:=
 h.turn (by have:=h.blk.fB 1 (.int .i64 (k:Int));exact this) (jJ _ _ _ _) hk
theorem Rd.aag (h:Rd t w g A n c l s) (e:Int) (q:Nat):Rd t ((w.setCell ⟨g,2,none⟩ (.int .i64 e)).setCell ⟨g,3,none⟩ (.int .i64 (q:Int))) g A n c l ⟨s.at_,e,q⟩:=
 h.turn (by have:=(h.blk.fB 2 (.int .i64 e)).fB 3 (.int .i64 (q:Int));exact this) ((jJ _ _ _ _).trans (jJ _ _ _ _)) h.nU
end
set_option maxHeartbeats 4000000 in
theorem xX (g:Nat) (A:Option Addr) (n c:Nat) (l:List UInt8) (s:RS) (e:Int) (q:Nat) (w:World) (h:Rd 153 w g A n c l s):
 Calls Tryz.prog 218 #[.pointer (some ⟨g,0,none⟩),.int .i64 e,.int .i64 (q:Int)] w (qI 153 w g A n c l (.tuple #[]) (fD s e q)):=by
 obtain⟨hgl,c0,c1,c2,c3,f0,f1,f2,f3⟩:=h.blk.four;by_cases h1:s.e=0
 · by_cases h2:e=0
   · have hs:fD s e q=s:=(by unfold fD;rw[if_neg (by intro h;exact h.2 h2)]);have hb1:(s.e==0)=true:=(by simp[h1]);have hb2:(e==0)=true:=(by simp[h2]);go_enter Tryz.func218,Tryz.ntmps218;go_wp2
     go_end0
     rw[hs];exact⟨rfl,h,World.grownBy.refl _ _⟩
   · have hs:fD s e q=⟨s.at_,e,q⟩:=(by unfold fD;rw[if_pos ⟨h1,h2⟩]);have hb1:(s.e==0)=true:=(by simp[h1]);have hb2:(e==0)=false:=(by simp[h2]);go_enter Tryz.func218,Tryz.ntmps218;go_wp2
     go_end0
     rw[hs];exact⟨rfl,h.aag e q,(jJ _ _ _ _).trans (jJ _ _ _ _)⟩
 · have hs:fD s e q=s:=(by unfold fD;rw[if_neg (by intro h;exact h1 h.1)]);have hb1:(s.e==0)=false:=(by simp[h1]);go_enter Tryz.func218,Tryz.ntmps218;go_wp2
   go_end0
   rw[hs];exact⟨rfl,h,World.grownBy.refl _ _⟩
theorem aah (pre:List UInt8) (c:UInt8):over (pre++[c])=(over pre||decide (9<pre.length)||(decide (pre.length=9)&&decide (1<c.toNat%128))):=by
 have hv:=Ls pre c;have hlt:=QX pre;have hm:c.toNat%128<128:=Nat.mod_lt _ byOmega;unfold over;rw[hv,aK,List.length_singleton];generalize val pre=v at*;generalize c.toNat%128=m at*;by_cases h9:9<pre.length
 · simp[h9];omega
 · by_cases h:pre.length=9
   · have h4:decide (9<pre.length)=false:=ay;have h5:decide (pre.length=9)=true:=(by simp[h]);have h6:decide (10<pre.length)=false:=ay;have h7:decide (10<pre.length+1)=false:=ay;have e:(128:Nat)^9=9223372036854775808:=(by decide);rw[h4,h5,h6,h7];rw[h,e]at hlt ⊢;rw[Bool.eq_iff_iff];simp only[Bool.or_eq_true,decide_eq_true_eq,Bool.false_or,Bool.or_false,Bool.true_and];omega
   · have h8:pre.length+1<=9:=byOmega;have e1:(128:Nat)^(pre.length+1)<=128^9:=Nat.pow_le_pow_right byOmega h8;have e:(128:Nat)^9=9223372036854775808:=(by decide);rw[e,Nat.pow_succ]at e1;have h3:128^pre.length*m+128^pre.length<=128^pre.length*128:=by
        rw[<-Nat.mul_succ];exact Nat.mul_le_mul_left _ hm
     have h4:decide (9<pre.length)=false:=ay;have h5:decide (pre.length=9)=false:=ay;rw[h4,h5];rw[Bool.eq_iff_iff];simp only[Bool.or_eq_true,decide_eq_true_eq,Bool.false_and,Bool.or_false];omega
theorem Q9 {pre:List UInt8} (h:over pre=false):val pre<18446744073709551616/\pre.length<=10:=by
 unfold over at h;simp only[Bool.or_eq_false_iff,decide_eq_false_iff_not]at h;omega
theorem aai {l:List UInt8} {a j:Nat} {pre:List UInt8} {x:UInt8} (h:(l.drop a).take j=pre) (hb:∀c∈pre,128<=c.toNat) (hx:l[a+j]?=some x) (hs:x.toNat<128):grp (l.drop a)=some (pre++[x]):=by
 have e:l.drop a=pre++x::(l.drop (a+j+1)):=by
  have h1:l.drop a=(l.drop a).take j++(l.drop a).drop j:=(List.take_append_drop j _).symm;have hlt:=(List.getElem?_eq_some_iff.1 hx).1;have h2:(l.drop a).drop j=x::l.drop (a+j+1):=by
   rw[List.drop_drop,List.drop_eq_getElem_cons hlt,(List.getElem?_eq_some_iff.1 hx).2]
  rw[h1,h2,h]
 rw[e];clear e h hx
 induction pre with
 |nil=>show (if _ then _ else _)=_;rw[if_pos hs];rfl
 |cons d t ih=>
  show (if _ then _ else _)=_;rw[if_neg (by have:=hb d aA;omega)];show Option.map _ (grp (t++_))=_;rw[ih (fun c hc=>hb c (by simp[hc]))];rfl
theorem aaj (pre:List UInt8) (x:UInt8) (j:Nat) (hj:pre.length=j) (ho:over (pre++[x])=false):
 bits .or .u64 ((val pre:Nat):Int) (IntKind.u64.wrap ((x.toNat:Int)%128*2^(7*j)))=((val (pre++[x]):Nat):Int):=by
 have hV:=(Q9 ho).1;have hv:=Ls pre x;have hlt:=QX pre;have e:(128:Nat)^j=2^(7*j):=by rw[Nat.pow_mul]
 rw[hj,e]at hv hlt;have e1:IntKind.u64.wrap ((x.toNat:Int)%128*2^(7*j))=((2^(7*j)*(x.toNat%128):Nat):Int):=by
  rw[IntKind.wrap_u64];have:((x.toNat:Int)%128*2^(7*j))=((2^(7*j)*(x.toNat%128):Nat):Int):=by
   push_cast;exact Int.mul_comm _ _
  rw[this];omega
 rw[e1,Go.u64_or_nat _ _ byOmega byOmega,hv]
 congr 1
 rw[Nat.or_comm,Go.nat_join (7*j) _ _ aA hlt,Nat.add_comm]
theorem aak (m:Nat) (h:m<9223372036854775808):bits .xor .i64 (-1) (m:Int)= -(m:Int)-1:=by
 have h2:(BitVec.ofInt 64 (m:Int)).toNat=m:=by
  rw[BitVec.ofInt_natCast,BitVec.toNat_ofNat];exact Nat.mod_eq_of_lt byOmega
 have h1:BitVec.ofInt 64 (-1)=BitVec.allOnes 64:=by decide
 show IntKind.i64.wrap ((BitVec.ofInt 64 (-1)^^^BitVec.ofInt 64 (m:Int)).toNat:Int)=_;rw[h1,BitVec.allOnes_xor,BitVec.toNat_not,h2];simp only[IntKind.wrap,IntKind.bits,IntKind.signed];simp;omega
def aal (l:List UInt8) (a n:Nat) (w:World) (u o i:Value) (wr:World):Prop:=
 ∃(k u0:Nat),w=wr/\a<=k/\k<=n/\i=.int .i64 (k:Int)/\o=.bool (over ((l.drop a).take (k-a)))/\u=.int .u64 (u0:Int)/\u0<18446744073709551616/\
  (over ((l.drop a).take (k-a))=false->u0=val ((l.drop a).take (k-a)))/\∀c∈(l.drop a).take (k-a),128<=c.toNat
def yX (w:World) (g:Nat) (A:Option Addr) (n c:Nat) (l:List UInt8) (s:RS) (a:Nat):Ending->World->Prop:=fun e w'=>
 match dec l a with
 | .short=>qI 153 w g A n c l (.tuple #[.int .i64 0,.int .i64 (a:Int),.bool false]) (fD s 5 l.length) e w'
 | .form=>qI 153 w g A n c l (.tuple #[.int .i64 0,.int .i64 (a:Int),.bool false]) (fD s 4 a) e w'
 | .ok k next=>qI 153 w g A n c l (.tuple #[.int .i64 k,.int .i64 (next:Int),.bool true]) s e w'
theorem aam (c:UInt8):bits .and .u8 (c.toNat:Int) 127=((c.toNat%128:Nat):Int):=by
 rw[show (127:Int)=((127:Nat):Int) from rfl,Go.u8_and_nat _ _ c.toNat_lt byOmega,Go.nat_mask7]
set_option maxRecDepth 100000 in
set_option maxHeartbeats 8000000 in
theorem LP (g:Nat) (A:Option Addr) (n c:Nat) (l:List UInt8) (s:RS) (a:Nat) (w:World) (hR:Rd 153 w g A n c l s) (ha:a<=n):
 Calls Tryz.prog 184 #[.pointer (some ⟨g,0,none⟩),.int .i64 (a:Int)] w (yX w g A n c l s a):=by
 obtain⟨hgl,c0,c1,c2,c3,f0,f1,f2,f3⟩:=hR.blk.four;have hsm:=hR.small;have hlen:=hR.len;go_enter Tryz.func184,Tryz.ntmps184;go_wp2
 go_loopw [7,8,9] (fun u o i wr=>aal l a n w u o i wr) (fun _ _ i _=>n-(intOf i).toNat)
 case atStart=>exact⟨a,0,rfl,byOmega,ha,rfl,by simp[over,val],rfl,byOmega,by simp[val],aA⟩
 case round=>
  obtain⟨k,u0,rfl,hak,hkn,rfl,rfl,rfl,hu0,hval,hbig⟩:=hrel;by_cases hlt:k<n
  · obtain⟨ad,x,rfl,Rf,hx,hcell⟩:=hR.cell hlt;have hxl:=x.toNat_lt;have hand:=aam x;generalize hpre:(l.drop a).take (k-a)=pre at*;have hpl:pre.length=k-a:=(by rw[<-hpre,List.length_take,List.length_drop];omega);have hnext:(l.drop a).take (k+1-a)=pre++[x]:=by
        rw[show k+1-a=(k-a)+1 from byOmega,List.take_add_one,List.getElem?_drop,show a+(k-a)=k from byOmega,hx,hpre];rfl
    have hov:=aah pre x;have LQ:¬128<=x.toNat->grp (l.drop a)=some (pre++[x]):=fun hx2=>aai hpre hbig (by rw[show a+(k-a)=k from byOmega];exact hx) byOmega
    have hform:¬128<=x.toNat->good (pre++[x])=false->dec l a=.form:=fun hx2 hg=>by unfold dec;rw[LQ hx2];simp only;rw[if_neg (by rw[hg];decide)]
    have hok:¬128<=x.toNat->good (pre++[x])=true->dec l a=.ok (uN (val (pre++[x]))) (k+1):=fun hx2 hg=>by
        unfold dec;rw[LQ hx2];simp only;rw[if_pos hg,aK,List.length_singleton,hpl];congr 1;omega
    have hb1:decide ((k:Int)<(n:Int))=true:=ay;have hcase:(over (pre++[x])=true/\(over pre=true∨(over pre=false/\decide ((9:Int)<(k:Int)-(a:Int))=true)∨(over pre=false/\decide ((9:Int)<(k:Int)-(a:Int))=false/\((k:Int)-(a:Int)==9)=true/\decide ((1:Int)<(x.toNat:Int)%128)=true)))∨
     (over (pre++[x])=false/\over pre=false/\pre.length<=9/\((decide ((9:Int)<(k:Int)-(a:Int))=false/\((k:Int)-(a:Int)==9)=true/\decide ((1:Int)<(x.toNat:Int)%128)=false)∨(decide ((9:Int)<(k:Int)-(a:Int))=false/\((k:Int)-(a:Int)==9)=false))):=by
        rw[hov];cases ho:over pre
        · by_cases h9:9<pre.length
          · left
            refine⟨by simp[h9],.inr (.inl ⟨rfl,?_⟩)⟩;simp;omega
          · by_cases h8:pre.length=9
            · by_cases h7:1<x.toNat%128
              · left
                refine⟨by simp[h8];omega,.inr (.inr ⟨rfl,?_,?_,?_⟩)⟩
                · simp;omega
                · simp;omega
                · simp;omega
              · right
                refine⟨by simp[h8];omega,rfl,byOmega,.inl ⟨?_,?_,?_⟩⟩
                · simp;omega
                · simp;omega
                · simp;omega
            · right
              refine⟨by simp[h8];omega,rfl,byOmega,.inr ⟨?_,?_⟩⟩
              · simp;omega
              · simp;omega
        · left
          exact⟨aA,.inl rfl⟩
    clear hov;rcases hcase with ⟨hov,hcs⟩|⟨hov,ho,hp9,hcs⟩
    · have aan:¬128<=x.toNat->dec l a=.form:=fun hc=>hform hc (by unfold good;rw[hov];rfl)
      clear hform hok LQ hval;by_cases hc:128<=x.toNat
      · rcases hcs with ho|⟨ho,h9⟩|⟨ho,h9,h8,h7⟩
        all_goals (
         go_wp2;go_roundw
         case rel=>
           refine⟨k+1,u0,rfl,byOmega,byOmega,by go_num,by rw[hnext,hov],rfl,hu0,?_,?_⟩
           · rw[hnext,hov];intro h;cases h
           · rw[hnext];intro d hd;rcases List.mem_append.1 hd with hd|hd
             · exact hbig d hd
             · obtain rfl:=List.mem_singleton.1 hd;exact hc
         case measure=>simp[intOf];omega)
      · have hd:=aan hc;rcases hcs with ho|⟨ho,h9⟩|⟨ho,h9,h8,h7⟩
        all_goals (
         go_wp2_with ((with_reducible refine(xX g _ n c l s _ _ _ hR).mono ?_);rintro e w1 ⟨rfl,hr1,hg1⟩)
         go_ret3
         unfold yX;rw[hd];exact⟨rfl,hr1,hg1⟩)
    · obtain rfl:u0=val pre:=hval ho;have hor:bits .or .u64 ((val pre:Nat):Int) (IntKind.u64.wrap ((x.toNat:Int)%128*2^(7*(k-a))))=((val (pre++[x]):Nat):Int):=aaj pre x (k-a) hpl hov;have hV:=(Q9 hov).1;by_cases hc:128<=x.toNat
      · rcases hcs with ⟨h9,h8,h7⟩|⟨h9,h8⟩;all_goals (
         go_wp2;go_roundw
         case rel=>
           refine⟨k+1,val (pre++[x]),rfl,byOmega,byOmega,by go_num,by rw[hnext,hov],?_,hV,?_,?_⟩
           · rfl
           · intro _;rw[hnext]
           · rw[hnext];intro d hd;rcases List.mem_append.1 hd with hd|hd
             · exact hbig d hd
             · obtain rfl:=List.mem_singleton.1 hd;exact hc
         case measure=>simp[intOf];omega)
      · by_cases hx0:x.toNat=0/\0<pre.length
        · have hd:dec l a=.form:=hform hc (by
           unfold good;have:x=0:=UInt8.toNat_inj.1 (by rw[hx0.1];rfl);rw[hov,this];simp;exact fun e=>by have:=hx0.2;rw[e]at this;simp at this)
          have hz1:((x.toNat:Int)==0)=true:=ay;have hz2:decide ((0:Int)<(k:Int)-(a:Int))=true:=ay;rcases hcs with ⟨h9,h8,h7⟩|⟨h9,h8⟩;all_goals (
           go_wp2_with ((with_reducible refine(xX g _ n c l s _ _ _ hR).mono ?_);rintro e w1 ⟨rfl,hr1,hg1⟩);all_goals (
                go_ret3
                unfold yX;rw[hd];exact⟨rfl,hr1,hg1⟩))
        · have hd:=hok hc (by
           unfold good;rw[hov];simp;by_cases hp:pre=[]
           · exact .inl hp
           · right
             intro e;refine hx0 ⟨by rw[e];rfl,?_⟩;exact List.length_pos_iff.2 hp)
          have hz:((x.toNat:Int)==0)=false∨(((x.toNat:Int)==0)=true/\decide (a<k)=false):=by
           by_cases h0:x.toNat=0
           · right
             have:¬0<pre.length:=fun e=>hx0 ⟨h0,e⟩
             exact⟨by simp;omega,by simp;omega⟩
           · left;simp;omega
          generalize hVV:val (pre++[x])=V at*;have hs1:wrap64 ((V:Int)/2)=(V:Int)/2:=(by unfold wrap64;omega);have hs2:bits .and .u64 (V:Int) 1=(V:Int)%2:=by
           rw[show (1:Int)=((1:Nat):Int) from rfl,Go.u64_and_nat _ _ hV byOmega,Go.nat_mask1];rfl
          have hs3:bits .xor .i64 (-1) ((V:Int)/2)= -((V:Int)/2)-1:=by
           rw[show (V:Int)/2=((V/2:Nat):Int) from byOmega,aak _ byOmega]
          by_cases hodd:V%2=0
          · have hs4:((V:Int)%2==1)=false:=ay;have LU:uN V=(V:Int)/2:=(by unfold uN;rw[if_pos hodd];omega);rcases hz with hz1|⟨hz1,hz2⟩<;>rcases hcs with ⟨h9,h8,h7⟩|⟨h9,h8⟩
            all_goals (
                go_wp2;all_goals (
                 go_ret3
                 unfold yX;rw[hd,LU];exact⟨rfl,hR,World.grownBy.refl _ _⟩))
          · have hs4:((V:Int)%2==1)=true:=ay;have LU:uN V= -((V:Int)/2)-1:=(by unfold uN;rw[if_neg hodd];omega);rcases hz with hz1|⟨hz1,hz2⟩<;>rcases hcs with ⟨h9,h8,h7⟩|⟨h9,h8⟩
            all_goals (
                go_wp2;all_goals (
                 go_ret3
                 unfold yX;rw[hd,LU];exact⟨rfl,hR,World.grownBy.refl _ _⟩))
  · obtain rfl:k=n:=byOmega;have hb1:decide ((k:Int)<(k:Int))=false:=aA;have hd:dec l a=.short:=by
        unfold dec;rw[(ZX _).2 (by
         intro c hc;refine hbig c ?_;rw[List.take_of_length_le (by rw[List.length_drop];omega)];exact hc)]
    go_wp2_with ((with_reducible refine(xX g _ k c l s _ _ _ hR).mono ?_);rintro e w1 ⟨rfl,hr1,hg1⟩)
    go_ret3
    unfold yX;rw[hd,hlen];exact⟨rfl,hr1,hg1⟩
theorem Iu (s:RS) (e:Int) (q:Nat):(fD s e q).at_=s.at_:=by unfold fD;split<;>rfl
section
variable {P:Program} (w:World)
theorem DU (src dst e:TypeId) (hs:P.underlying src=some (.slice e)) (he:P.underlying e=some (.int .u8)) (hd:P.underlying dst=some .string)
 {B:Nat} {A:Option Addr} {n c:Nat} {bs:List UInt8} (hr:Reads w B 1 A n (bytesV bs)):(convert src dst (.slice A n c)).run P w=.ok (.string ⟨bs.toArray⟩) w:=by
 have hn:bs.length=n:=by have:=hr.1;simpa using this
 rcases A with _|ad
 · have h0:n=0:=by
    rcases Nat.eq_zero_or_pos n with h0|h0
    · exact h0
    · obtain⟨ad,h,_⟩:=hr.2 h0;cases h
   obtain rfl:bs=[]:=List.eq_nil_of_length_eq_zero byOmega;rw[run_convert_bytes_nil w src e hs he n c dst hd];rfl
 · have hcell:∀j u,(bytesV bs)[j]?=some u->w.cell? (ad.add j)=some u:=by
    intro j u hu;have:0<n:=by
        have:=(List.getElem?_eq_some_iff.1 hu).1;simp at this;omega
    obtain⟨ad',e,_,hc⟩:=hr.2 this;obtain rfl:ad=ad':=Option.some.inj e;exact hc j u hu
   have hl:=run_loadCells_list (P:=P) w ad (bytesV bs) hcell;rw[ZO,hn]at hl;have e2:bytesV bs=(bs.map fun x=>(x.toNat:Int)).map (Value.int .u8):=aA;rw[e2]at hl;rw[run_convert_bytes_string w src dst e _ n c hs he hd,run_bytesToString w ad n c _ hl,foldl_push_bytes]
   congr 2
   apply ByteArray.ext;show (#[]:Array UInt8)++_=_;rw[Array.empty_append,List.map_map]
   congr 1
   conv=>rhs;rw[<-List.map_id bs]
   apply List.map_congr_left;intro x _;simp
theorem aao (t e:TypeId) (ht:P.underlying t=some (.slice e)) (hz:∀w,(Go.sizeOf e).run P w=.ok 1 w)
 {B:Nat} {A:Option Addr} {n c:Nat} {xs:List Value} (hr:Reads w B 1 A n xs) (hnc:n<=c) (l h:Nat) (h1:l<=h) (h2:h<=n):
 ∃A',(∀w':World,(Instr.slice t (.slice A n c) (some (.int .i64 (l:Int))) (some (.int .i64 (h:Int))) none).run P w'=.ok (.slice A' (h-l) (c-l)) w')/\Reads w B 1 A' (h-l) ((xs.drop l).take (h-l)):=by
 have he:P.elem t=e:=by simp[Program.elem,ht]
 have ht':P.underlying t=some (.slice (P.elem t)):=by rw[he];exact ht
 refine⟨if c=l then A else A.map (·.add (l*1)),fun w'=>?_,?_⟩
 · rw[run_slice_lh w' t A n c ht' .i64 .i64 _ _ byOmega byOmega byOmega,he,hz];simp[Result.andThen,sliced]
 · have hc:=hr.cut (k:=l) (cap:=c) byOmega hnc;refine⟨by rw[List.length_take,List.length_drop,hr.1];omega,fun hn=>?_⟩;obtain⟨ad,e3,hb,hcell⟩:=hc.2 byOmega;refine⟨ad,e3,hb,fun j u hu=>hcell j u ?_⟩;rw[Nat.mul_one];rw[List.getElem?_take]at hu;split at hu
   · exact hu
   · cases hu
end
theorem aap (bs:List UInt8) (k m:Nat):((bytesV bs).drop k).take m=bytesV ((bs.drop k).take m):=by simp[List.map_drop,List.map_take]
theorem aaq:∀w,(Go.sizeOf 5).run Tryz.prog w=.ok 1 w:=fun w=>by kernel_rfl
section
variable {t:TypeId} {w w':World} {g:Nat} {A:Option Addr} {n c:Nat} {l:List UInt8} {s s':RS}
theorem Rd.drewN (h:Rd t w g A n c l s) (k:Nat):Rd t (w.drewN k) g A n c l s:=⟨h.blk,h.reads,h.len,h.small,h.apart,h.nU,h.nc,h.cm⟩
theorem grown_drewN {r:Option Nat} (h:w.grownBy w' r) (k:Nat):w.grownBy (w'.drewN k) r:=⟨h.os,h.tape,h.output,h.size,h.block⟩
end
def cnt (l:List UInt8) (s:RS) (most e:Int):Option (Int×Nat)×RS:=
 match dec l s.at_ with
 | .short=>(none,fD s 5 l.length)
 | .form=>(none,fD s 4 s.at_)
 | .ok n next=>if n<0 then (none,fD s 4 s.at_) else if most<n then (none,fD s e s.at_) else (some (n,next),s)
theorem Rh (l:List UInt8) (s:RS) (most e:Int) (h:s.e=0):aX l s most e=match cnt l s most e with|(none,s')=>(0,s')|(some (n,next),_)=>(n,⟨next,s.e,s.p⟩):=by
 unfold aX cnt;rw[if_neg (by simp[h])];cases dec l s.at_ with
 |short=>rfl
 |form=>rfl
 |ok n next=>
  simp only;by_cases h1:n<0
  · rw[if_pos h1,if_pos h1]
  · rw[if_neg h1,if_neg h1];by_cases h2:most<n
    · rw[if_pos h2,if_pos h2]
    · rw[if_neg h2,if_neg h2]
theorem aar (l:List UInt8) (s:RS) (most:Int) (h:s.e=0):dZ l s most=match cnt l s most 2 with|(none,s')=>([],s')|(some (n,next),_)=>if (l.length:Int)-next<n then ([],fD s 5 l.length) else ((l.drop next).take n.toNat,⟨next+n.toNat,s.e,s.p⟩):=by
 unfold dZ cnt;rw[if_neg (by simp[h])];cases dec l s.at_ with
 |short=>rfl
 |form=>rfl
 |ok n next=>
  simp only;by_cases h1:n<0
  · rw[if_pos h1,if_pos h1]
  · rw[if_neg h1,if_neg h1];by_cases h2:most<n
    · rw[if_pos h2,if_pos h2]
    · rw[if_neg h2,if_neg h2]
theorem Iw {l:List UInt8} {s s':RS} {most e n:Int} {next:Nat} (h:cnt l s most e=(some (n,next),s')):s'=s/\0<=n/\n<=most/\dec l s.at_=.ok n next:=by
 unfold cnt at h;cases hd:dec l s.at_ with
 |short=>rw[hd]at h;simp at h
 |form=>rw[hd]at h;simp at h
 |ok m q=>
  rw[hd]at h;simp only at h;by_cases h1:m<0
  · rw[if_pos h1]at h;simp at h
  · rw[if_neg h1]at h;by_cases h2:most<m
    · rw[if_pos h2]at h;simp at h
    · rw[if_neg h2]at h;simp only[Prod.mk.injEq,Option.some.injEq]at h;obtain⟨⟨rfl,rfl⟩,rfl⟩:=h;exact⟨rfl,byOmega,byOmega,rfl⟩
set_option maxHeartbeats 4000000
set_option maxRecDepth 100000
section
variable {w:World} {g a:Nat} {A:Option Addr} {n c:Nat} {l:List UInt8} {s:RS}
theorem Ri (hR:Rd 153 w g A n c l s) (hd:dec l s.at_=.short):
 Calls Tryz.prog 184 #[.pointer (some ⟨g,0,none⟩),.int .i64 (s.at_:Int)] w (qI 153 w g A n c l (.tuple #[.int .i64 0,.int .i64 (s.at_:Int),.bool false]) (fD s 5 l.length)):=
 (LP g A n c l s s.at_ w hR hR.nU).mono fun e w' h=>by unfold yX at h;rw[hd]at h;exact h
theorem Rj (hR:Rd 153 w g A n c l s) (hd:dec l s.at_=.form):
 Calls Tryz.prog 184 #[.pointer (some ⟨g,0,none⟩),.int .i64 (s.at_:Int)] w (qI 153 w g A n c l (.tuple #[.int .i64 0,.int .i64 (s.at_:Int),.bool false]) (fD s 4 s.at_)):=
 (LP g A n c l s s.at_ w hR hR.nU).mono fun e w' h=>by unfold yX at h;rw[hd]at h;exact h
theorem Rk (hR:Rd 153 w g A n c l s) {k:Int} {next:Nat} (hd:dec l s.at_=.ok k next):
 Calls Tryz.prog 184 #[.pointer (some ⟨g,0,none⟩),.int .i64 (s.at_:Int)] w (qI 153 w g A n c l (.tuple #[.int .i64 k,.int .i64 (next:Int),.bool true]) s):=
 (LP g A n c l s s.at_ w hR hR.nU).mono fun e w' h=>by unfold yX at h;rw[hd]at h;exact h
end
theorem aas (g:Nat) (A:Option Addr) (n c:Nat) (l:List UInt8) (s:RS) (w:World) (h:Rd 153 w g A n c l s):
 Calls Tryz.prog 128 #[.pointer (some ⟨g,0,none⟩)] w (qI 153 w g A n c l (.int .i64 (aS l s).1) (aS l s).2):=by
 obtain⟨hgl,c0,c1,c2,c3,f0,f1,f2,f3⟩:=h.blk.four;by_cases h1:s.e=0
 · have hb1:(s.e !=0)=false:=(by simp[h1]);cases hd:dec l s.at_ with
   |short=>
    have hs:aS l s=(0,fD s 5 l.length):=(by unfold aS;rw[if_neg (by simp[h1]),hd]);rw[hs];have hc:=Ri h hd;clear hd hs h1;go_enter Tryz.func128,Tryz.ntmps128;go_wp2_with ((with_reducible refine hc.mono ?_);rintro e w1 ⟨rfl,hr1,hg1⟩);go_ret;exact⟨rfl,hr1,hg1⟩
   |form=>
    have hs:aS l s=(0,fD s 4 s.at_):=(by unfold aS;rw[if_neg (by simp[h1]),hd]);rw[hs];have hc:=Rj h hd;clear hd hs h1;go_enter Tryz.func128,Tryz.ntmps128;go_wp2_with ((with_reducible refine hc.mono ?_);rintro e w1 ⟨rfl,hr1,hg1⟩);go_ret;exact⟨rfl,hr1,hg1⟩
   |ok k next=>
    have hs:aS l s=(k,⟨next,s.e,s.p⟩):=(by unfold aS;rw[if_neg (by simp[h1]),hd]);rw[hs];have hc:=Rk h hd;have hle:=(wQ hd).2.2.2.1;have hlen:=h.len;clear hd hs h1;go_enter Tryz.func128,Tryz.ntmps128;go_wp2_with ((with_reducible refine hc.mono ?_);rintro e w1 ⟨rfl,hr1,hg1⟩;obtain⟨Aa,c0',c1',c2',c3',yY,f1',f2',f3'⟩:=hr1.blk.four);go_ret;exact⟨rfl,hr1.moved byOmega,hg1.trans (jJ _ _ _ _)⟩
 · have hb1:(s.e !=0)=true:=(by simp[h1]);have hs:aS l s=(0,s):=(by unfold aS;rw[if_pos h1]);rw[hs];clear hs;go_enter Tryz.func128,Tryz.ntmps128;go_wp2;go_ret;exact⟨rfl,h,World.grownBy.refl _ _⟩
theorem Rl (g:Nat) (A:Option Addr) (n c:Nat) (l:List UInt8) (s:RS) (most ee:Int) (w:World) (h:Rd 153 w g A n c l s):
 Calls Tryz.prog 190 #[.pointer (some ⟨g,0,none⟩),.int .i64 most,.int .i64 ee] w
  (qI 153 w g A n c l (match (cnt l s most ee).1 with|none=> .tuple #[.int .i64 0,.int .i64 (s.at_:Int),.bool false]|some (k,next)=> .tuple #[.int .i64 k,.int .i64 (next:Int),.bool true]) (cnt l s most ee).2):=by
 obtain⟨hgl,c0,c1,c2,c3,f0,f1,f2,f3⟩:=h.blk.four;cases hd:dec l s.at_ with
 |short=>
  have hs:cnt l s most ee=(none,fD s 5 l.length):=by unfold cnt;rw[hd]
  rw[hs];have hc:=Ri h hd;clear hd hs;go_enter Tryz.func190,Tryz.ntmps190;go_wp2_with ((with_reducible refine hc.mono ?_);rintro e w1 ⟨rfl,hr1,hg1⟩;obtain⟨Aa,c0',c1',c2',c3',yY,f1',f2',f3'⟩:=hr1.blk.four;simp only[Iu]at c1')
  go_quiet (fail)
  go_wp2
  go_ret3
  exact⟨rfl,hr1.drewN _,grown_drewN hg1 _⟩
 |form=>
  have hs:cnt l s most ee=(none,fD s 4 s.at_):=by unfold cnt;rw[hd]
  rw[hs];have hc:=Rj h hd;clear hd hs;go_enter Tryz.func190,Tryz.ntmps190;go_wp2_with ((with_reducible refine hc.mono ?_);rintro e w1 ⟨rfl,hr1,hg1⟩;obtain⟨Aa,c0',c1',c2',c3',yY,f1',f2',f3'⟩:=hr1.blk.four;simp only[Iu]at c1')
  go_quiet (fail)
  go_wp2
  go_ret3
  exact⟨rfl,hr1.drewN _,grown_drewN hg1 _⟩
 |ok k next=>
  have hc:=Rk h hd;by_cases h2:k<0
  · have hs:cnt l s most ee=(none,fD s 4 s.at_):=(by unfold cnt;rw[hd];simp only;rw[if_pos h2]);rw[hs];have hb2:decide (k<0)=true:=(by simp[h2]);clear hd hs;go_enter Tryz.func190,Tryz.ntmps190;go_wp2_with (first
        |((with_reducible refine hc.mono ?_);rintro e w1 ⟨rfl,hr1,hg1⟩;obtain⟨Aa,c0',c1',c2',c3',yY,f1',f2',f3'⟩:=hr1.blk.four)
        |((with_reducible refine(xX g _ _ _ _ _ _ _ _ hr1).mono ?_);rintro e w2 ⟨rfl,hr2,hg2⟩;obtain⟨LV,d0',d1',LW,d3',e0',e1',e2',e3'⟩:=hr2.blk.four;simp only[Iu]at d1'))
    go_quiet (fail)
    go_wp2
    go_ret3
    exact⟨rfl,hr2.drewN _,grown_drewN (hg1.trans hg2) _⟩
  · have hb2:decide (k<0)=false:=ay;by_cases h3:most<k
    · have hs:cnt l s most ee=(none,fD s ee s.at_):=(by unfold cnt;rw[hd];simp only;rw[if_neg h2,if_pos h3]);rw[hs];have hb3:decide (most<k)=true:=(by simp[h3]);clear hd hs;go_enter Tryz.func190,Tryz.ntmps190;go_wp2_with (first
       |((with_reducible refine hc.mono ?_);rintro e w1 ⟨rfl,hr1,hg1⟩;obtain⟨Aa,c0',c1',c2',c3',yY,f1',f2',f3'⟩:=hr1.blk.four)
       |((with_reducible refine(xX g _ _ _ _ _ _ _ _ hr1).mono ?_);rintro e w2 ⟨rfl,hr2,hg2⟩;obtain⟨LV,d0',d1',LW,d3',e0',e1',e2',e3'⟩:=hr2.blk.four;simp only[Iu]at d1'))
      go_quiet (fail)
      go_wp2
      go_ret3
      exact⟨rfl,hr2.drewN _,grown_drewN (hg1.trans hg2) _⟩
    · have hs:cnt l s most ee=(some (k,next),s):=(by unfold cnt;rw[hd];simp only;rw[if_neg h2,if_neg h3]);rw[hs];have hb3:decide (most<k)=false:=ay;clear hd hs;go_enter Tryz.func190,Tryz.ntmps190;go_wp2_with ((with_reducible refine hc.mono ?_);rintro e w1 ⟨rfl,hr1,hg1⟩)
      go_ret3
      exact⟨rfl,hr1,hg1⟩
section
variable {w:World} {g a:Nat} {A:Option Addr} {n c:Nat} {l:List UInt8} {s:RS} {most e:Int}
theorem LX (h:Rd 153 w g A n c l s) {s':RS} (hd:cnt l s most e=(none,s')):
 Calls Tryz.prog 190 #[.pointer (some ⟨g,0,none⟩),.int .i64 most,.int .i64 e] w (qI 153 w g A n c l (.tuple #[.int .i64 0,.int .i64 (s.at_:Int),.bool false]) s'):=
 (Rl g A n c l s most e w h).mono fun e w' h=>by rw[hd]at h;exact h
theorem LY (h:Rd 153 w g A n c l s) {k:Int} {next:Nat} {s':RS} (hd:cnt l s most e=(some (k,next),s')):
 Calls Tryz.prog 190 #[.pointer (some ⟨g,0,none⟩),.int .i64 most,.int .i64 e] w (qI 153 w g A n c l (.tuple #[.int .i64 k,.int .i64 (next:Int),.bool true]) s):=
 (Rl g A n c l s most e w h).mono fun e w' h=>by obtain⟨rfl,_⟩:=Iw hd;rw[hd]at h;exact h
end
theorem xY (g:Nat) (A:Option Addr) (n c:Nat) (l:List UInt8) (s:RS) (most:Int) (w:World) (h:Rd 153 w g A n c l s):
 Calls Tryz.prog 139 #[.pointer (some ⟨g,0,none⟩),.int .i64 most] w (qI 153 w g A n c l (.int .i64 (aX l s most 3).1) (aX l s most 3).2):=by
 obtain⟨hgl,c0,c1,c2,c3,f0,f1,f2,f3⟩:=h.blk.four;by_cases h1:s.e=0
 · have hb1:(s.e !=0)=false:=(by simp[h1]);have hs:=Rh l s most 3 h1;rcases hd:cnt l s most 3 with ⟨_|⟨k,next⟩,s'⟩
   · rw[hs,hd];have hc:=LX h hd;clear hd hs h1;go_enter Tryz.func139,Tryz.ntmps139;go_wp2_with ((with_reducible refine hc.mono ?_);rintro e w1 ⟨rfl,hr1,hg1⟩);go_ret;exact⟨rfl,hr1,hg1⟩
   · rw[hs,hd];have hc:=LY h hd;have hle:=(wQ (Iw hd).2.2.2).2.2.2.1;have hlen:=h.len;clear hd hs h1;go_enter Tryz.func139,Tryz.ntmps139;go_wp2_with ((with_reducible refine hc.mono ?_);rintro e w1 ⟨rfl,hr1,hg1⟩;obtain⟨Aa,c0',c1',c2',c3',yY,f1',f2',f3'⟩:=hr1.blk.four);go_ret;exact⟨rfl,hr1.moved byOmega,hg1.trans (jJ _ _ _ _)⟩
 · have hb1:(s.e !=0)=true:=(by simp[h1]);have hs:aX l s most 3=(0,s):=(by unfold aX;rw[if_pos h1]);rw[hs];clear hs;go_enter Tryz.func139,Tryz.ntmps139;go_wp2;go_ret;exact⟨rfl,h,World.grownBy.refl _ _⟩
theorem aat (g:Nat) (A:Option Addr) (n c:Nat) (l:List UInt8) (s:RS) (most:Int) (w:World) (h:Rd 153 w g A n c l s):
 Calls Tryz.prog 221 #[.pointer (some ⟨g,0,none⟩),.int .i64 most] w (qI 153 w g A n c l (.int .i64 (aX l s most 4).1) (aX l s most 4).2):=by
 obtain⟨hgl,c0,c1,c2,c3,f0,f1,f2,f3⟩:=h.blk.four;by_cases h1:s.e=0
 · have hb1:(s.e !=0)=false:=(by simp[h1]);have hs:=Rh l s most 4 h1;rcases hd:cnt l s most 4 with ⟨_|⟨k,next⟩,s'⟩
   · rw[hs,hd];have hc:=LX h hd;clear hd hs h1;go_enter Tryz.func221,Tryz.ntmps221;go_wp2_with ((with_reducible refine hc.mono ?_);rintro e w1 ⟨rfl,hr1,hg1⟩);go_ret;exact⟨rfl,hr1,hg1⟩
   · rw[hs,hd];have hc:=LY h hd;have hle:=(wQ (Iw hd).2.2.2).2.2.2.1;have hlen:=h.len;clear hd hs h1;go_enter Tryz.func221,Tryz.ntmps221;go_wp2_with ((with_reducible refine hc.mono ?_);rintro e w1 ⟨rfl,hr1,hg1⟩;obtain⟨Aa,c0',c1',c2',c3',yY,f1',f2',f3'⟩:=hr1.blk.four);go_ret;exact⟨rfl,hr1.moved byOmega,hg1.trans (jJ _ _ _ _)⟩
 · have hb1:(s.e !=0)=true:=(by simp[h1]);have hs:aX l s most 4=(0,s):=(by unfold aX;rw[if_pos h1]);rw[hs];clear hs;go_enter Tryz.func221,Tryz.ntmps221;go_wp2;go_ret;exact⟨rfl,h,World.grownBy.refl _ _⟩
theorem Rn (g:Nat) (A:Option Addr) (n c:Nat) (l:List UInt8) (s:RS) (most:Int) (w:World) (h:Rd 153 w g A n c l s):
 Calls Tryz.prog 186 #[.pointer (some ⟨g,0,none⟩),.int .i64 most] w (qI 153 w g A n c l (.string ⟨(dZ l s most).1.toArray⟩) (dZ l s most).2):=by
 obtain⟨hgl,c0,c1,c2,c3,f0,f1,f2,f3⟩:=h.blk.four;have hnc:=h.nc;have hlen:=h.len;have hsm:=h.small;by_cases h1:s.e=0
 · have hb1:(s.e !=0)=false:=(by simp[h1]);have hs:=aar l s most h1;rcases hd:cnt l s most 2 with ⟨_|⟨k,next⟩,s'⟩
   · rw[hs,hd];have hc:=LX h hd;clear hd hs h1;go_enter Tryz.func186,Tryz.ntmps186;go_wp2_with ((with_reducible refine hc.mono ?_);rintro e w1 ⟨rfl,hr1,hg1⟩);go_ret;exact⟨rfl,hr1,hg1⟩
   · rw[hs,hd];have hc:=LY h hd;have hck:=Iw hd;have hdk:=wQ hck.2.2.2;have hle:=hdk.2.2.2.1;have hk0:=hck.2.1;have hkm:k<=9223372036854775807:=hdk.2.2.2.2.2;clear hd hs h1 hck hdk;by_cases h2:(l.length:Int)-next<k
     · simp only[if_pos h2];have hb2:decide ((n:Int)-(next:Int)<k)=true:=(by rw[hlen]at h2;simp[h2]);have hln:(l.length:Int)=(n:Int):=(by rw[hlen]);go_enter Tryz.func186,Tryz.ntmps186;clear hln;go_wp2_with (first
        |((with_reducible refine hc.mono ?_);rintro e w1 ⟨rfl,hr1,hg1⟩;obtain⟨Aa,c0',c1',c2',c3',yY,f1',f2',f3'⟩:=hr1.blk.four)
        |((with_reducible refine(xX g _ _ _ _ _ _ _ _ hr1).mono ?_);rintro e w2 ⟨rfl,hr2,hg2⟩))
       go_ret;rw[hlen];exact⟨rfl,hr2,hg1.trans hg2⟩
     · simp only[if_neg h2];have hb2:decide ((n:Int)-(next:Int)<k)=false:=(by rw[hlen]at h2;simp;omega);obtain⟨m,rfl⟩:=Int.eq_ofNat_of_zero_le hk0;rw[Int.toNat_natCast];have hnm:next+m<=n:=byOmega;go_enter Tryz.func186,Tryz.ntmps186;go_wp2_with (first
        |((with_reducible refine hc.mono ?_);rintro e w1 ⟨rfl,hr1,hg1⟩;obtain⟨Aa,c0',c1',c2',c3',yY,f1',f2',f3'⟩:=hr1.blk.four))
       have hmv:=hr1.moved (k:=next+m) hnm;rw[Int.natCast_add]at hmv;obtain⟨A',hsl,hA'⟩:=aao (P:=Tryz.prog) _ 49 5 Tryz.underlying49 aaq hmv.reads hnc next (next+m) byOmega hnm;rw[Int.natCast_add]at hsl;have hcv:∀q,(convert 49 9 (.slice A' (next+m-next) (c-next))).run Tryz.prog (((w1.setCell ⟨g,1,none⟩ (.int .i64 ((next:Int)+(m:Int))))).drewN q)=.ok (.string ⟨((l.drop next).take (next+m-next)).toArray⟩) (((w1.setCell ⟨g,1,none⟩ (.int .i64 ((next:Int)+(m:Int))))).drewN q):=
        fun q=>DU _ _ _ _ Tryz.underlying49 Tryz.underlying5 Tryz.underlying9 (by rw[aap]at hA';exact hA'.drewN q)
       have hg2:=hg1.trans (jJ w1 g 1 (.int .i64 ((next:Int)+(m:Int))));clear hA';rw[show next+m-next=m from byOmega]at hcv hsl;generalize w1.setCell ⟨g,1,none⟩ (.int .i64 ((next:Int)+(m:Int)))=w2 at*;obtain⟨LV,d0,d1,d2,d3,e0,e1,e2,e3⟩:=hmv.blk.four;clear c0' c1' c2' c3' yY f1' f2' f3' c0 c1 c2 c3 f0 f1 f2 f3;rw[Int.natCast_add]at d1
       go_quiet (fail)
       go_wp2;go_ret;exact⟨rfl,hmv.drewN _,grown_drewN hg2 _⟩
 · have hb1:(s.e !=0)=true:=(by simp[h1]);have hs:dZ l s most=([],s):=(by unfold dZ;rw[if_pos h1]);rw[hs];clear hs;go_enter Tryz.func186,Tryz.ntmps186;go_wp2;go_ret;exact⟨rfl,h,World.grownBy.refl _ _⟩
theorem BA (g:Nat) (A:Option Addr) (n c:Nat) (l:List UInt8) (s:RS) (w:World) (h:Rd 153 w g A n c l s):
 Calls Tryz.prog 97 #[.pointer (some ⟨g,0,none⟩)] w fun e w'=>e=.returned (.tuple #[.int .i64 s.e,.int .i64 (s.p:Int)])/\∃q,w.drewN q=w':=by
 obtain⟨hgl,c0,c1,c2,c3,f0,f1,f2,f3⟩:=h.blk.four;go_enter Tryz.func97,Tryz.ntmps97;go_wp2
 go_quiet (fail)
 go_wp2
 go_ret2
 exact⟨rfl,_,rfl⟩
theorem xZ (g:Nat) (A:Option Addr) (n c:Nat) (l:List UInt8) (s:RS) (w:World) (h:Rd 153 w g A n c l s):
 Calls Tryz.prog 140 #[.pointer (some ⟨g,0,none⟩)] w fun e w'=>e=.returned (.int .i64 (bI l s:Int))/\∃q,w.drewN q=w':=by
 obtain⟨hgl,c0,c1,c2,c3,f0,f1,f2,f3⟩:=h.blk.four;have hlen:=h.len;have hsm:=h.small;have hal:=h.nU;by_cases h1:s.e=0
 · have hb1:(s.e !=0)=false:=(by simp[h1]);have hs:((bI l s:Nat):Int)=(n:Int)-(s.at_:Int):=(by unfold bI;rw[if_neg (by simp[h1])];omega);rw[hs];have hw:IntKind.i64.wrap ((n:Int)-(s.at_:Int))=(n:Int)-(s.at_:Int):=(by rw[IntKind.wrap_i64];omega);clear hs h1 hlen;go_enter Tryz.func140,Tryz.ntmps140;go_wp2
   go_quiet (fail)
   go_wp2;go_ret;exact⟨rfl,_,rfl⟩
 · have hb1:(s.e !=0)=true:=(by simp[h1]);have hs:bI l s=0:=(by unfold bI;rw[if_pos h1]);rw[hs];clear hs;go_enter Tryz.func140,Tryz.ntmps140;go_wp2;go_ret;exact⟨rfl,0,rfl⟩
theorem Ro (g:Nat) (A:Option Addr) (n c:Nat) (l:List UInt8) (s:RS) (w:World) (h:Rd 153 w g A n c l s):
 Calls Tryz.prog 48 #[.pointer (some ⟨g,0,none⟩)] w fun e w'=>e=.returned (.tuple #[.int .i64 (lY l s).1,.int .i64 ((lY l s).2:Int)])/\∃q,w.drewN q=w':=by
 obtain⟨hgl,c0,c1,c2,c3,f0,f1,f2,f3⟩:=h.blk.four;have hlen:=h.len;have hsm:=h.small;have hal:=h.nU;by_cases h1:s.e=0
 · have hb1:(s.e==0)=true:=(by simp[h1]);by_cases h2:s.at_<n
   · have hs:lY l s=(6,s.at_):=(by unfold lY;rw[if_pos ⟨h1,byOmega⟩]);rw[hs];have hb2:decide (s.at_<n)=true:=(by simp[h2]);clear hs h1 hlen;go_enter Tryz.func48,Tryz.ntmps48;go_wp2
     go_quiet (fail)
     go_wp2
     go_quiet (fail)
     go_wp2
     go_ret2
     exact⟨rfl,_,(World.drewN_drewN ..).symm⟩
   · have hs:lY l s=(s.e,s.p):=(by unfold lY;rw[if_neg (by rintro⟨_,h3⟩;omega)]);rw[hs];have hb2:decide (s.at_<n)=false:=ay;clear hs h1 hlen;go_enter Tryz.func48,Tryz.ntmps48;go_wp2
     go_quiet (fail)
     go_wp2_with ((with_reducible refine(BA g _ _ _ _ _ _ (h.drewN _)).mono ?_);rintro e w2 ⟨rfl,q,rfl⟩)
     go_ret2
     exact⟨rfl,_,rfl⟩
 · have hb1:(s.e==0)=false:=(by simp[h1]);have hs:lY l s=(s.e,s.p):=(by unfold lY;rw[if_neg (by rintro⟨h3,_⟩;exact h1 h3)]);rw[hs];clear hs;go_enter Tryz.func48,Tryz.ntmps48;go_wp2
   go_quiet (fail)
   go_wp2_with ((with_reducible refine(BA g _ _ _ _ _ _ (h.drewN _)).mono ?_);rintro e w2 ⟨rfl,q,rfl⟩)
   go_ret2
   exact⟨rfl,_,rfl⟩
def aau (t:TypeId) (w:World) (l:List UInt8):Ending->World->Prop:=fun e w'=>
 ∃A n c,e=.returned (.pointer (some ⟨w'.heap.size-1,0,none⟩))/\0<w'.heap.size/\w.heap.size<=w'.heap.size-1/\Rd t w' (w'.heap.size-1) A n c l ⟨0,0,0⟩/\(∀ad,A=some ad->w.heap.size<=ad.block)/\Below w.heap.size w w'
theorem Rq (A:Option Addr) (n c:Nat) (l:List UInt8) (w:World) (h:Reads w w.heap.size 1 A n (bytesV l)) (hsm:n<=1000000000000):
 Calls Tryz.prog 47 #[.slice A n c] w (aau 153 w l):=by
 obtain⟨i0,hi0,hz0,hz1,hz2⟩:=oW oV;have hlen:l.length=n:=by have:=h.1;simpa using this
 go_enter Tryz.func47,Tryz.ntmps47;go_wp2_with (first
         |(at_builtin
           refine iI _ rfl (.tmp 3) (.tmp 4) _ rfl w.heap.size 5 i0 _ 1 1 Tryz.underlying49 hi0 hz0 hz1 hz2 rfl byOmega (.slice (some ⟨w.heap.size,0,none⟩) 0 0) 0 [] aI
              (World.ownsRow_made w #[] 0 (Nat.le_refl _) dX rfl) w.heap.size A n c (bytesV l) aI (h.alloc (Nat.le_refl _) _) (mY _) dX byOmega aA ?_
           intro v1 w1 hown1 hg1 nN;simp only[Nat.zero_add,List.nil_append]at hown1;obtain⟨A1,c1,rfl,hn1,hc1⟩:=fP hown1))
 have hb1:Below w.heap.size w w1:=((aC).alloc (Nat.le_refl _) _).grown hg1 aA (by intro k hk;simp[Value.ownBlock]at hk;omega);go_ret;have hz:=hb1.size;have hrd:=Reads.kK hown1;refine⟨A1,n,c1,aA,aA,by simpa using hz,?_,?_,hb1.alloc hz _⟩
 · refine⟨aj.new' _ _ aA,?_,hlen,hsm,?_,Nat.zero_le _,hn1,hc1⟩
   · simpa using (hrd.alloc (Nat.le_refl _) _).more (Nat.le_succ _)
   · intro ad e hn;subst e;have h5:=hown1.lt ad.block (by obtain⟨g,cap,hv,_,_⟩:=hown1.form hn;injection hv with e1;injection e1 with e1;subst e1;rfl);have:=h5.2;simp;omega
 · intro ad e;subst e;rcases hown1.2 with ⟨hv,_⟩|⟨g,cap,cur,hv,hg,_⟩
   · cases hv
   · injection hv with e1;injection e1 with e1;subst e1;exact hg
theorem aav (g:Nat) (A:Option Addr) (n c:Nat) (l:List UInt8) (s:RS) (w:World) (h:Rd 153 w g A n c l s):
 Calls Tryz.prog 189 #[.pointer (some ⟨g,0,none⟩)] w (qI 153 w g A n c l (.bool (nS l s).1) (nS l s).2):=by
 obtain⟨hgl,c0,c1,c2,c3,f0,f1,f2,f3⟩:=h.blk.four;have hnc:=h.nc;have hlen:=h.len;have hsm:=h.small;have hal:=h.nU;by_cases h1:s.e=0
 · have hb1:(s.e !=0)=false:=(by simp[h1]);by_cases h2:s.at_<n
   · have hb2:decide (n<=s.at_)=false:=ay;obtain⟨ad,x,rfl,Rf,hx,hcell⟩:=h.cell h2;have hxl:=x.toNat_lt;have hmv:=h.moved (k:=s.at_+1) byOmega;by_cases h3:1<x.toNat
     · have hs:nS l s=(false,fD s 4 s.at_):=(by unfold nS;rw[if_neg (by simp[h1]),hx];simp only;rw[if_pos h3]);rw[hs];have hb3:decide ((1:Int)<(x.toNat:Int))=true:=ay;clear hs hx h1 hlen;go_enter Tryz.func189,Tryz.ntmps189;go_wp2
       go_quiet (fail)
       go_wp2
       go_quiet (fail)
       go_wp2_with ((with_reducible refine(xX g _ _ _ _ _ _ _ _ (h.drewN _)).mono ?_);rintro e w2 ⟨rfl,hr2,hg2⟩);go_ret;exact⟨rfl,hr2,(grown_drewN (World.grownBy.refl _ _) _).trans hg2⟩
     · have hs:nS l s=(x.toNat==1,⟨s.at_+1,s.e,s.p⟩):=(by unfold nS;rw[if_neg (by simp[h1]),hx];simp only;rw[if_neg h3]);rw[hs];have hb3:decide ((1:Int)<(x.toNat:Int))=false:=ay;clear hs hx h1 hlen;go_enter Tryz.func189,Tryz.ntmps189;go_wp2
       go_quiet (fail)
       go_wp2
       go_quiet (fail)
       go_wp2;have LZ:=hmv;rw[Int.natCast_add]at LZ;have hw1:IntKind.i64.wrap (((s.at_:Int)+1)-1)=(s.at_:Int):=(by rw[IntKind.wrap_i64];omega);have hcell':=hcell;rw[<-World.cell?_setCell_other w ⟨g,1,none⟩ (ad.add s.at_) (.int .i64 ((s.at_:Int)+1)) (by intro e;have:=h.apart ad rfl byOmega;rw[<-iW ad s.at_,<-e]at this;exact this rfl)]at hcell';have hgr:=jJ w g 1 (.int .i64 ((s.at_:Int)+1));have hwn:∀q,(w.drewN q).setCell ⟨g,1,none⟩ (.int .i64 ((s.at_:Int)+1))=(w.setCell ⟨g,1,none⟩ (.int .i64 ((s.at_:Int)+1))).drewN q:=fun _=>rfl
       rw[hwn];obtain⟨LV,d0,d1,d2,d3,e0,e1,e2,e3⟩:=LZ.blk.four;generalize w.setCell ⟨g,1,none⟩ (.int .i64 ((s.at_:Int)+1))=w2 at*;clear c0 c1 c2 c3 f0 f1 f2 f3 hwn;clear hcell
       go_quiet (fail)
       go_wp2;go_ret;exact⟨aZ (by rw[Bool.eq_iff_iff];simp;omega),LZ.drewN _,grown_drewN hgr _⟩
   · have hs:nS l s=(false,fD s 5 l.length):=(by unfold nS;rw[if_neg (by simp[h1]),List.getElem?_eq_none byOmega]);rw[hs,hlen];have hb2:decide (n<=s.at_)=true:=ay;clear hs h1 hlen;go_enter Tryz.func189,Tryz.ntmps189;go_wp2
     go_quiet (fail)
     go_wp2_with ((with_reducible refine(xX g _ _ _ _ _ _ _ _ (h.drewN _)).mono ?_);rintro e w2 ⟨rfl,hr2,hg2⟩);go_ret;exact⟨rfl,hr2,(grown_drewN (World.grownBy.refl _ _) _).trans hg2⟩
 · have hb1:(s.e !=0)=true:=(by simp[h1]);have hs:nS l s=(false,s):=(by unfold nS;rw[if_pos h1]);rw[hs];clear hs;go_enter Tryz.func189,Tryz.ntmps189;go_wp2;go_ret;exact⟨rfl,h,World.grownBy.refl _ _⟩
end Go.Proofs.YtcalkfgibflbnaaGreat
namespace Go.Proofs.YtcalkfgibflbnaaGreat
set_option maxHeartbeats 1000000
set_option maxRecDepth 100000
set_option linter.unusedVariables false
open Go.RowKit Fl
attribute [local go_sem] dJ
structure CR (w:World) (g:Nat) (A:Option Addr) (n c:Nat) (l:List UInt8) (s:RS) (gc:Nat):Prop where
 rd:Rd 153 w g A n c l s
 blk:aj w gc 87 #[.pointer none,.pointer (some ⟨g,0,none⟩)]
 ne:gc≠g
 ad:∀a,A=some a->0<n->a.block≠gc
structure aW (w w':World) (g b:Nat):Prop where
 os:w'.os=w.os
 tape:w'.tape=w.tape
 output:w'.output=w.output
 size:w.heap.size<=w'.heap.size
 block:∀k,k<w.heap.size->k≠g->k≠b->w'.heap[k]?=w.heap[k]?
theorem aW.trans {w w1 w2:World} {g b:Nat} (h:aW w w1 g b) (k:aW w1 w2 g b):aW w w2 g b:=
 ⟨k.os.trans h.os,k.tape.trans h.tape,k.output.trans h.output,Nat.le_trans h.size k.size,fun i hi h1 h2=>(k.block i (Nat.lt_of_lt_of_le hi h.size) h1 h2).trans (h.block i hi h1 h2)⟩
theorem aW.below {w w':World} {g b B:Nat} (h:aW w w' g b) (hg:B<=g) (hb:B<=b) (hB:B<=w.heap.size):Below B w w':=
 ⟨h.os,h.tape,h.output,h.size,fun k hk=>h.block k byOmega byOmega byOmega⟩
theorem aW.eU {w w':World} (g b:Nat) (h:Below w.heap.size w w'):aW w w' g b:=⟨h.os,h.tape,h.output,h.size,fun k hk _ _=>h.block k hk⟩
theorem CR.below {w w':World} {g gc:Nat} {A:Option Addr} {n c:Nat} {l:List UInt8} {s:RS} (h:CR w g A n c l s gc) (hb:Below w.heap.size w w'):CR w' g A n c l s gc:=
 ⟨h.rd.below hb,h.blk.below hb h.blk.lt,h.ne,h.ad⟩
theorem look_ok (w:World) (g:Nat) (A:Option Addr) (n c:Nat) (l:List UInt8) (s:RS) (gc:Nat) (h:CR w g A n c l s gc) (hs:s.e=0):
 Calls Tryz.prog 129 #[.pointer (some ⟨gc,0,none⟩)] w fun e w'=>e=.returned (.tuple #[])/\∃q,w.drewN q=w':=by
 have c1:=cl (h.blk.cell 1);have hF:=BA g A n c l s w h.rd;rw[hs]at hF;go_enter Tryz.func129,Tryz.ntmps129;go_wp2_with ((with_reducible refine hF.mono ?_);rintro e w1 ⟨rfl,q,rfl⟩)
 go_end0
 exact⟨rfl,q,rfl⟩
end Go.Proofs.YtcalkfgibflbnaaGreat
namespace Go.Proofs.YtcalkfgibflbnaaGreat
set_option maxHeartbeats 4000000
set_option maxRecDepth 100000
open Go.RowKit Fl
theorem Mc:∀bs:List UInt8,jr bs<256^bs.length:=by
 intro bs
 induction bs with
 |nil=>simp[jr]
 |cons c t ih=>
  have:=c.toNat_lt;simp only[jr,List.length_cons,Nat.pow_succ];omega
theorem drop_one {l:List UInt8} {k m:Nat} {x:UInt8} (hx:l[k]?=some x):(l.drop k).take (m+1)=x::(l.drop (k+1)).take m:=by
 have hlt:=(List.getElem?_eq_some_iff.1 hx).1;rw[List.drop_eq_getElem_cons hlt,(List.getElem?_eq_some_iff.1 hx).2];rfl
theorem aaw (u:Nat) (x:UInt8) (h:u*256<18446744073709551616):bits .or .u64 (IntKind.u64.wrap ((u:Int)*256)) (x.toNat:Int)=((x.toNat+256*u:Nat):Int):=by
 have hx:=x.toNat_lt;have e:IntKind.u64.wrap ((u:Int)*256)=((u*256:Nat):Int):=by rw[IntKind.wrap_u64];omega
 rw[e,Go.u64_or_nat _ _ h byOmega]
 congr 1
 rw[Go.nat_join 8 _ _ aA hx,Nat.add_comm];omega
theorem aax (a:Nat):bU (bU a)=bU a:=by
 by_cases h:wH a=true
 · have e:bU a=9221120237041090560:=(by simp[bU,h]);rw[e];unfold bU;split<;>rfl
 · have e:bU a=a:=(by simp[bU,h]);rw[e,e]
theorem nof (a:Nat) (w:World):
 Calls Tryz.prog 234 #[.int .u64 (a:Int)] w fun e w'=>e=.returned (.float .f64 (bU a))/\w=w':=by
 go_enter Tryz.func234,Tryz.ntmps234;go_wp2_with ((with_reducible refine(canon _ _).mono ?_);rintro e w' ⟨rfl,rfl⟩);go_ret;exact⟨rfl,rfl⟩
def aay (l:List UInt8) (a:Nat) (w:World) (u i:Value) (wr:World):Prop:=
 ∃(k:Nat) (q:Nat),k<=8/\w.drewN q=wr/\i=.int .i64 ((k:Int)-1)/\u=.int .u64 ((jr ((l.drop (a+k)).take (8-k)):Nat):Int)
theorem Rt (g:Nat) (A:Option Addr) (n c:Nat) (l:List UInt8) (s:RS) (w:World) (h:Rd 153 w g A n c l s):
 Calls Tryz.prog 220 #[.pointer (some ⟨g,0,none⟩)] w (qI 153 w g A n c l (.float .f64 (fK l s).1) (fK l s).2):=by
 obtain⟨hgl,c0,c1,c2,c3,f0,f1,f2,f3⟩:=h.blk.four;have hnc:=h.nc;have hlen:=h.len;have hsm:=h.small;have hal:=h.nU;by_cases h1:s.e=0
 · have hb1:(s.e !=0)=false:=(by simp[h1]);have hw1:IntKind.i64.wrap ((n:Int)-(s.at_:Int))=(n:Int)-(s.at_:Int):=(by rw[IntKind.wrap_i64];omega);by_cases h2:n-s.at_<8
   · have hs:fK l s=(0,fD s 5 l.length):=(by unfold fK;rw[if_neg (by simp[h1]),if_pos byOmega]);rw[hs,hlen];have hb2:decide ((n:Int)-(s.at_:Int)<8)=true:=ay;clear hs h1 hlen;go_enter Tryz.func220,Tryz.ntmps220;go_wp2
     go_quiet (fail)
     go_wp2_with ((with_reducible refine(xX g _ _ _ _ _ _ _ _ (h.drewN _)).mono ?_);rintro e w2 ⟨rfl,hr2,hg2⟩);go_ret;exact⟨rfl,hr2,(grown_drewN (World.grownBy.refl _ _) _).trans hg2⟩
   · have hb2:decide ((n:Int)-(s.at_:Int)<8)=false:=ay;have hs:fK l s=if bU (jr ((l.drop s.at_).take 8))≠jr ((l.drop s.at_).take 8) then (0,fD s 4 s.at_) else (jr ((l.drop s.at_).take 8),⟨s.at_+8,s.e,s.p⟩):=by
        unfold fK;rw[if_neg (by simp[h1]),if_neg byOmega]
     have HS:=au hs;have hmv:=h.moved (k:=s.at_+8) byOmega;rw[Int.natCast_add]at hmv;have hgr:=jJ w g 1 (.int .i64 ((s.at_:Int)+8));clear hs h1;go_enter Tryz.func220,Tryz.ntmps220;go_wp2
     go_quiet (fail)
     go_wp2
     go_loopw [3,4] (fun u i wr=>aay l s.at_ w u i wr) (fun _ i _=>(intOf i+1).toNat)
     case atStart=>exact⟨8,_,byOmega,rfl,rfl,by simp[jr]⟩
     case round=>
        obtain⟨k,q,hk,rfl,rfl,rfl⟩:=hrel;rcases k with _|j
        · have e:((0:Nat):Int)-1= -1:=rfl;rw[e];simp only[Nat.add_zero,Nat.sub_zero]at*;have hci:=aax (jr ((l.drop s.at_).take 8));have hcl:bU (jr ((l.drop s.at_).take 8))<18446744073709551616:=Pz (by
           have:=Mc ((l.drop s.at_).take 8);rw[List.length_take,List.length_drop,show min 8 (l.length-s.at_)=8 from byOmega]at this;exact this)
          generalize jr ((l.drop s.at_).take 8)=u at*;by_cases h5:bU u=u
          · rw[if_neg (by simp[h5])]at HS;have hb5:((bU u:Int) !=(u:Int))=false:=(by simp[h5]);have hnb:=nbits (bU u) (w.drewN q);rw[hci]at hnb;clear hci;have H5:=au h5;clear h5;go_wp2_with (first|((with_reducible refine(nof _ _).mono ?_);rintro e w' ⟨rfl,rfl⟩)|((with_reducible refine hnb.mono ?_);rintro e w' ⟨rfl,rfl⟩));go_ret;rw[HS.out,H5.out];exact⟨rfl,hmv.drewN _,grown_drewN hgr _⟩
          · rw[if_pos h5]at HS;have hb5:((bU u:Int) !=(u:Int))=true:=ay;have hnb:=nbits (bU u) (w.drewN q);rw[hci]at hnb;clear hci;go_wp2_with (first|((with_reducible refine(nof _ _).mono ?_);rintro e w' ⟨rfl,rfl⟩)|((with_reducible refine hnb.mono ?_);rintro e w' ⟨rfl,rfl⟩)|((with_reducible refine(xX g _ _ _ _ _ _ _ _ (h.drewN _)).mono ?_);rintro e w2 ⟨rfl,hr2,hg2⟩));go_ret;rw[HS.out];exact⟨rfl,hr2,(grown_drewN (World.grownBy.refl _ _) _).trans hg2⟩
        · have e:((j+1:Nat):Int)-1=(j:Int):=byOmega;rw[e];obtain⟨ad,x,rfl,Rf,hx,hcell⟩:=h.cell (k:=s.at_+j) byOmega;have hxl:=x.toNat_lt;have hin:(s.at_:Int)+(j:Int)<(n:Int):=byOmega;have hwr:IntKind.i64.wrap ((s.at_:Int)+(j:Int))=(s.at_:Int)+(j:Int):=(by rw[IntKind.wrap_i64];omega);go_wp2
          go_quiet (fail)
          go_wp2;go_roundw
          case rel=>
           refine⟨j,q+nq,byOmega,rfl,rfl,?_⟩;have hlt:=Mc ((l.drop (s.at_+(j+1))).take (7-j));have hpw:256^((l.drop (s.at_+(j+1))).take (7-j)).length<=256^7:=Nat.pow_le_pow_right byOmega (by rw[List.length_take];omega);rw[show (256:Nat)^7=72057594037927936 from rfl]at hpw;rw[aaw _ _ byOmega,show 8-j=(7-j)+1 from byOmega,drop_one hx];rfl
          case measure=>simp[intOf]
 · have hb1:(s.e !=0)=true:=(by simp[h1]);have hs:fK l s=(0,s):=(by unfold fK;rw[if_pos h1]);rw[hs];clear hs;go_enter Tryz.func220,Tryz.ntmps220;go_wp2;go_ret;exact⟨rfl,h,World.grownBy.refl _ _⟩
