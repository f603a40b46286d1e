/- The walks of mvcc's newest, Newest, old, locked. -/
import Derived.Deep.MidRow
import Derived.BigRegion
import Derived.Sort.Walk0
import Derived.Test.YtcalkfgibflbnaaGreatDaab
import Derived.Test.YtcalkfgibflbnaaGreatDaac
namespace Go.Proofs.YtcalkfgibflbnaaGreat
open Go.RowKit Fl
attribute [local go_sem] run_store_float
theorem wpList_lookup_held {P:Program} (w:World) {ops:Array Oper} {rest:List Oper} {o:Oper} {a:Act} {Q:Exit→Act→World→Prop}
 (hg:o.guard=none) (m x:Operand) (t:TypeId) (hop:o.op=Op.lookup t m x false)
 (k e:TypeId) (K:Maps.Keyed P k) (ht:P.underlying t=some (.map k e)) (z:Value) (hz:(zeroValue e).run P w=.ok z w) (b n:Nat) (D:DataW Value)
 (hm:a.eval m=.map (some b)) (hown:w.ownsMap P k anyE b n D) (key:Value) (kl:Lit) (hx:a.eval x=key) (hkey:keyOf P k key=some kl)
 (hK:∀v,D.atKey kl (.held z)=.held v→wpList P ops Q rest (a.put o.dst v) w):wpList P ops Q (o::rest) a w:=by
 refine wpList_plain hg fun K' hK'=>?_
 obtain⟨v,ps,hrun,hat⟩:=hown.lookup K ht hz rfl hkey
 unfold Oper.wp
 simp[execOp,hop,hm,hx,hrun,Result.andThen]
 refine hK' _ _ (hK v ?_)
 injection hat with hat
 injection hat with h1 h2
 exact h1.symm
theorem Blk.fiveC {w:World} {g:Nat} {t:TypeId} {a b c d e:Value} (h:Blk w g t #[a,b,c,d,e]):g<w.heap.size∧w.cell? ⟨g,0,none⟩=some a∧w.cell? ⟨g,1,none⟩=some b∧w.cell? ⟨g,2,none⟩=some c∧
 w.cell? ⟨g,3,none⟩=some d∧w.cell? ⟨g,4,none⟩=some e:=⟨h.lt,h.cell 0,h.cell 1,h.cell 2,h.cell 3,h.cell 4⟩
theorem Blk.sevenC {w:World} {g:Nat} {t:TypeId} {a b c d e f i:Value} (h:Blk w g t #[a,b,c,d,e,f,i]):g<w.heap.size∧w.cell? ⟨g,0,none⟩=some a∧w.cell? ⟨g,1,none⟩=some b∧w.cell? ⟨g,2,none⟩=some c∧
 w.cell? ⟨g,3,none⟩=some d∧w.cell? ⟨g,4,none⟩=some e∧w.cell? ⟨g,5,none⟩=some f∧w.cell? ⟨g,6,none⟩=some i:=⟨h.lt,h.cell 0,h.cell 1,h.cell 2,h.cell 3,h.cell 4,h.cell 5,h.cell 6⟩
theorem Blk.range {w:World} {g:Nat} {t:TypeId} {cs:Array Value} (h:Blk w g t cs) (o:Nat) (xs:List Value) (hx:∀j v,xs[j]?=some v→cs[o+j]?=some v):w.rangeAt g o xs:=fun j v hj=>by rw[h.cell];exact hx j v hj
theorem Blk.there {w:World} {g:Nat} {t:TypeId} {cs:Array Value} (h:Blk w g t cs) (o n:Nat) (hn:o+n≤cs.size):w.there g o n:=fun j hj=>by
 refine⟨?_,h.frozen _⟩
 rw[h.cell,Array.getElem?_eq_getElem (by omega)];rfl
theorem three_of {cs:Array Value} {o:Nat} {a b c:Value} (h0:cs[o]?=some a) (h1:cs[o+1]?=some b) (h2:cs[o+2]?=some c):∀j v,[a,b,c][j]?=some v→cs[o+j]?=some v:=by
 intro j v hj
 match j,hj with
 |0,hj=>simp at hj;subst hj;exact h0
 |1,hj=>simp at hj;subst hj;exact h1
 |2,hj=>simp at hj;subst hj;exact h2
theorem wpAnyH_store_mid {P:Program} {md:Region.Mode} {ops:Array Oper} {Q:Exit→Act→World→Prop} {S:World→Prop} {fuel:Nat} {listed:Array Bool} {a:Act} {w:World} {i:Nat} {op:Oper}
 (hr:Region.ready md ops listed=[i]) (ho:ops[i]?=some op) (hg:op.guard=none) (ty:TypeId) (x y:Operand) (hop:op.op=.store ty x y)
 (b o:Nat) (cells:Array Value) (hx:a.eval x=.pointer (some ⟨b,o,none⟩)) (hy:a.eval y=.agg cells) (ht:w.there b o cells.size) (hi:(P.info? ty).map (·.size)=some cells.size) (h1:cells.all (·.oneCell')=true)
 (hS:S (w.setCells b o cells.toList)) (h:wpAnyH P md ops Q S fuel (listed.setIfInBounds i true) (a.put op.dst undef) (w.setCells b o cells.toList)):wpAnyH P md ops Q S (fuel+1) listed a w:=by
 refine wpAnyH_all hr (by simp) (fun j hj=>?_)
 obtain rfl:j=i:=by simpa using hj
 refine wpOp_step ho (fun K' hK=>?_)
 have hw:Region.wanted op (yielded ops a.tmps)=true:=by simp[Region.wanted,hg]
 rw[if_pos hw]
 exact wp_store_mid ty x y hop b o cells hx hy ht hi h1 (hK _ _ ⟨hS,h⟩)
theorem Blk.setCells3 {w:World} {g:Nat} {t:TypeId} {a b c d e f i x y z:Value} (h:Blk w g t #[a,b,c,d,e,f,i]):Blk (w.setCells g 1 [x,y,z]) g t #[a,x,y,z,e,f,i]:=((h.set_ 1 x).set_ 2 y).set_ 3 z
theorem Blk.setCells3' {w:World} {g:Nat} {t:TypeId} {a b c d e f i x y z:Value} (h:Blk w g t #[a,b,c,d,e,f,i]):Blk (w.setCells g 4 [x,y,z]) g t #[a,b,c,d,x,y,z]:=((h.set_ 4 x).set_ 5 y).set_ 6 z
theorem Blk.setCells3_far {w:World} {g b o:Nat} {t:TypeId} {cs:Array Value} {x y z:Value} (h:Blk w g t cs) (hne:g≠b):Blk (w.setCells b o [x,y,z]) g t cs:=((h.far (p:=⟨b,o,none⟩) hne x).far (p:=⟨b,o+1,none⟩) hne y).far (p:=⟨b,o+1+1,none⟩) hne z
theorem below_setCells3 {B:Nat} {w w':World} {b o:Nat} {x y z:Value} (h:Below B w w') (hb:B≤b):Below B w (w'.setCells b o [x,y,z]):=((h.setCell (p:=⟨b,o,none⟩) hb x).setCell (p:=⟨b,o+1,none⟩) hb y).setCell (p:=⟨b,o+1+1,none⟩) hb z
theorem Blk.drew {w:World} {g:Nat} {t:TypeId} {cs:Array Value} (h:Blk w g t cs):Blk w.drew g t cs:=h
def zeroVn:Vn:=⟨⟨0,0,0⟩,⟨0,0,⟨#[]⟩⟩⟩
def lastV (l:List Vn):Vn:=l.foldl (fun _ v=>v) zeroVn
theorem lastV_take {l:List Vn} {k:Nat} {a:Vn} (h:l[k]?=some a):lastV (l.take (k+1))=a:=by
 unfold lastV
 rw[List.take_add_one,h,List.foldl_append];rfl
abbrev seenArr (key:ByteArray) (v:Vn):Array Value:=#[.string key,.int .i64 v.v.k,.float .f64 v.v.n,.string v.v.t,.int .i64 v.s.w,.int .i64 v.s.l,.int .i64 v.s.n]
def NewestRel (key:ByteArray) (l:List Vn) (w:World) (i:Value) (wr:World):Prop:=
 ∃k:Nat,k≤l.length∧i=.int .i64 (k:Int)∧Blk wr (w.heap.size+1) 104 (seenArr ⟨#[]⟩ zeroVn)∧Blk wr (w.heap.size+1+1) 104 (seenArr key (lastV (l.take k)))∧Below w.heap.size w wr
set_option maxRecDepth 100000 in
set_option maxHeartbeats 4000000 in
theorem newest_any (base g b1 b2:Nat) (l:List Hs) (m:List Pn) (key:ByteArray) (s:Sp) (w:World) (h:StoreW w base g b1 b2 l m) (hk:key.size≤maxLen):
 Calls Tryz.prog 232 #[.pointer (some ⟨g,0,none⟩),.string key,s.val,.bool true] w fun e w'=>e=.returned (.agg (seenArr key (lastV (versOf l key))))∧Below w.heap.size w w':=by
 obtain⟨D,ho,hD⟩:=h.ks
 obtain⟨gl,c0,c1,c2,c3,c4⟩:=h.blk.fiveC
 have gl1:g<w.heap.size+1:=by omega
 have gl2:g<w.heap.size+1+1:=by omega
 have hkey:keyOf Tryz.prog 9 (.string key)=some (keyLit key):=WideMaps.keyOf_string_mk Tryz.underlying9 hk
 obtain⟨v0,hv0,A,n,c,rfl,hnc,hcm,hsl⟩:=hD key
 generalize versOf l key=vs at*
 go_enter Tryz.func232,Tryz.ntmps232
 go_wp2_with (first
  |(at_lookup
    refine wpList_lookup_held _ rfl _ _ 228 rfl 9 156 kStr Tryz.underlying228 (.slice none 0 0) (by rfl) b1 l.length D rfl (((ho.alloc _).alloc _).alloc _) _ (keyLit key) rfl hkey ?_
    intro v hv
    rw[hv0]at hv
    injection hv with hv
    subst hv))
 have hX:Below w.heap.size w (((w.alloc (.cells s.arr 26)).alloc (.cells (seenArr ⟨#[]⟩ zeroVn) 104)).alloc (.cells (seenArr key zeroVn) 104)):=by go_grown
 have i8:Blk (((w.alloc (.cells s.arr 26)).alloc (.cells (seenArr ⟨#[]⟩ zeroVn) 104)).alloc (.cells (seenArr key zeroVn) 104)) (w.heap.size+1) 104 (seenArr ⟨#[]⟩ zeroVn):=(Blk.new' _ _ (by simp)).alloc _
 have i9:Blk (((w.alloc (.cells s.arr 26)).alloc (.cells (seenArr ⟨#[]⟩ zeroVn) 104)).alloc (.cells (seenArr key zeroVn) 104)) (w.heap.size+1+1) 104 (seenArr key zeroVn):=Blk.new' _ _ (by simp)
 have hll:=hsl.1
 have hge:n≤vs.length:=by omega
 have hle:vs.length≤n:=by omega
 unfold maxLen at hcm
 clear hll hD ho hv0 c0 c1 c2 c3 c4
 go_loopw [21] (fun i wr=>NewestRel key vs w i wr) (fun i _=>n-(intOf i).toNat)
 case atStart=>exact⟨0,by omega,rfl,i8,i9,hX⟩
 case round=>
  obtain⟨k,hk',rfl,b8,b9,hb⟩:=hrel
  have hzz:=hb.size
  by_cases hlt:k<n
  · obtain⟨ad,a,rfl,ha,hbk,hok,c0,c1,c2,c3,c4,c5⟩:=(hsl.below VnRel.kept hb).vn hlt
    have hd1:decide ((k:Int)<(n:Int))=true:=by simp;omega
    have hk0:(0:Int)≤(k:Int):=by omega
    have hk1:(k:Int)<(n:Int):=by omega
    have HS:=Lib.hid (lastV_take ha)
    have b11:=Blk.new wr 160 #[.int .i64 a.s.w,.int .i64 a.s.l,.int .i64 a.s.n,.int .i64 a.v.k,.float .f64 a.v.n,.string a.v.t]
    have b9':=b9.alloc (.cells #[.int .i64 a.s.w,.int .i64 a.s.l,.int .i64 a.s.n,.int .i64 a.v.k,.float .f64 a.v.n,.string a.v.t] 160)
    have b8':=b8.alloc (.cells #[.int .i64 a.s.w,.int .i64 a.s.l,.int .i64 a.s.n,.int .i64 a.v.k,.float .f64 a.v.n,.string a.v.t] 160)
    have hb':=hb.alloc hzz (.cells #[.int .i64 a.s.w,.int .i64 a.s.l,.int .i64 a.s.n,.int .i64 a.v.k,.float .f64 a.v.n,.string a.v.t] 160)
    clear ha
    go_wp2
    generalize hg11:wr.heap.size=g11 at*
    generalize (wr.alloc (.cells #[.int .i64 a.s.w,.int .i64 a.s.l,.int .i64 a.s.n,.int .i64 a.v.k,.float .f64 a.v.n,.string a.v.t] 160))=wz at*
    obtain⟨l11,x0,x1,x2,x3,x4,x5⟩:=b11.six
    have f1:=b9'.frozen 1
    have f2:=b9'.frozen 2
    have f3:=b9'.frozen 3
    have f4:=b9'.frozen 4
    have f5:=b9'.frozen 5
    have f6:=b9'.frozen 6
    obtain⟨g9,y0,y1,y2,y3,y4,y5,y6⟩:=b9'.sevenC
    have ne9:g11≠w.heap.size+1+1:=by have:=b9.lt;omega
    have ne10:¬w.heap.size+1+1=g11:=fun e=>ne9 e.symm
    clear c0 c1 c2 c3 c4 c5
    refine wp_region_held_drew (S:=fun w'=>Blk w' g11 160 #[.int .i64 a.s.w,.int .i64 a.s.l,.int .i64 a.s.n,.int .i64 a.v.k,.float .f64 a.v.n,.string a.v.t]) (by kernel_rfl) b11 (fun hHeld=>?_)
    refine wpAnyH_take (i:=0) (v:=.pointer (some ⟨g11,3,none⟩)) rfl (by kernel_rfl) (by kernel_rfl) (by kernel_rfl) (fun _ _ _ h=>h) (Or.inl ⟨by rfl,fun w hSw=>by clear hSw;go_simp⟩) hHeld ?_
    go_frame
    refine wpAnyH_take (i:=1) rfl (by kernel_rfl) (by kernel_rfl) (by kernel_rfl) (fun _ _ _ h=>h) (yieldsIf_load_mid (by rfl) _ _ rfl g11 3 rfl [.int .i64 a.v.k,.float .f64 a.v.n,.string a.v.t] _ (fun w h=>h.range 3 _ (three_of rfl rfl rfl)) rfl rfl (by kernel_rfl)) hHeld ?_
    go_frame
    refine wpAnyH_take (i:=2) (v:=.pointer (some ⟨g11,0,none⟩)) rfl (by kernel_rfl) (by kernel_rfl) (by kernel_rfl) (fun _ _ _ h=>h) (Or.inl ⟨by rfl,fun w hSw=>by clear hSw;go_simp⟩) hHeld ?_
    go_frame
    refine wpAnyH_take (i:=3) rfl (by kernel_rfl) (by kernel_rfl) (by kernel_rfl) (fun _ _ _ h=>h) (yieldsIf_load_mid (by rfl) _ _ rfl g11 0 rfl [.int .i64 a.s.w,.int .i64 a.s.l,.int .i64 a.s.n] _ (fun w h=>h.range 0 _ (three_of rfl rfl rfl)) rfl rfl (by kernel_rfl)) hHeld ?_
    go_frame
    refine wpAnyH_take (i:=4) (v:=.pointer (some ⟨w.heap.size+1+1,1,none⟩)) rfl (by kernel_rfl) (by kernel_rfl) (by kernel_rfl) (fun _ _ _ h=>h) (Or.inl ⟨by rfl,fun w hSw=>by clear hSw;go_simp⟩) hHeld ?_
    go_frame
    have b9a:=b9'.drew.setCells3 (x:=.int .i64 a.v.k) (y:=.float .f64 a.v.n) (z:=.string a.v.t)
    have b11a:=b11.drew.setCells3_far (o:=1) (x:=.int .i64 a.v.k) (y:=.float .f64 a.v.n) (z:=.string a.v.t) ne9
    have b8a:=b8'.drew.setCells3_far (b:=w.heap.size+1+1) (o:=1) (x:=.int .i64 a.v.k) (y:=.float .f64 a.v.n) (z:=.string a.v.t) (by omega)
    have hba:=below_setCells3 (b:=w.heap.size+1+1) (o:=1) (x:=.int .i64 a.v.k) (y:=.float .f64 a.v.n) (z:=.string a.v.t) hb'.drew (by omega)
    refine wpAnyH_store_mid (i:=5) (by kernel_rfl) rfl rfl _ _ _ rfl (w.heap.size+1+1) 1 #[.int .i64 a.v.k,.float .f64 a.v.n,.string a.v.t] rfl rfl (b9'.drew.there 1 3 (by simp)) (by kernel_rfl) (by kernel_rfl) b11a ?_
    go_frame
    generalize (wz.drew.setCells (w.heap.size+1+1) 1 [.int .i64 a.v.k,.float .f64 a.v.n,.string a.v.t])=wq at*
    refine wpAnyH_take (i:=6) (v:=.pointer (some ⟨w.heap.size+1+1,4,none⟩)) rfl (by kernel_rfl) (by kernel_rfl) (by kernel_rfl) (fun _ _ _ h=>h) (Or.inl ⟨by rfl,fun w hSw=>by clear hSw;go_simp⟩) b11a ?_
    go_frame
    have b9c:=b9a.setCells3' (x:=.int .i64 a.s.w) (y:=.int .i64 a.s.l) (z:=.int .i64 a.s.n)
    have b11c:=b11a.setCells3_far (b:=w.heap.size+1+1) (o:=4) (x:=.int .i64 a.s.w) (y:=.int .i64 a.s.l) (z:=.int .i64 a.s.n) ne9
    have b8c:=b8a.setCells3_far (b:=w.heap.size+1+1) (o:=4) (x:=.int .i64 a.s.w) (y:=.int .i64 a.s.l) (z:=.int .i64 a.s.n) (by omega)
    have hbc:=below_setCells3 (b:=w.heap.size+1+1) (o:=4) (x:=.int .i64 a.s.w) (y:=.int .i64 a.s.l) (z:=.int .i64 a.s.n) hba (by omega)
    refine wpAnyH_store_mid (i:=7) (by kernel_rfl) rfl rfl _ _ _ rfl (w.heap.size+1+1) 4 #[.int .i64 a.s.w,.int .i64 a.s.l,.int .i64 a.s.n] rfl rfl (b9a.there 4 3 (by simp)) (by kernel_rfl) (by kernel_rfl) b11c ?_
    generalize (wq.setCells (w.heap.size+1+1) 4 [.int .i64 a.s.w,.int .i64 a.s.l,.int .i64 a.s.n])=wp at*
    refine td ?_
    go_frame
    go_wp2
    go_roundw
    case rel=>
        refine⟨k+1,by omega,by go_num,b8c,?_,hbc⟩
        rw[HS.out]
        exact b9c
    case measure=>simp[intOf];omega
  · have hd1:decide ((k:Int)<(n:Int))=false:=by simp;omega
    rw[List.take_of_length_le (by omega)]at b9
    obtain⟨g9,x0,x1,x2,x3,x4,x5,x6⟩:=b9.sevenC
    have l8:=b8.lt
    go_wp2_with (refine wpList_store_row rfl 104 _ _ rfl _ _ rfl rfl _ _ b8 (by kernel_rfl) (by kernel_rfl) (by kernel_rfl) ?_)
    refine post_cell rfl (by rfl) (b8.setRow _) rfl rfl (by kernel_rfl) ?_
    exact⟨rfl,below_setRow hb (by omega) _⟩
set_option maxHeartbeats 4000000
set_option maxRecDepth 100000
theorem newestOf_any (base g b1 b2:Nat) (l:List Hs) (m:List Pn) (key:ByteArray) (w:World) (h:StoreW w base g b1 b2 l m) (hk:key.size≤maxLen):
 Calls Tryz.prog 205 #[.pointer (some ⟨g,0,none⟩),.string key] w fun e w'=>e=.returned (.agg (seenArr key (lastV (versOf l key))))∧Below w.heap.size w w':=by
 have hX:Below w.heap.size w (w.alloc (.cells (seenArr ⟨#[]⟩ zeroVn) 104)):=by go_grown
 have i4:=Blk.new w 104 (seenArr ⟨#[]⟩ zeroVn)
 have hN:=newest_any base g b1 b2 l m key ⟨0,0,0⟩ _ (h.below hX) hk
 go_enter Tryz.func205,Tryz.ntmps205
 go_wp2_with (go_at_call 232;fail)
 refine hN.mono ?_
 rintro e w1 ⟨rfl,hb⟩
 have j4:=i4.below hb i4.lt
 go_wp2_with (refine wpList_store_row rfl 104 _ _ rfl _ _ rfl rfl _ _ j4 (by kernel_rfl) (by kernel_rfl) (by kernel_rfl) ?_)
 refine post_cell rfl (by rfl) (j4.setRow _) rfl rfl (by kernel_rfl) ?_
 exact⟨rfl,below_setRow (hX.trans (hb.mono hX.size)) (by omega) _⟩
def oldB (l:List Hs) (p:Pn):Bool:=p.w.any fun a=>decide (0≤(lastV (versOf l a.key)).s.cmp p.s)
theorem old_any (base g b1 b2:Nat) (l:List Hs) (m:List Pn) (p:Pn) (A1 A2:Option Addr) (n1 n2 c1 c2:Nat) (w:World) (h:StoreW w base g b1 b2 l m) (hw:Sl WtRel 4 w w.heap.size A2 n2 p.w) (hn2:n2≤1000000):
 Calls Tryz.prog 165 #[.pointer (some ⟨g,0,none⟩),p.val (.slice A1 n1 c1) (.slice A2 n2 c2)] w fun e w'=>e=.returned (.bool (oldB l p))∧Below w.heap.size w w':=by
 have hl:=hw.1
 have hge:n2≤p.w.length:=by omega
 have hle:p.w.length≤n2:=by omega
 clear hl
 have hX:Below w.heap.size w (w.alloc (.cells #[.int .i64 p.t.c,.int .i64 p.t.l,.int .i64 p.t.s,.int .i64 p.s.w,.int .i64 p.s.l,.int .i64 p.s.n,.slice A1 n1 c1,.slice A2 n2 c2] 162)):=by go_grown
 have i3:=Blk.new w 162 #[.int .i64 p.t.c,.int .i64 p.t.l,.int .i64 p.t.s,.int .i64 p.s.w,.int .i64 p.s.l,.int .i64 p.s.n,.slice A1 n1 c1,.slice A2 n2 c2]
 have hs:=h.below hX
 have hw':=(hw.below WtRel.kept hX).more WtRel.kept hX.size
 go_enter Tryz.func165,Tryz.ntmps165
 go_wp2
 generalize (w.alloc (.cells #[.int .i64 p.t.c,.int .i64 p.t.l,.int .i64 p.t.s,.int .i64 p.s.w,.int .i64 p.s.l,.int .i64 p.s.n,.slice A1 n1 c1,.slice A2 n2 c2] 162))=w0 at*
 go_loopw [10] (fun i wr=>AnyRel (fun a:Wt=>decide (0≤(lastV (versOf l a.key)).s.cmp p.s)) p.w w0 i wr) (fun i _=>n2-(intOf i).toNat)
 case atStart=>exact⟨0,by omega,rfl,rfl,Below.refl _ _⟩
 case round=>
  obtain⟨k,hk,rfl,ha0,hb⟩:=hrel
  have hzz:=hb.size
  by_cases hlt:k<n2
  · obtain⟨ad,a,rfl,ha,hbk,hok,c0,c1',c2',c3⟩:=(hw'.below WtRel.kept hb).wt hlt
    have hd1:decide ((k:Int)<(n2:Int))=true:=by simp;omega
    have hk0:(0:Int)≤(k:Int):=by omega
    have hk1:(k:Int)<(n2:Int):=by omega
    rw[any_drop ha]at ha0
    have hXr:Below wr.heap.size wr (wr.alloc (.cells #[.string a.key,.int .i64 a.v.k,.float .f64 a.v.n,.string a.v.t] 61)):=by go_grown
    have i6:=Blk.new wr 61 #[.string a.key,.int .i64 a.v.k,.float .f64 a.v.n,.string a.v.t]
    have hsr:=(hs.below hb).below hXr
    have i3r:=(i3.below hb i3.lt).alloc (.cells #[.string a.key,.int .i64 a.v.k,.float .f64 a.v.n,.string a.v.t] 61)
    have hbX:=hb.trans (hXr.mono hzz)
    go_wp2
    generalize hg6:wr.heap.size=g6 at*
    generalize (wr.alloc (.cells #[.string a.key,.int .i64 a.v.k,.float .f64 a.v.n,.string a.v.t] 61))=wz at*
    have hN:=newestOf_any base g b1 b2 l m a.key wz.drew (hsr.below (Below.refl _ _).drew) (reach_max hok.1)
    have hC:=fun W=>cmp_any (lastV (versOf l a.key)).s p.s W
    generalize hlv:lastV (versOf l a.key)=lv at*
    generalize hcv:lv.s.cmp p.s=cv at*
    have hF:∀W:World,(Instr.field 104 (.agg #[.string a.key,.int .i64 lv.v.k,.float .f64 lv.v.n,.string lv.v.t,.int .i64 lv.s.w,.int .i64 lv.s.l,.int .i64 lv.s.n]) 2).run Tryz.prog W=.ok (.agg #[.int .i64 lv.s.w,.int .i64 lv.s.l,.int .i64 lv.s.n]) W:=fun _=>by kernel_rfl
    have l6:=i6.lt
    have l3:=i3r.lt
    obtain⟨_,e0,e1,e2,e3⟩:=i6.four
    obtain⟨_,x0,x1,x2,x3,x4,x5,x6,x7⟩:=i3r.eight
    go_region_held3 (fun w'=>w'.cell? ⟨g6,0,none⟩=some (.string a.key)∧w'.cell? ⟨w.heap.size,3,none⟩=some (.int .i64 p.s.w)∧w'.cell? ⟨w.heap.size,4,none⟩=some (.int .i64 p.s.l)∧w'.cell? ⟨w.heap.size,5,none⟩=some (.int .i64 p.s.n))
        (first|exact⟨e0,x3,x4,x5⟩|exact⟨(hb1.cell (p:=⟨_,_,none⟩) l6).trans e0,(hb1.cell (p:=⟨_,_,none⟩) l3).trans x3,(hb1.cell (p:=⟨_,_,none⟩) l3).trans x4,(hb1.cell (p:=⟨_,_,none⟩) l3).trans x5⟩|exact⟨(hb2.cell (p:=⟨_,_,none⟩) (Nat.lt_of_lt_of_le l6 hb1.size)).trans ((hb1.cell (p:=⟨_,_,none⟩) l6).trans e0),(hb2.cell (p:=⟨_,_,none⟩) (Nat.lt_of_lt_of_le l3 hb1.size)).trans ((hb1.cell (p:=⟨_,_,none⟩) l3).trans x3),(hb2.cell (p:=⟨_,_,none⟩) (Nat.lt_of_lt_of_le l3 hb1.size)).trans ((hb1.cell (p:=⟨_,_,none⟩) l3).trans x4),(hb2.cell (p:=⟨_,_,none⟩) (Nat.lt_of_lt_of_le l3 hb1.size)).trans ((hb1.cell (p:=⟨_,_,none⟩) l3).trans x5)⟩)
        (first|((with_reducible refine hN.mono ?_);rintro e w1 ⟨rfl,hb1⟩;dsimp only[seenArr])|((with_reducible refine(hC _).mono ?_);rintro e w2 ⟨rfl,hb2⟩))
    have hb3:Below w0.heap.size w0 w2:=hbX.trans (Below.mono ((Below.refl _ _).drew.trans (hb1.trans (hb2.mono hb1.size))) hbX.size)
    clear hb1 hb2 hN hC hF e0 e1 e2 e3 x0 x1 x2 x3 x4 x5 x6 x7
    by_cases hcc:0≤cv
    · have HF:=Lib.hid (show oldB l p=true by unfold oldB;rw[←ha0];simp[hcc])
      clear ha0 ha
      go_wp2
      go_ret
      rw[HF.out]
      exact⟨rfl,hX.trans (hb3.mono hX.size)⟩
    · have HT:=Lib.hid (show (p.w.drop (k+1)).any (fun a:Wt=>decide (0≤(lastV (versOf l a.key)).s.cmp p.s))=p.w.any (fun a:Wt=>decide (0≤(lastV (versOf l a.key)).s.cmp p.s)) by rw[←ha0];simp[hcc])
      clear ha0 ha
      go_wp2
      go_roundw
      case rel=>exact⟨k+1,by omega,by go_num,HT.out,hb3⟩
      case measure=>simp[intOf];omega
  · have hd1:decide ((k:Int)<(n2:Int))=false:=by simp;omega
    have HF:=Lib.hid (show oldB l p=false by unfold oldB;rw[←ha0,List.drop_of_length_le (by omega)];rfl)
    clear ha0
    go_wp2
    go_ret
    rw[HF.out]
    exact⟨rfl,hX.trans (hb.mono hX.size)⟩
def clashB (p x:Pn):Bool:=x.w.any (fun a=>wrL a.key p.w||inL a.key p.r)||x.r.any (fun k=>wrL k p.w)
def lockedB (m:List Pn) (x:Pn):Bool:=m.any fun p=>clashB p x
abbrev Pn.arr (p:Pn) (r q:Value):Array Value:=#[.int .i64 p.t.c,.int .i64 p.t.l,.int .i64 p.t.s,.int .i64 p.s.w,.int .i64 p.s.l,.int .i64 p.s.n,r,q]
def LockRel (b2:Nat) (D:DataW Value) (m:List Pn) (x:Pn) (xs:Array Value) (w wr:World):Prop:=
 ∃(left:Lit→Bool) (cnt:Nat),wr.ranges Tryz.prog 23 anyE b2 (w.heap.size+1) m.length D left cnt∧(∀p∈m,left (txl p.t)=false→clashB p x=false)∧Below w.heap.size w wr∧Blk wr w.heap.size 162 xs
set_option maxRecDepth 100000 in
set_option maxHeartbeats 4000000 in
theorem locked_any (base g b1 b2:Nat) (l:List Hs) (m:List Pn) (x:Pn) (A1 A2:Option Addr) (n1 n2 c1 c2:Nat) (w:World) (h:StoreW w base g b1 b2 l m) (hr:Sl KyRel 1 w w.heap.size A1 n1 x.r) (hw:Sl WtRel 4 w w.heap.size A2 n2 x.w) (hn1:n1≤maxLen) (hn2:n2≤maxLen):
 Calls Tryz.prog 164 #[.pointer (some ⟨g,0,none⟩),x.val (.slice A1 n1 c1) (.slice A2 n2 c2)] w fun e w'=>e=.returned (.bool (lockedB m x))∧Below w.heap.size w w':=by
 unfold maxLen at hn1 hn2
 obtain⟨D,ho,hD⟩:=h.ps
 have hone:=h.one
 obtain⟨gl,k0,k1,k2,k3,k4⟩:=h.blk.fiveC
 have gl1:g<w.heap.size+1:=by omega
 have i3:=Blk.new w 162 (x.arr (.slice A1 n1 c1) (.slice A2 n2 c2))
 have hX:Below w.heap.size w (w.alloc (.cells (x.arr (.slice A1 n1 c1) (.slice A2 n2 c2)) 162)):=by go_grown
 go_enter Tryz.func164,Tryz.ntmps164
 go_wp2_with (first
  |(at_range
    refine wpList_range_own _ rfl _ 229 rfl 23 162 kTxn Tryz.underlying229 anyE b2 m.length D rfl (ho.alloc _) ?_
    intro w0 hrg0 hg0 hs0))
 go_frame
 simp only[World.size_alloc]
 have hb0:Below w.heap.size w w0:=hX.grown hg0 (by simp) (by simp)
 have i30:=i3.grown hg0 (by simp)
 rw[show (w.alloc (.cells (x.arr (.slice A1 n1 c1) (.slice A2 n2 c2)) 162)).heap.size=w.heap.size+1 from by simp]at hrg0
 clear hg0 hs0 i3 hX k0 k1 k2 k3 k4
 go_loopw [16] (fun _ wr=>LockRel b2 D m x (x.arr (.slice A1 n1 c1) (.slice A2 n2 c2)) w wr) (fun _ wr=>wr.rangeLeft b2 (w.heap.size+1))
 case atStart=>
  refine⟨_,_,hrg0,fun p hp hl=>?_,hb0,i30⟩
  obtain⟨_,_,r,q,e,_⟩:=hD.2 p hp
  rw[Maps.has_true_of_atKey e]at hl
  cases hl
 case round=>
  obtain⟨left,cnt,hrg,hdone,hb,i3⟩:=hrel
  have hzz:=hb.size
  go_wp2_with (first
   |(at_next
     refine wpList_next_ranges (α:=Value) (β:=Value) _ rfl _ rfl 23 kTxn anyE id id (fun key kl _=>⟨key,rfl⟩) (fun v y _=>⟨v,rfl⟩) b2 (w.heap.size+1) m.length D left cnt rfl hrg ?_ ?_))
  · intro _ hl0
    have HF:=Lib.hid (show lockedB m x=false by
        unfold lockedB
        rw[List.any_eq_false]
        intro p hp
        rw[hdone p hp (hl0 _)]
        simp)
    go_wp2
    go_ret
    rw[HF.out]
    exact⟨rfl,hb⟩
  · intro xk c kl y ps w1 cnt1 hkey hlk hR hps0 hat hrg1 hlt1 hg1 hs1 hen
    subst hR hps0
    obtain⟨p,hp,rfl⟩:=hD.1 kl (Maps.has_true_of_atKey hat)
    obtain⟨hpt,hps,r,q,e,hdr,hdq⟩:=hD.2 p hp
    have ec:c=p.val r q:=by
        have h1:=hat .nil
        rw[e .nil]at h1
        injection h1 with h1
        exact h1.symm
    subst ec
    obtain⟨A3,n3,c3,rfl,hn3,hc3,hs3⟩:=hdr
    obtain⟨A4,n4,c4,rfl,hn4,hc4,hs4⟩:=hdq
    have hb1:Below w.heap.size w w1:=hb.grown hg1 hzz (by intro k hk;injection hk with hk;omega)
    have i31:=i3.grown hg1 (by intro e;injection e with e;omega)
    have hdone1:∀p'∈m,(left (txl p'.t)&& !(txl p'.t).sameKey (txl p.t))=false→clashB p x=false→clashB p' x=false:=fun p' hp' hl hc=>by
        cases hlp:left (txl p'.t)
        · exact hdone p' hp' hlp
        · rw[hlp]at hl
          have h2:(txl p'.t).sameKey (txl p.t)=true:=by simpa using hl
          have h3:=txl_inj (hD.2 p' hp').1 hpt (WideAt.sameKey_eq h2)
          rw[hone p' hp' p hp h3]
          exact hc
    have hmz:=hrg.left_eq
    have hmz1:=hrg1.left_eq
    clear hat e hkey hrg hdone hs1
    have i6:=Blk.new w1 162 (p.arr (.slice A3 n3 c3) (.slice A4 n4 c4))
    have i32:=i31.alloc (.cells (p.arr (.slice A3 n3 c3) (.slice A4 n4 c4)) 162)
    have hb2:Below w.heap.size w (w1.alloc (.cells (p.arr (.slice A3 n3 c3) (.slice A4 n4 c4)) 162)):=hb1.alloc hb1.size _
    have hrg2:=hrg1.alloc (.cells (p.arr (.slice A3 n3 c3) (.slice A4 n4 c4)) 162)
    obtain⟨_,x30,x31,x32,x33,x34,x35,x36,x37⟩:=i31.eight
    have l31:=i31.lt
    have l32:w.heap.size<w1.heap.size+1:=by omega
    go_wp2
    generalize hg6:w1.heap.size=g6 at*
    generalize (w1.alloc (.cells (p.arr (.slice A3 n3 c3) (.slice A4 n4 c4)) 162))=w2 at*
    have hll:=hw.1
    have hlr:=hr.1
    have hge:n2≤x.w.length:=by omega
    have hge1:n1≤x.r.length:=by omega
    have hle:x.w.length≤n2:=by omega
    have hle1:x.r.length≤n1:=by omega
    have hl3:=hs3.1
    have hl4:=hs4.1
    clear x30 x31 x32 x33 x34 x35 x36 x37 l31 l32 hll hlr hen hg1 hrg1 i31
    go_loopw [23] (fun i wz=>AnyRel (fun a:Wt=>wrL a.key p.w||inL a.key p.r) x.w w2 i wz) (fun i _=>n2-(intOf i).toNat)
    case atStart=>exact⟨0,by omega,rfl,rfl,Below.refl _ _⟩
    case round=>
        obtain⟨k,hk,rfl,ha0,hbz⟩:=hrel
        have hz:=hb2.size
        have hbwz:Below w.heap.size w wr:=hb2.trans (hbz.mono hz)
        have hzz2:=hbz.size
        by_cases hlt:k<n2
        · obtain⟨ad,a,rfl,ha,hbk,hok,c0,c1',c2',c3'⟩:=((hw.below WtRel.kept hbwz).more WtRel.kept hbwz.size).wt hlt
          have hd1:decide ((k:Int)<(n2:Int))=true:=by simp;omega
          have hk0:(0:Int)≤(k:Int):=by omega
          have hk1:(k:Int)<(n2:Int):=by omega
          rw[any_drop ha]at ha0
          have hXz:Below wr.heap.size wr (wr.alloc (.cells #[.string a.key,.int .i64 a.v.k,.float .f64 a.v.n,.string a.v.t] 61)):=by go_grown
          have hXw:Below w.heap.size w (wr.alloc (.cells #[.string a.key,.int .i64 a.v.k,.float .f64 a.v.n,.string a.v.t] 61)):=hbwz.trans (hXz.mono hbwz.size)
          have i8:=Blk.new wr 61 #[.string a.key,.int .i64 a.v.k,.float .f64 a.v.n,.string a.v.t]
          have i6z:=i6.below hbz i6.lt
          have i6X:=i6z.alloc (.cells #[.string a.key,.int .i64 a.v.k,.float .f64 a.v.n,.string a.v.t] 61)
          obtain⟨l6,y0,y1,y2,y3,y4,y5,y6,y7⟩:=i6z.eight
          have l66:g6<wr.heap.size+1:=by omega
          have hW:=writes_any p (.slice A3 n3 c3) a.key A4 n4 c4 _ rfl ((hs4.below WtRel.kept hXw).more WtRel.kept hXw.size) (by unfold maxLen;unfold maxLen at hc4;omega)
          cases hwl:wrL a.key p.w
          · rw[hwl]at hW
            cases hil:inL a.key p.r
            · have HT:=Lib.hid (show (x.w.drop (k+1)).any (fun a:Wt=>wrL a.key p.w||inL a.key p.r)=x.w.any (fun a:Wt=>wrL a.key p.w||inL a.key p.r) by rw[←ha0,hwl,hil];rfl)
              clear ha0 ha
              go_wp2_with (first
               |((with_reducible refine hW.mono ?_);rintro e w5 ⟨rfl,hb5⟩
                 have hXw5:Below w.heap.size w w5:=hXw.trans (hb5.mono hXw.size)
                 obtain⟨l65,v0,v1,v2,v3,v4,v5,v6,v7⟩:=(i6X.below hb5 i6X.lt).eight
                 obtain⟨l85,u0,u1,u2,u3,-⟩:=(i8.below hb5 i8.lt).four
                 have hC:=contains_any A3 n3 c3 p.r a.key w5 ((hs3.below KyRel.kept hXw5).more KyRel.kept hXw5.size) (by omega)
                 rw[hil]at hC)
               |((with_reducible refine hC.mono ?_);rintro e w6 ⟨rfl,hb6⟩))
              go_roundw
              case rel=>exact⟨k+1,by omega,by go_num,HT.out,hbz.trans (Below.mono (hXz.trans ((hb5.mono hXz.size).trans (hb6.mono (Nat.le_trans hXz.size hb5.size)))) hzz2)⟩
              case measure=>simp[intOf];omega
            · have HF:=Lib.hid (show lockedB m x=true by
               unfold lockedB
               rw[List.any_eq_true]
               exact⟨p,hp,by unfold clashB;rw[←ha0,hwl,hil];rfl⟩)
              clear ha0 ha
              go_wp2_with (first
               |((with_reducible refine hW.mono ?_);rintro e w5 ⟨rfl,hb5⟩
                 have hXw5:Below w.heap.size w w5:=hXw.trans (hb5.mono hXw.size)
                 obtain⟨l65,v0,v1,v2,v3,v4,v5,v6,v7⟩:=(i6X.below hb5 i6X.lt).eight
                 obtain⟨l85,u0,u1,u2,u3,-⟩:=(i8.below hb5 i8.lt).four
                 have hC:=contains_any A3 n3 c3 p.r a.key w5 ((hs3.below KyRel.kept hXw5).more KyRel.kept hXw5.size) (by omega)
                 rw[hil]at hC)
               |((with_reducible refine hC.mono ?_);rintro e w6 ⟨rfl,hb6⟩))
              go_ret
              rw[HF.out]
              exact⟨rfl,hXw5.trans (hb6.mono hXw5.size)⟩
          · rw[hwl]at hW
            have HF:=Lib.hid (show lockedB m x=true by
             unfold lockedB
             rw[List.any_eq_true]
             exact⟨p,hp,by unfold clashB;rw[←ha0,hwl];rfl⟩)
            clear ha0 ha
            go_wp2_with ((with_reducible refine hW.mono ?_);rintro e w5 ⟨rfl,hb5⟩)
            go_ret
            rw[HF.out]
            exact⟨rfl,hXw.trans (hb5.mono hXw.size)⟩
        · have hd1:decide ((k:Int)<(n2:Int))=false:=by simp;omega
          have hno:x.w.any (fun a:Wt=>wrL a.key p.w||inL a.key p.r)=false:=by rw[←ha0,List.drop_of_length_le (by omega)];rfl
          clear ha0
          have i6z:=i6.below hbz i6.lt
          have i3z:=i32.below hbz i32.lt
          obtain⟨l6,y0,y1,y2,y3,y4,y5,y6,y7⟩:=i6z.eight
          obtain⟨l3,x30,x31,x32,x33,x34,x35,x36,x37⟩:=i3z.eight
          go_wp2
          have hrg3:=hrg2.kept (grownBy_below hbz none) (by simp) (by simp)
          obtain⟨w3,rfl⟩:∃w3,w3=wr:=⟨_,rfl⟩
          clear y0 y1 y2 y3 y4 y5 y6 y7 x30 x31 x32 x33 x34 x35 x36 x37 hbz hrg2 i6 i32
          go_loopw [42] (fun i wq=>AnyRel (fun k:ByteArray=>wrL k p.w) x.r w3 i wq) (fun i _=>n1-(intOf i).toNat)
          case atStart=>exact⟨0,by omega,rfl,rfl,Below.refl _ _⟩
          case round=>
           obtain⟨k2,hk2,rfl,ha0,hbz⟩:=hrel
           have hz3:=hbwz.size
           have hbwy:Below w.heap.size w wr:=hbwz.trans (hbz.mono hz3)
           have hzz3:=hbz.size
           have i6y:=i6z.below hbz i6z.lt
           obtain⟨l6y,y0,y1,y2,y3,y4,y5,y6,y7⟩:=i6y.eight
           by_cases hlt:k2<n1
           · obtain⟨ad,a,rfl,ha,hbk,hok,c0⟩:=((hr.below KyRel.kept hbwy).more KyRel.kept hbwy.size).ky hlt
             have hd1:decide ((k2:Int)<(n1:Int))=true:=by simp;omega
             have hk0:(0:Int)≤(k2:Int):=by omega
             have hk1:(k2:Int)<(n1:Int):=by omega
             rw[any_drop ha]at ha0
             have hW:=writes_any p (.slice A3 n3 c3) a A4 n4 c4 wr rfl ((hs4.below WtRel.kept hbwy).more WtRel.kept hbwy.size) (by unfold maxLen;unfold maxLen at hc4;omega)
             cases hwl:wrL a p.w
             · rw[hwl]at hW ha0
               have HT:=Lib.hid ha0
               clear ha0 ha
               go_wp2_with ((with_reducible refine hW.mono ?_);rintro e w5 ⟨rfl,hb5⟩)
               go_roundw
               case rel=>exact⟨k2+1,by omega,by go_num,HT.out,hbz.trans (hb5.mono hzz3)⟩
               case measure=>simp[intOf];omega
             · have HF:=Lib.hid (show lockedB m x=true by
                unfold lockedB
                rw[List.any_eq_true]
                exact⟨p,hp,by unfold clashB;rw[←ha0,hwl];simp⟩)
               rw[hwl]at hW
               clear ha0 ha
               go_wp2_with ((with_reducible refine hW.mono ?_);rintro e w5 ⟨rfl,hb5⟩)
               go_ret
               rw[HF.out]
               exact⟨rfl,hbwy.trans (hb5.mono hbwy.size)⟩
           · have hd1:decide ((k2:Int)<(n1:Int))=false:=by simp;omega
             have hno2:x.r.any (fun k:ByteArray=>wrL k p.w)=false:=by rw[←ha0,List.drop_of_length_le (by omega)];rfl
             clear ha0
             have hcl:clashB p x=false:=by unfold clashB;rw[hno,hno2];rfl
             have hrg4:=hrg3.kept (grownBy_below hbz none) (by simp) (by simp)
             have i3y:=i3z.below hbz i3z.lt
             have hmy:=hrg4.left_eq
             clear hno hno2 y0 y1 y2 y3 y4 y5 y6 y7
             go_wp2
             go_roundw
             case rel=>exact⟨_,_,hrg4,fun p' hp' hl=>hdone1 p' hp' hl hcl,hbwy,i3y⟩
             case measure=>rw[hmy,hmz];omega
theorem cell_of_map {w:World} {b:Nat} {es:Array MapEntry} {c:Nat} (h:w.heap[b]?=some (.map es c)) (o:Nat) (sp:_):w.cell? ⟨b,o,sp⟩=none:=by
 simp[World.cell?,h]
theorem owns_block {w:World} {P:Program} {k:TypeId} {b n:Nat} {D:DataW Value} (h:w.ownsMap P k anyE b n D):∃es c,w.heap[b]?=some (.map es c):=by
 obtain⟨es,c,h,_⟩:=h
 exact⟨es,c,h⟩
theorem cell_map_kept {w w':World} {P P':Program} {k k':TypeId} {b n n':Nat} {D D':DataW Value} (h:w.ownsMap P k anyE b n D) (h':w'.ownsMap P' k' anyE b n' D') (hg:w.grownBy w' (some b)):∀p:Addr,p.block<w.heap.size→w'.cell? p=w.cell? p:=by
 intro p hp
 by_cases e:p.block=b
 · obtain⟨es,c,h1⟩:=owns_block h
   obtain⟨es',c',h2⟩:=owns_block h'
   obtain⟨q,o,sp⟩:=p
   simp only at e
   subst e
   rw[cell_of_map h1,cell_of_map h2]
 · exact hg.cell_far p hp (fun e2=>by injection e2 with e2;exact e e2)
section
variable {w w':World} {base g b1 b2:Nat} {l:List Hs} {m:List Pn}
theorem KeysD.keep {B:Nat} {D:DataW Value} (h:KeysD w B D l) (hk:∀p:Addr,p.block<B→w'.cell? p=w.cell? p):KeysD w' B D l:=fun key=>by
 obtain⟨v,e,hv⟩:=h key
 exact⟨v,e,hv.keep VnRel.kept hk⟩
theorem PendD.keep {B:Nat} {D:DataW Value} (h:PendD w B D m) (hk:∀p:Addr,p.block<B→w'.cell? p=w.cell? p):PendD w' B D m:=⟨h.1,fun p hp=>by
 obtain⟨h1,h2,r,q,e,hr,hq⟩:=h.2 p hp
 exact⟨h1,h2,r,q,e,hr.keep KyRel.kept hk,hq.keep WtRel.kept hk⟩⟩
theorem StoreW.put1 (h:StoreW w base g b1 b2 l m) {x:Hs} {v:Value} (hk:x.key.size≤maxLen) (hl:l.length<maxLen) (hv:HdRel VnRel 6 w w.heap.size v x.vs):
 ∃w',(Instr.mapUpdate 228 (.map (some b1)) (.string x.key) v).run Tryz.prog w=.ok () w'∧StoreW w' base g b1 b2 (l++[x]) m∧w.grownBy w' (some b1)∧(∀p:Addr,p.block<w.heap.size→w'.cell? p=w.cell? p):=by
 obtain⟨D1,o1,k1⟩:=h.ks
 obtain⟨D2,o2,k2⟩:=h.ps
 have hkey:keyOf Tryz.prog 9 (.string x.key)=some (keyLit x.key):=WideMaps.keyOf_string_mk Tryz.underlying9 hk
 obtain⟨w1,hrun,ho,hg⟩:=o1.update kStr Tryz.underlying228 hl hkey (val:=v) (d:=.held v) (ps:=[]) rfl
 have hc:=cell_map_kept o1 ho hg
 have hs:=hg.size
 refine⟨w1,hrun,⟨?_,h.g0,h.b10,h.b20,h.ne,h.ne1,h.ne2,⟨_,by rw[List.length_append];exact ho,?_⟩,h.one,⟨D2,o2.kept hg (fun e=>h.ne (by injection e with e;exact e.symm)),(k2.keep hc).more hs⟩⟩,hg,hc⟩
 · exact h.blk.grown hg (fun e=>h.ne1 (by injection e))
 · exact((k1.put o1.isMap hv).keep hc).more hs
theorem StoreW.put2 (h:StoreW w base g b1 b2 l m) {x:Pn} {r q:Value} (ht:x.t.ok) (hs0:x.s.ok) (hl:m.length<maxLen) (hr:HdRel KyRel 1 w w.heap.size r x.r) (hq:HdRel WtRel 4 w w.heap.size q x.w) (hn:∀y∈m,y.t≠x.t):
 ∃w',(Instr.mapUpdate 229 (.map (some b2)) x.t.val (x.val r q)).run Tryz.prog w=.ok () w'∧StoreW w' base g b1 b2 l (m++[x])∧w.grownBy w' (some b2)∧(∀p:Addr,p.block<w.heap.size→w'.cell? p=w.cell? p):=by
 obtain⟨D1,o1,k1⟩:=h.ks
 obtain⟨D2,o2,k2⟩:=h.ps
 obtain⟨w1,hrun,ho,hg⟩:=o2.update kTxn Tryz.underlying229 hl (txl_of ht) (val:=x.val r q) (d:=.held (x.val r q)) (ps:=[]) rfl
 have hc:=cell_map_kept o2 ho hg
 have hs:=hg.size
 refine⟨w1,hrun,⟨?_,h.g0,h.b10,h.b20,h.ne,h.ne1,h.ne2,⟨D1,o1.kept hg (fun e=>h.ne (by injection e)),(k1.keep hc).more hs⟩,?_,⟨_,by rw[List.length_append];exact ho,?_⟩⟩,hg,hc⟩
 · exact h.blk.grown hg (fun e=>h.ne2 (by injection e))
 · intro p hp p' hp' e
   rcases List.mem_append.1 hp with hq1|hq1<;>rcases List.mem_append.1 hp' with hq2|hq2
   · exact h.one p hq1 p' hq2 e
   · simp only[List.mem_cons,List.not_mem_nil,or_false]at hq2
     rw[hq2]at e
     exact absurd e (hn p hq1)
   · simp only[List.mem_cons,List.not_mem_nil,or_false]at hq1
     rw[hq1]at e
     exact absurd e.symm (hn p' hq2)
   · simp only[List.mem_cons,List.not_mem_nil,or_false]at hq1 hq2
     rw[hq1,hq2]
 · exact((k2.put o2.isMap ht hs0 hr hq hn).keep hc).more hs
theorem StoreW.look2 (h:StoreW w base g b1 b2 l m) {t:Tx} (ht:t.ok):
 ∃cs:Array Value,(∀w',Below w.heap.size w w'→(Instr.lookup 229 (.map (some b2)) t.val true).run Tryz.prog w'=.ok (.tuple #[.agg cs,.bool (m.any fun y=>decide (y.t=t))]) w')∧cs.size=8∧cs.all (·.oneCell')=true:=by
 obtain⟨D,o,k1,k2⟩:=h.ps
 have hh:Maps.has D (txl t)=m.any fun y=>decide (y.t=t):=by
  rw[Bool.eq_iff_iff,List.any_eq_true]
  constructor
  · intro hd
    obtain⟨p,hp,e⟩:=k1 _ hd
    exact⟨p,hp,by simp[txl_inj (k2 p hp).1 ht e.symm]⟩
  · rintro⟨p,hp,e⟩
    obtain⟨_,_,r,q,e2,_⟩:=k2 p hp
    have e3:p.t=t:=by simpa using e
    rw[e3]at e2
    exact Maps.has_true_of_atKey e2
 have run:∀cs:Array Value,D.atKey (txl t) (.held (.agg #[.int .i64 0,.int .i64 0,.int .i64 0,.int .i64 0,.int .i64 0,.int .i64 0,.slice none 0 0,.slice none 0 0]))=.held (.agg cs)→
  ∀w',Below w.heap.size w w'→(Instr.lookup 229 (.map (some b2)) t.val true).run Tryz.prog w'=.ok (.tuple #[.agg cs,.bool (m.any fun y=>decide (y.t=t))]) w':=by
  intro cs hcs w' hb
  obtain⟨v,ps,hrun,hat⟩:=(o.kept (grownBy_below hb none) (by simp)).look_ok kTxn Tryz.underlying229 (z:=.agg #[.int .i64 0,.int .i64 0,.int .i64 0,.int .i64 0,.int .i64 0,.int .i64 0,.slice none 0 0,.slice none 0 0]) (by rfl) rfl (txl_of ht)
  injection hat with hat
  injection hat with hat _
  rw[hcs]at hat
  injection hat with hat
  rw[hh,hat]at hrun
  exact hrun
 cases hd:Maps.has D (txl t)
 · exact⟨_,run _ (Maps.atKey_of_not_has hd _),rfl,by kernel_rfl⟩
 · obtain⟨p,hp,e⟩:=k1 _ hd
   obtain⟨_,_,r,q,e2,⟨A1,n1,c1,rfl,_⟩,⟨A2,n2,c2,rfl,_⟩⟩:=k2 p hp
   exact⟨_,run _ (by rw[e,e2]),rfl,by kernel_rfl⟩
end
section
variable {P:Program} {md:Region.Mode} {ops:Array Oper} {Q:Exit→Act→World→Prop} {S:World→Prop} {fuel:Nat} {listed:Array Bool} {a:Act} {w:World} {i:Nat} {op:Oper}
theorem wpAnyH_store_row (hr:Region.ready md ops listed=[i]) (ho:ops[i]?=some op) (hg:op.guard=none) (ty:TypeId) (x y:Operand) (hop:op.op=.store ty x y)
 (g:Nat) (cells:Array Value) (hx:a.eval x=.pointer (some ⟨g,0,none⟩)) (hy:a.eval y=.agg cells) (t:TypeId) (old:Array Value) (hb:Blk w g t old) (hi:(P.info? ty).map (·.size)=some cells.size) (hold:old.size=cells.size) (h1:cells.all (·.oneCell')=true)
 (hS:S (w.setRow g cells)) (h:∀w',S w'→wpAnyH P md ops Q S fuel (listed.setIfInBounds i true) (a.put op.dst undef) w'):wpAnyH P md ops Q S (fuel+1) listed a w:=by
 refine wpAnyH_all hr (by simp) (fun j hj=>?_)
 obtain rfl:j=i:=by simpa using hj
 refine wpOp_step ho (fun K' hK=>?_)
 have hw:Region.wanted op (yielded ops a.tmps)=true:=by simp[Region.wanted,hg]
 rw[if_pos hw]
 exact wp_store_row ty x y hop g cells hx hy t old hb hi hold h1 (hK _ _ ⟨hS,h _ hS⟩)
theorem wpAnyH_alloc (hr:Region.ready md ops listed=[i]) (ho:ops[i]?=some op) (hg:op.guard=none) (ty:TypeId) (_hop:op.op=.alloc ty) (o:Obj)
 (hrun:(execOp a.eval op).run P w=.ok (.value (.pointer (some ⟨w.heap.size,0,none⟩))) (w.alloc o))
 (hS:S (w.alloc o)) (h:wpAnyH P md ops Q S fuel (listed.setIfInBounds i true) (a.put op.dst (.pointer (some ⟨w.heap.size,0,none⟩))) (w.alloc o)):wpAnyH P md ops Q S (fuel+1) listed a w:=by
 refine wpAnyH_all hr (by simp) (fun j hj=>?_)
 obtain rfl:j=i:=by simpa using hj
 refine wpOp_step ho (fun K' hK=>?_)
 have hw:Region.wanted op (yielded ops a.tmps)=true:=by simp[Region.wanted,hg]
 rw[if_pos hw]
 unfold Oper.wp
 rw[hrun]
 exact hK _ _ ⟨hS,h⟩
end
abbrev zeroPn:Array Value:=#[.int .i64 0,.int .i64 0,.int .i64 0,.int .i64 0,.int .i64 0,.int .i64 0,.slice none 0 0,.slice none 0 0]
theorem alloc_pn (ev:Operand→Value) (op:Oper) (hop:op.op=.alloc 162) (w:World):(execOp ev op).run Tryz.prog w=.ok (.value (.pointer (some ⟨w.heap.size,0,none⟩))) (w.alloc (.cells zeroPn 162)):=by
 unfold execOp
 simp only[hop]
 go_simp
def histsB:ByteArray→List Hs→Bool
 |_,[]=>true
 |p,h::l=>histB p h&&histsB h.key l
theorem histsB_drop {l:List Hs} {k:Nat} {a:Hs} (p:ByteArray) (h:l[k]?=some a):histsB p (l.drop k)=(histB p a&&histsB a.key (l.drop (k+1))):=by
 have h1:=List.getElem?_eq_some_iff.1 h
 rw[List.drop_eq_getElem_cons h1.1,h1.2];rfl
def pendsE (H:List Hs):List Pn→List Pn→Int
 |_,[]=>0
 |m,x::l=>if pendE x≠0 then pendE x else if (m.any fun y=>decide (y.t=x.t)) then 9 else if lockedB m x then 18 else if oldB H x then 20 else pendsE H (m++[x]) l
def loadE (H:List Hs) (Q:List Pn):Int:=if histsB ⟨#[]⟩ H then pendsE H [] Q else 4
theorem pendsE_drop {H:List Hs} {l:List Pn} {k:Nat} {x:Pn} (h:l[k]?=some x):pendsE H (l.take k) (l.drop k)=
 if pendE x≠0 then pendE x else if ((l.take k).any fun y=>decide (y.t=x.t)) then 9 else if lockedB (l.take k) x then 18 else if oldB H x then 20 else pendsE H (l.take (k+1)) (l.drop (k+1)):=by
 have h1:=List.getElem?_eq_some_iff.1 h
 rw[List.drop_eq_getElem_cons h1.1,h1.2,List.take_add_one,h]
 rfl
def SmallH (H:List Hs):Prop:=H.length≤1000000∧∀h∈H,h.vs.length≤1000000
def SmallP (Q:List Pn):Prop:=Q.length≤1000000∧∀p∈Q,p.r.length≤1000000∧p.w.length≤1000000
def Load1 (H:List Hs) (base g b1 b2:Nat) (w:World) (v i:Value) (wr:World):Prop:=
 ∃(k:Nat) (p:ByteArray),k≤H.length∧i=.int .i64 (k:Int)∧v=.string p∧histsB p (H.drop k)=histsB ⟨#[]⟩ H∧StoreW wr base g b1 b2 (H.take k) []∧Below w.heap.size w wr
def Load2 (H:List Hs) (Q:List Pn) (base g b1 b2:Nat) (w:World) (i:Value) (wr:World):Prop:=
 ∃k:Nat,k≤Q.length∧i=.int .i64 (k:Int)∧pendsE H (Q.take k) (Q.drop k)=pendsE H [] Q∧StoreW wr base g b1 b2 H (Q.take k)∧Below w.heap.size w wr
theorem load_any (A1 A2:Option Addr) (n1 n2 c1 c2:Nat) (H:List Hs) (Q:List Pn) (w:World) (h1:Sl HsRel 2 w w.heap.size A1 n1 H) (h2:Sl PnRel 8 w w.heap.size A2 n2 Q) (hH:SmallH H) (hQ:SmallP Q):
 Calls Tryz.prog 110 #[.slice A1 n1 c1,.slice A2 n2 c2] w fun e w'=>∃v,e=.returned (.tuple #[v,.int .i64 (loadE H Q)])∧Below w.heap.size w w':=by
 have hl1:=h1.1
 have hl2:=h2.1
 have hge1:n1≤H.length:=by omega
 have hle1:H.length≤n1:=by omega
 have hge2:n2≤Q.length:=by omega
 have hle2:Q.length≤n2:=by omega
 have hn1:n1≤1000000:=Nat.le_trans hge1 hH.1
 have hn2:n2≤1000000:=Nat.le_trans hge2 hQ.1
 clear hl1 hl2
 go_enter Tryz.func110,Tryz.ntmps110
 go_wp2_with fail
 refine(new_store w).mono ?_
 rintro e w1 ⟨g,b1,b2,rfl,hst,hb1⟩
 go_wp2_with fail
 go_loopw [7,18] (fun v i wr=>Load1 H w.heap.size g b1 b2 w v i wr) (fun _ i _=>n1-(intOf i).toNat)
 case atStart=>exact⟨0,⟨#[]⟩,by omega,rfl,rfl,rfl,hst,hb1⟩
 case round=>
  obtain⟨k,p,hk,rfl,rfl,hs,hst,hb⟩:=hrel
  have hzz:=hb.size
  by_cases hlt:k<n1
  · obtain⟨ad,a,A',n',c',rfl,ha,hbk,hkz,d0,d1,hn',hc',hsv⟩:=((h1.below HsRel.kept hb).more HsRel.kept hb.size).hs hlt
    have hd1:decide ((k:Int)<(n1:Int))=true:=by simp;omega
    have hk0:(0:Int)≤(k:Int):=by omega
    have hk1:(k:Int)<(n1:Int):=by omega
    have hsm:n'≤1000000:=by
        have:=hH.2 a (List.mem_of_getElem? ha)
        have:=hsv.1
        omega
    rw[histsB_drop p ha]at hs
    have hX:Below wr.heap.size wr (wr.alloc (.cells #[.string a.key,.slice A' n' c'] 158)):=by go_grown
    have i9:=Blk.new wr 158 #[.string a.key,.slice A' n' c']
    have hstX:=hst.below hX
    have hsX:=(hsv.below VnRel.kept hX).more VnRel.kept hX.size
    have hbX:Below w.heap.size w (wr.alloc (.cells #[.string a.key,.slice A' n' c'] 158)):=hb.trans (hX.mono hzz)
    have hHi:=history_any A' n' c' a p _ hsX (by unfold maxLen;omega)
    cases hhb:histB p a
    · have HF:=Lib.hid (show loadE H Q=4 by unfold loadE;rw[←hs,hhb];rfl)
      rw[hhb]at hHi
      clear hs ha
      go_wp2_with ((with_reducible refine hHi.mono ?_);rintro e w2 ⟨rfl,hb2⟩)
      go_ret2
      rw[HF.out]
      exact⟨_,rfl,hbX.trans (hb2.mono hbX.size)⟩
    · rw[hhb]at hHi hs
      have HT:=Lib.hid (show histsB a.key (H.drop (k+1))=histsB ⟨#[]⟩ H from hs)
      have HK:=Lib.hid (show H.take (k+1)=H.take k++[a] by rw[List.take_add_one,ha];rfl)
      clear hs ha
      go_wp2_with ((with_reducible refine hHi.mono ?_);rintro e w2 ⟨rfl,hb2⟩)
      have j9:=i9.below hb2 i9.lt
      have hst2:=hstX.below hb2
      have hs2:=(hsX.below VnRel.kept hb2).more VnRel.kept hb2.size
      have hw2:Below w.heap.size w w2:=hbX.trans (hb2.mono hbX.size)
      have hw2z:=hw2.size
      clear i9 hstX hsX hX hbX hb2 hHi hst hsv d0 d1
      generalize hg9:wr.heap.size=g9 at*
      have hlen:(H.take k).length≤1000000:=by simp;omega
      have hsv5:∀v∈a.vs,Vn.ok v:=Sl.all_ok hs2
      have hC:=clone_vn A' n' c' a.vs w2.drew hs2 hsm
      obtain⟨l9,x0,-⟩:g9<w2.heap.size∧w2.cell? ⟨g9,0,none⟩=some (.string a.key)∧True:=⟨j9.lt,j9.cell 0,trivial⟩
      have x1:=cl (j9.cell 1)
      obtain⟨lg,y0,-⟩:=hst2.blk.fiveC
      go_region_held3 (fun w'=>w'.cell? ⟨g,0,none⟩=some (.map (some b1))∧w'.cell? ⟨g9,0,none⟩=some (.string a.key)∧w'.cell? ⟨g9,1,none⟩=some (.slice A' n' c'))
       (first|exact⟨y0,x0,x1⟩|exact⟨z0,z1,z2⟩|exact⟨(hc6 _ lg5).trans z0,(hc6 _ l95).trans z1,(hc6 _ l95).trans z2⟩)
       (first|((with_reducible refine hC.mono ?_);rintro e w5 ⟨v5,rfl,ho5,hb5⟩;have z0:=(hb5.cell (p:=⟨g,0,none⟩) lg).trans y0;have z1:=(hb5.cell (p:=⟨g9,0,none⟩) l9).trans x0;have z2:=(hb5.cell (p:=⟨g9,1,none⟩) l9).trans x1;have lg5:g<w5.heap.size:=Nat.lt_of_lt_of_le lg hb5.size;have l95:g9<w5.heap.size:=Nat.lt_of_lt_of_le l9 hb5.size;obtain⟨w6,hrun,hst6,hg6,hc6⟩:=(hst2.below (Below.trans (Below.refl _ _).drew hb5)).put1 (reach_max hkz) (by unfold maxLen;omega) (ho5.sl (by omega) vn_len hsv5)))
      have hw5:Below w.heap.size w w5:=hw2.drew.trans (hb5.mono hw2z)
      have hw6:Below w.heap.size w w6:=hw5.grown hg6 hw5.size (by intro q hq;injection hq with hq;rw[←hq];exact hst6.b10)
      have u0:=(hc6 ⟨g9,0,none⟩ l95).trans z1
      have l96:g9<w6.heap.size:=Nat.lt_of_lt_of_le l95 hg6.size
      clear x0 x1 y0 z0 z1 z2 hrun hC hc6
      go_wp2
      go_roundw
      case rel=>
       refine⟨k+1,a.key,by omega,by go_num,rfl,HT.out,?_,hw6⟩
       rw[HK.out]
       exact hst6
      case measure=>simp[intOf];omega
  · have hd1:decide ((k:Int)<(n1:Int))=false:=by simp;omega
    have hL:loadE H Q=pendsE H [] Q:=by
        unfold loadE
        rw[←hs,List.drop_of_length_le (by omega)];rfl
    rw[List.take_of_length_le (by omega)]at hst
    clear hs
    go_wp2
    obtain⟨w3,rfl⟩:∃w3,w3=wr:=⟨_,rfl⟩
    go_loopw [40] (fun i wr=>Load2 H Q w.heap.size g b1 b2 w i wr) (fun i _=>n2-(intOf i).toNat)
    case atStart=>exact⟨0,by omega,rfl,rfl,hst,hb⟩
    case round=>
        clear hst hb hzz
        obtain⟨k2,hk2,rfl,hs,hst,hb⟩:=hrel
        have hzz:=hb.size
        by_cases hlt:k2<n2
        · obtain⟨ad,x,A3,n3,c3,A4,n4,c4,rfl,ha,hbk,hxt,hxs,d0,d1,d2,d3,d4,d5,d6,d7,hn3,hc3,hs3,hn4,hc4,hs4⟩:=((h2.below PnRel.kept hb).more PnRel.kept hb.size).pn hlt
          have hd1:decide ((k2:Int)<(n2:Int))=true:=by simp;omega
          have hk0:(0:Int)≤(k2:Int):=by omega
          have hk1:(k2:Int)<(n2:Int):=by omega
          have hsm:=hQ.2 x (List.mem_of_getElem? ha)
          have hl3:=hs3.1
          have hl4:=hs4.1
          rw[pendsE_drop ha]at hs
          have HK:=Lib.hid (show Q.take (k2+1)=Q.take k2++[x] by rw[List.take_add_one,ha];rfl)
          have hlen:(Q.take k2).length≤1000000:=by simp;omega
          have hX:Below wr.heap.size wr (wr.alloc (.cells (x.arr (.slice A3 n3 c3) (.slice A4 n4 c4)) 162)):=by go_grown
          have i11:=Blk.new wr 162 (x.arr (.slice A3 n3 c3) (.slice A4 n4 c4))
          have hstX:=hst.below hX
          have hr:=(hs3.below KyRel.kept hX).more KyRel.kept hX.size
          have hw:=(hs4.below WtRel.kept hX).more WtRel.kept hX.size
          have hbX:Below w.heap.size w (wr.alloc (.cells (x.arr (.slice A3 n3 c3) (.slice A4 n4 c4)) 162)):=hb.trans (hX.mono hzz)
          have hPe:=pend_any x A3 A4 n3 n4 c3 c4 _ hr hw (by unfold maxLen;omega) (by omega)
          generalize hpe:pendE x=pe at*
          clear ha
          go_wp2_with ((with_reducible refine hPe.mono ?_);rintro e w4 ⟨rfl,hb4⟩)
          have j11:=i11.below hb4 i11.lt
          have hst4:=hstX.below hb4
          have hr4:=(hr.below KyRel.kept hb4).more KyRel.kept hb4.size
          have hw4:=(hw.below WtRel.kept hb4).more WtRel.kept hb4.size
          have hbw4:Below w.heap.size w w4:=hbX.trans (hb4.mono hbX.size)
          clear i11 hstX hr hw hX hbX hb4 hPe d0 d1 d2 d3 d4 d5 d6 d7 hst hb hs3 hs4
          generalize hg11:wr.heap.size=g11 at*
          obtain⟨cs,hlk,hcs,hcs1⟩:=hst4.look2 hxt
          generalize htw:((Q.take k2).any fun y=>decide (y.t=x.t))=tw at*
          have lg:=hst4.blk.lt
          have l11:=j11.lt
          have y1:=cl (hst4.blk.cell 1)
          refine wp_region_held_drew (S:=fun w'=>Below w4.heap.size w4 w') (by kernel_rfl) (Below.refl _ _).drew (fun hHeld=>?_)
          refine wpAnyH_take (i:=0) (v:=.pointer (some ⟨g,0,none⟩)) rfl (by kernel_rfl) (by kernel_rfl) (by kernel_rfl) (fun _ _ _ h=>h) (Or.inl ⟨by rfl,fun W hSw=>by clear hSw;go_simp⟩) hHeld ?_
          go_frame
          refine wpAnyH_take (i:=1) (v:=.pointer (some ⟨g,0,none⟩)) rfl (by kernel_rfl) (by kernel_rfl) (by kernel_rfl) (fun _ _ _ h=>h) (Or.inl ⟨by rfl,fun W hSw=>by clear hSw;go_simp⟩) hHeld ?_
          go_frame
          refine wpAnyH_take (i:=2) (v:=.pointer (some ⟨g,1,none⟩)) rfl (by kernel_rfl) (by kernel_rfl) (by kernel_rfl) (fun _ _ _ h=>h) (Or.inl ⟨by rfl,fun W hSw=>by clear hSw;go_simp⟩) hHeld ?_
          go_frame
          refine wpAnyH_take (i:=3) (v:=.map (some b2)) rfl (by kernel_rfl) (by kernel_rfl) (by kernel_rfl) (fun _ _ _ h=>h) (Or.inl ⟨by rfl,fun W hSw=>by have z:=(hSw.cell (p:=⟨g,1,none⟩) lg).trans y1;clear hSw;go_simp⟩) hHeld ?_
          go_frame
          refine wpAnyH_take (i:=4) (v:=.pointer (some ⟨g11,0,none⟩)) rfl (by kernel_rfl) (by kernel_rfl) (by kernel_rfl) (fun _ _ _ h=>h) (Or.inl ⟨by rfl,fun W hSw=>by clear hSw;go_simp⟩) hHeld ?_
          go_frame
          refine wpAnyH_take (i:=5) rfl (by kernel_rfl) (by kernel_rfl) (by kernel_rfl) (fun _ _ _ h=>h) (yieldsIf_load_mid (by rfl) _ _ rfl g11 0 rfl [.int .i64 x.t.c,.int .i64 x.t.l,.int .i64 x.t.s] _ (fun W hSw=>(j11.below hSw l11).range 0 _ (three_of rfl rfl rfl)) rfl rfl (by kernel_rfl)) hHeld ?_
          go_frame
          refine wpAnyH_take (i:=6) (v:=.tuple #[.agg cs,.bool tw]) rfl (by kernel_rfl) (by kernel_rfl) (by kernel_rfl) (fun _ _ _ h=>h) (Or.inl ⟨by rfl,fun W hSw=>by have z:=hlk W hSw;clear hSw;go_simp⟩) hHeld ?_
          go_frame
          refine wpAnyH_take (i:=7) (v:=.tuple #[.agg cs,.bool tw]) rfl (by kernel_rfl) (by kernel_rfl) (by kernel_rfl) (fun _ _ _ h=>h) (Or.inl ⟨by rfl,fun W hSw=>by clear hSw;go_simp⟩) hHeld ?_
          go_frame
          refine wpAnyH_take (i:=8) (v:=.agg cs) rfl (by kernel_rfl) (by kernel_rfl) (by kernel_rfl) (fun _ _ _ h=>h) (Or.inl ⟨by rfl,fun W hSw=>by clear hSw;go_simp⟩) hHeld ?_
          go_frame
          refine wpAnyH_take (i:=9) (v:=.bool tw) rfl (by kernel_rfl) (by kernel_rfl) (by kernel_rfl) (fun _ _ _ h=>h) (Or.inl ⟨by rfl,fun W hSw=>by clear hSw;go_simp⟩) hHeld ?_
          go_frame
          have hbA:Below w4.heap.size w4 (w4.drew.alloc (.cells zeroPn 162)):=(Below.refl _ _).drew.alloc (Nat.le_refl _) _
          refine wpAnyH_alloc (i:=10) (by kernel_rfl) rfl rfl _ rfl (.cells zeroPn 162) (alloc_pn _ _ rfl _) hbA ?_
          go_frame
          have i13:=Blk.new w4.drew 162 zeroPn
          have hbB:Below w4.heap.size w4 ((w4.drew.alloc (.cells zeroPn 162)).setRow w4.drew.heap.size cs):=below_setRow hbA (Nat.le_refl _) cs
          have hi1:(Tryz.prog.info? 162).map (·.size)=some cs.size:=by rw[hcs];kernel_rfl
          have hi2:zeroPn.size=cs.size:=by rw[hcs];rfl
          refine wpAnyH_store_row (i:=11) (by kernel_rfl) rfl rfl _ _ _ rfl w4.drew.heap.size cs (by kernel_rfl) (by kernel_rfl) _ zeroPn i13 hi1 hi2 hcs1 hbB ?_
          clear hbB hbA i13
          intro w5 hbB
          go_frame
          refine wpAnyH_take (i:=12) (v:=.bool tw) rfl (by kernel_rfl) (by kernel_rfl) (by kernel_rfl) (fun _ _ _ h=>h) (Or.inl ⟨by rfl,fun W hSw=>by clear hSw;go_simp⟩) hbB ?_
          go_frame
          refine td ?_
          have k11:=j11.below hbB l11
          have hst5:=hst4.below hbB
          have hr5:=(hr4.below KyRel.kept hbB).more KyRel.kept hbB.size
          have hw5:=(hw4.below WtRel.kept hbB).more WtRel.kept hbB.size
          have hbw5:Below w.heap.size w w5:=hbw4.trans (hbB.mono hbw4.size)
          clear j11 hst4 hr4 hw4 hbw4 hbB hHeld hlk hcs hcs1 y1 lg l11
          have lg:=hst5.blk.lt
          have l11:=k11.lt
          have x0:=k11.cell 0
          have x1:=k11.cell 1
          have x2:=k11.cell 2
          have x3:=k11.cell 3
          have x4:=k11.cell 4
          have x5:=k11.cell 5
          have x6:=k11.cell 6
          have x7:=k11.cell 7
          simp only[List.getElem?_toArray,List.getElem?_cons_succ,List.getElem?_cons_zero]at x0 x1 x2 x3 x4 x5 x6 x7
          have hLk:=locked_any w.heap.size g b1 b2 H (Q.take k2) x A3 A4 n3 n4 c3 c4 w5 hst5 hr5 hw5 (by unfold maxLen;omega) (by unfold maxLen;omega)
          by_cases hp0:pe=0
          · have hpn:(pe !=0)=false:=by simp[hp0]
            rw[if_neg (fun e=>e hp0)]at hs
            by_cases htb:tw=true
            · have HF:=Lib.hid (show loadE H Q=9 by rw[hL,←hs,if_pos htb])
              clear hs hp0
              go_wp2
              go_ret2
              rw[HF.out]
              exact⟨_,rfl,hbw5⟩
            rw[if_neg htb]at hs
            have htf:tw=false:=by simpa using htb
            by_cases hlb:lockedB (Q.take k2) x=true
            · have HF:=Lib.hid (show loadE H Q=18 by rw[hL,←hs,if_pos hlb])
              rw[hlb]at hLk
              clear hs hp0 hlb htb
              go_wp2_with ((with_reducible refine hLk.mono ?_);rintro e w6 ⟨rfl,hb6⟩)
              go_ret2
              rw[HF.out]
              exact⟨_,rfl,hbw5.trans (hb6.mono hbw5.size)⟩
            rw[if_neg hlb]at hs
            have hlf:lockedB (Q.take k2) x=false:=by simpa using hlb
            rw[hlf]at hLk
            clear hp0 hlb hlf htb
            go_wp2_with (go_at_call 164;fail)
            refine hLk.mono ?_
            rintro e w6 ⟨rfl,hb6⟩
            have k116:=k11.below hb6 l11
            have hst6:=hst5.below hb6
            have hr6:=(hr5.below KyRel.kept hb6).more KyRel.kept hb6.size
            have hw6:=(hw5.below WtRel.kept hb6).more WtRel.kept hb6.size
            have hbw6:Below w.heap.size w w6:=hbw5.trans (hb6.mono hbw5.size)
            clear k11 hst5 hr5 hw5 hbw5 hb6 x0 x1 x2 x3 x4 x5 x6 x7 l11 hLk lg
            have l11:=k116.lt
            have x0:=k116.cell 0
            have x1:=k116.cell 1
            have x2:=k116.cell 2
            have x3:=k116.cell 3
            have x4:=k116.cell 4
            have x5:=k116.cell 5
            have x6:=k116.cell 6
            have x7:=k116.cell 7
            simp only[List.getElem?_toArray,List.getElem?_cons_succ,List.getElem?_cons_zero]at x0 x1 x2 x3 x4 x5 x6 x7
            have hOl:=old_any w.heap.size g b1 b2 H (Q.take k2) x A3 A4 n3 n4 c3 c4 w6 hst6 hw6 (by omega)
            by_cases hob:oldB H x=true
            · have HF:=Lib.hid (show loadE H Q=20 by rw[hL,←hs,if_pos hob])
              rw[hob]at hOl
              clear hs hob
              go_wp2_with ((with_reducible refine hOl.mono ?_);rintro e w7 ⟨rfl,hb7⟩)
              go_ret2
              rw[HF.out]
              exact⟨_,rfl,hbw6.trans (hb7.mono hbw6.size)⟩
            rw[if_neg hob]at hs
            have hof:oldB H x=false:=by simpa using hob
            rw[hof]at hOl
            have HT:=Lib.hid hs
            clear hob hof hs
            go_wp2_with (go_at_call 165;fail)
            refine hOl.mono ?_
            rintro e w7 ⟨rfl,hb7⟩
            have k117:=k116.below hb7 l11
            have hst7:=hst6.below hb7
            have hr7:=(hr6.below KyRel.kept hb7).more KyRel.kept hb7.size
            have hw7:=(hw6.below WtRel.kept hb7).more WtRel.kept hb7.size
            have hbw7:Below w.heap.size w w7:=hbw6.trans (hb7.mono hbw6.size)
            have hn:∀y∈Q.take k2,y.t≠x.t:=fun y hy e=>by
             rw[htf]at htw
             have:=List.any_eq_false.1 htw y hy
             simp[e]at this
            clear k116 hst6 hr6 hw6 hbw6 hb7 x0 x1 x2 x3 x4 x5 x6 x7 l11 hOl htw hpe hL
            have l11:=k117.lt
            have lg:=hst7.blk.lt
            have y1:=cl (hst7.blk.cell 1)
            have x0:=k117.cell 0
            have x1:=k117.cell 1
            have x2:=k117.cell 2
            have x3:=k117.cell 3
            have x4:=k117.cell 4
            have x5:=k117.cell 5
            have x6:=k117.cell 6
            have x7:=k117.cell 7
            simp only[List.getElem?_toArray,List.getElem?_cons_succ,List.getElem?_cons_zero]at x0 x1 x2 x3 x4 x5 x6 x7
            have hCl:=pclone_any x A3 A4 n3 n4 c3 c4 w7.drew hr7 hw7 (by omega) (by omega)
            have hok3:∀a∈x.r,a.size≤140737488351232:=Sl.all_ok hr7
            have hok4:∀a∈x.w,Wt.ok a:=Sl.all_ok hw7
            have HX:=Lib.hid hok3
            have HY:=Lib.hid hok4
            clear hok3 hok4
            go_wp2
            go_region_held3 (fun w'=>w'.cell? ⟨g,1,none⟩=some (.map (some b2))∧w'.cell? ⟨g11,0,none⟩=some (.int .i64 x.t.c)∧w'.cell? ⟨g11,1,none⟩=some (.int .i64 x.t.l)∧w'.cell? ⟨g11,2,none⟩=some (.int .i64 x.t.s)∧w'.cell? ⟨g11,3,none⟩=some (.int .i64 x.s.w)∧w'.cell? ⟨g11,4,none⟩=some (.int .i64 x.s.l)∧w'.cell? ⟨g11,5,none⟩=some (.int .i64 x.s.n)∧w'.cell? ⟨g11,6,none⟩=some (.slice A3 n3 c3)∧w'.cell? ⟨g11,7,none⟩=some (.slice A4 n4 c4))
             (first|exact⟨y1,x0,x1,x2,x3,x4,x5,x6,x7⟩|exact z0|exact⟨(hc6 _ lg5).trans z0.1,(hc6 _ l95).trans z0.2.1,(hc6 _ l95).trans z0.2.2.1,(hc6 _ l95).trans z0.2.2.2.1,(hc6 _ l95).trans z0.2.2.2.2.1,(hc6 _ l95).trans z0.2.2.2.2.2.1,(hc6 _ l95).trans z0.2.2.2.2.2.2.1,(hc6 _ l95).trans z0.2.2.2.2.2.2.2.1,(hc6 _ l95).trans z0.2.2.2.2.2.2.2.2⟩)
             (first|((with_reducible refine hCl.mono ?_);rintro e w8 ⟨r8,q8,rfl,hor,hoq,hb8⟩;have z0:w8.cell? ⟨g,1,none⟩=some (.map (some b2))∧w8.cell? ⟨g11,0,none⟩=some (.int .i64 x.t.c)∧w8.cell? ⟨g11,1,none⟩=some (.int .i64 x.t.l)∧w8.cell? ⟨g11,2,none⟩=some (.int .i64 x.t.s)∧w8.cell? ⟨g11,3,none⟩=some (.int .i64 x.s.w)∧w8.cell? ⟨g11,4,none⟩=some (.int .i64 x.s.l)∧w8.cell? ⟨g11,5,none⟩=some (.int .i64 x.s.n)∧w8.cell? ⟨g11,6,none⟩=some (.slice A3 n3 c3)∧w8.cell? ⟨g11,7,none⟩=some (.slice A4 n4 c4):=⟨(hb8.cell (p:=⟨_,_,none⟩) lg).trans y1,(hb8.cell (p:=⟨_,_,none⟩) l11).trans x0,(hb8.cell (p:=⟨_,_,none⟩) l11).trans x1,(hb8.cell (p:=⟨_,_,none⟩) l11).trans x2,(hb8.cell (p:=⟨_,_,none⟩) l11).trans x3,(hb8.cell (p:=⟨_,_,none⟩) l11).trans x4,(hb8.cell (p:=⟨_,_,none⟩) l11).trans x5,(hb8.cell (p:=⟨_,_,none⟩) l11).trans x6,(hb8.cell (p:=⟨_,_,none⟩) l11).trans x7⟩;have lg5:g<w8.heap.size:=Nat.lt_of_lt_of_le lg hb8.size;have l95:g11<w8.heap.size:=Nat.lt_of_lt_of_le l11 hb8.size;obtain⟨w9,hrun,hst9,hg9',hc6⟩:=(hst7.below (Below.trans (Below.refl _ _).drew hb8)).put2 hxt hxs (by unfold maxLen;omega) (hor.sl (by omega) ky_len HX.out) (hoq.sl (by omega) wt_len HY.out) hn))
            have hw8:Below w.heap.size w w8:=hbw7.drew.trans (hb8.mono hbw7.size)
            have hw9:Below w.heap.size w w9:=hw8.grown hg9' hw8.size (by intro q hq;injection hq with hq;rw[←hq];exact hst9.b20)
            clear x0 x1 x2 x3 x4 x5 x6 x7 y1 z0 hrun hCl hc6
            go_wp2
            go_roundw
            case rel=>
             refine⟨k2+1,by omega,by go_num,HT.out,?_,hw9⟩
             rw[HK.out]
             exact hst9
            case measure=>simp[intOf];omega
          · have hpn:(pe !=0)=true:=by simp[hp0]
            have HF:=Lib.hid (show loadE H Q=pe by rw[hL,←hs,if_pos hp0])
            clear hs
            go_wp2
            go_ret2
            rw[HF.out]
            exact⟨_,rfl,hbw5⟩
        · have hd1:decide ((k2:Int)<(n2:Int))=false:=by simp;omega
          have HF:=Lib.hid (show loadE H Q=0 by rw[hL,←hs,List.drop_of_length_le (by omega)];rfl)
          clear hs hL
          go_wp2
          go_ret2
          rw[HF.out]
          exact⟨_,rfl,hb⟩
def inK (r:Rg) (k:ByteArray):Bool:=inR r (ofB k)
theorem inClos (r:Rg) (k:ByteArray) (B:Nat) (w:World) (hk:k.size≤maxLen) (hB:B<w.heap.size) (c0:w.cell? ⟨B,0,none⟩=some (.int .i64 r.id)) (c1:w.cell? ⟨B,1,none⟩=some (.int .i64 r.ep)) (c2:w.cell? ⟨B,2,none⟩=some (.float .f64 r.lo)) (c3:w.cell? ⟨B,3,none⟩=some (.float .f64 r.hi)):
 Calls Tryz.prog 111 #[.string k,.pointer (some ⟨B,0,none⟩)] w fun e w'=>e=.returned (.bool (inK r k))∧Below w.heap.size w w':=by
 have ho:=fun w=>of_any k w hk
 have hi:=fun w=>in_any r (ofB k) w
 go_enter Tryz.func111,Tryz.ntmps111
 go_wp2
 go_region_held3 (fun w'=>w'.cell? ⟨B,0,none⟩=some (.int .i64 r.id)∧w'.cell? ⟨B,1,none⟩=some (.int .i64 r.ep)∧w'.cell? ⟨B,2,none⟩=some (.float .f64 r.lo)∧w'.cell? ⟨B,3,none⟩=some (.float .f64 r.hi))
  (first|exact⟨c0,c1,c2,c3⟩|exact⟨(hb1.cell (p:=⟨_,_,none⟩) hB).trans c0,(hb1.cell (p:=⟨_,_,none⟩) hB).trans c1,(hb1.cell (p:=⟨_,_,none⟩) hB).trans c2,(hb1.cell (p:=⟨_,_,none⟩) hB).trans c3⟩)
  (first|((with_reducible refine(ho _).mono ?_);rintro e w1 ⟨rfl,rfl⟩)|((with_reducible refine(hi _).mono ?_);rintro e w1 ⟨rfl,hw1⟩;have hb1:Below w.heap.size w w1:=by rw[←hw1];exact(Below.refl _ _).drew.alloc (Nat.le_refl _) _))
 go_wp2
 go_ret
 exact⟨rfl,hb1⟩
theorem all_drop {α:Type} {f:α→Bool} {l:List α} {k:Nat} {a:α} (h:l[k]?=some a):(l.drop k).all f=(f a&&(l.drop (k+1)).all f):=by
 have h1:=List.getElem?_eq_some_iff.1 h
 rw[List.drop_eq_getElem_cons h1.1,h1.2]
 rfl
def AllRel {α:Type} (f:α→Bool) (l:List α) (w:World) (i:Value) (wr:World):Prop:=∃k:Nat,k≤l.length∧i=.int .i64 (k:Int)∧(l.drop k).all f=l.all f∧Below w.heap.size w wr
def inH (r:Rg) (h:Hs):Bool:=inK r h.key
def inP (r:Rg) (p:Pn):Bool:=p.r.all (inK r)&&p.w.all fun a=>inK r a.key
def mayS (s:Stt):Bool:=mayR s.r&&s.f.may&&s.c.may&&decide (loadE s.h s.p=0)&&s.h.all (inH s.r)&&s.p.all (inP s.r)
abbrev Stt.arr (s:Stt) (h p:Value):Array Value:=#[.int .i64 s.r.id,.int .i64 s.r.ep,.float .f64 s.r.lo,.float .f64 s.r.hi,.int .i64 s.f.w,.int .i64 s.f.l,.int .i64 s.f.n,.int .i64 s.c.w,.int .i64 s.c.l,.int .i64 s.c.n,h,p]
theorem stateMay_bad (s:Stt) (A1 A2:Option Addr) (n1 n2 c1 c2:Nat) (w:World) (hok:s.r.ok) (hbad:(mayR s.r&&s.f.may&&s.c.may)=false):
 Calls Tryz.prog 62 #[.agg (s.arr (.slice A1 n1 c1) (.slice A2 n2 c2))] w fun e w'=>e=.returned (.bool false)∧Below w.heap.size w w':=by
 have hm:=fun w=>may_any s.r w hok
 have hf:=fun w=>hmay_any s.f w
 have hc:=fun w=>hmay_any s.c w
 have hB0:=Blk.new w 39 (s.arr (.slice A1 n1 c1) (.slice A2 n2 c2))
 cases e1:mayR s.r
 · rw[e1]at hm
   clear hbad e1
   go_enter Tryz.func62,Tryz.ntmps62
   go_wp2_with ((with_reducible refine(hm _).mono ?_);rintro e w1 ⟨rfl,rfl⟩)
   go_ret
   exact⟨rfl,by go_grown⟩
 cases e2:s.f.may
 · rw[e1]at hm
   rw[e2]at hf
   clear hbad e1 e2
   go_enter Tryz.func62,Tryz.ntmps62
   go_wp2_with (first
    |((with_reducible refine(hm _).mono ?_);rintro e w1 ⟨rfl,rfl⟩)
    |((with_reducible refine(hf _).mono ?_);rintro e w1 ⟨rfl,rfl⟩))
   go_ret
   exact⟨rfl,by go_grown⟩
 have e3:s.c.may=false:=by rw[e1,e2]at hbad;simpa using hbad
 rw[e1]at hm
 rw[e2]at hf
 rw[e3]at hc
 clear hbad e1 e2 e3
 go_enter Tryz.func62,Tryz.ntmps62
 go_wp2_with (first
  |((with_reducible refine(hm _).mono ?_);rintro e w1 ⟨rfl,rfl⟩)
  |((with_reducible refine(hf _).mono ?_);rintro e w1 ⟨rfl,rfl⟩)
  |((with_reducible refine(hc _).mono ?_);rintro e w1 ⟨rfl,rfl⟩))
 go_ret
 exact⟨rfl,by go_grown⟩
theorem stateMay_good (s:Stt) (A1 A2:Option Addr) (n1 n2 c1 c2:Nat) (w:World) (hok:s.r.ok) (h1:Sl HsRel 2 w w.heap.size A1 n1 s.h) (h2:Sl PnRel 8 w w.heap.size A2 n2 s.p) (hH:SmallH s.h) (hQ:SmallP s.p)
 (hgood:(mayR s.r&&s.f.may&&s.c.may)=true):
 Calls Tryz.prog 62 #[.agg (s.arr (.slice A1 n1 c1) (.slice A2 n2 c2))] w fun e w'=>e=.returned (.bool (mayS s))∧Below w.heap.size w w':=by
 have hS:mayS s=(decide (loadE s.h s.p=0)&&s.h.all (inH s.r)&&s.p.all (inP s.r)):=by unfold mayS;rw[hgood];simp
 have hl1:=h1.1
 have hl2:=h2.1
 have hge1:n1≤s.h.length:=by omega
 have hle1:s.h.length≤n1:=by omega
 have hge2:n2≤s.p.length:=by omega
 have hle2:s.p.length≤n2:=by omega
 have hn1:n1≤1000000:=Nat.le_trans hge1 hH.1
 have hn2:n2≤1000000:=Nat.le_trans hge2 hQ.1
 clear hl1 hl2
 have hm:=fun w=>may_any s.r w hok
 have hf:=fun w=>hmay_any s.f w
 have hc:=fun w=>hmay_any s.c w
 rw[Bool.and_eq_true,Bool.and_eq_true]at hgood
 obtain⟨⟨e1,e2⟩,e3⟩:=hgood
 rw[e1]at hm
 rw[e2]at hf
 rw[e3]at hc
 clear e1 e2 e3
 have hB0:=Blk.new w 39 (s.arr (.slice A1 n1 c1) (.slice A2 n2 c2))
 go_enter Tryz.func62,Tryz.ntmps62
 go_wp2_with (first
  |((with_reducible refine(hm _).mono ?_);rintro e w1 ⟨rfl,rfl⟩)
  |((with_reducible refine(hf _).mono ?_);rintro e w1 ⟨rfl,rfl⟩)
  |((with_reducible refine(hc _).mono ?_);rintro e w1 ⟨rfl,rfl⟩)
  |(go_at_call 110;fail))
 have hX:Below w.heap.size w ((((w.alloc (.cells (s.arr (.slice A1 n1 c1) (.slice A2 n2 c2)) 39)).alloc (.cells #[.int .i64 s.r.id,.int .i64 s.r.ep,.float .f64 s.r.lo,.float .f64 s.r.hi] 35)).alloc (.cells s.f.arr 26)).alloc (.cells s.c.arr 26)):=by go_grown
 refine(load_any A1 A2 n1 n2 c1 c2 s.h s.p _ ((h1.below HsRel.kept hX).more HsRel.kept hX.size) ((h2.below PnRel.kept hX).more PnRel.kept hX.size) hH hQ).mono ?_
 rintro e w0 ⟨vL,rfl,hb0⟩
 have b0:=(((hB0.alloc (.cells #[.int .i64 s.r.id,.int .i64 s.r.ep,.float .f64 s.r.lo,.float .f64 s.r.hi] 35)).alloc (.cells s.f.arr 26)).alloc (.cells s.c.arr 26))
 have b:=b0.below hb0 b0.lt
 have hw0:Below w.heap.size w w0:=hX.trans (hb0.mono hX.size)
 clear hm hf hc hB0 hX hb0 b0
 have y0:=b.cell 0
 have y1:=b.cell 1
 have y2:=b.cell 2
 have y3:=b.cell 3
 have y10:=b.cell 10
 have y11:=b.cell 11
 simp only[List.getElem?_toArray,List.getElem?_cons_succ,List.getElem?_cons_zero]at y0 y1 y2 y3 y10 y11
 have lb:=b.lt
 by_cases hE:loadE s.h s.p=0
 · have hq:(loadE s.h s.p !=0)=false:=by simp[hE]
   have hS2:mayS s=(s.h.all (inH s.r)&&s.p.all (inP s.r)):=by rw[hS,hE];simp
   clear hS hE
   generalize loadE s.h s.p=ee at*
   go_wp2
   go_loopw [44] (fun i wr=>AllRel (inH s.r) s.h w0 i wr) (fun i _=>n1-(intOf i).toNat)
   case atStart=>exact⟨0,by omega,rfl,rfl,Below.refl _ _⟩
   case round=>
    obtain⟨k,hk,rfl,ha0,hb⟩:=hrel
    have hzz:=hb.size
    have hww:Below w.heap.size w wr:=hw0.trans (hb.mono hw0.size)
    have lbr:w.heap.size<wr.heap.size:=by omega
    have lbr1:w.heap.size<wr.heap.size+1:=by omega
    by_cases hlt:k<n1
    · obtain⟨ad,a,A',n',c',rfl,ha,hbk,hkz,d0,d1,hn',hc',hsv⟩:=((h1.below HsRel.kept hww).more HsRel.kept hww.size).hs hlt
      have hd1:decide ((k:Int)<(n1:Int))=true:=by simp;omega
      have hk0:(0:Int)≤(k:Int):=by omega
      have hk1:(k:Int)<(n1:Int):=by omega
      rw[all_drop ha]at ha0
      have hX:Below w0.heap.size w0 (wr.alloc (.cells #[.string a.key,.slice A' n' c'] 158)):=hb.alloc hzz _
      have hI:=inClos s.r a.key w.heap.size (wr.alloc (.cells #[.string a.key,.slice A' n' c'] 158)) (reach_max hkz) (by simp;omega) ((hX.cell (p:=⟨_,_,none⟩) lb).trans y0) ((hX.cell (p:=⟨_,_,none⟩) lb).trans y1) ((hX.cell (p:=⟨_,_,none⟩) lb).trans y2) ((hX.cell (p:=⟨_,_,none⟩) lb).trans y3)
      by_cases hin:inH s.r a=true
      · have HT:=Lib.hid (show (s.h.drop (k+1)).all (inH s.r)=s.h.all (inH s.r) by rw[←ha0,hin];rfl)
        rw[show inK s.r a.key=true from hin]at hI
        clear ha0 ha hin
        go_wp2_with ((with_reducible refine hI.mono ?_);rintro e w2 ⟨rfl,hb2⟩)
        go_roundw
        case rel=>exact⟨k+1,by omega,by go_num,HT.out,hX.trans (hb2.mono hX.size)⟩
        case measure=>simp[intOf];omega
      · have hif:inH s.r a=false:=by simpa using hin
        have HF:=Lib.hid (show mayS s=false by rw[hS2,←ha0,hif];rfl)
        rw[show inK s.r a.key=false from hif]at hI
        clear ha0 ha hin hif
        go_wp2_with ((with_reducible refine hI.mono ?_);rintro e w2 ⟨rfl,hb2⟩)
        go_ret
        rw[HF.out]
        exact⟨rfl,(hw0.trans (hX.mono hw0.size)).trans (hb2.mono (Nat.le_trans hw0.size hX.size))⟩
    · have hd1:decide ((k:Int)<(n1:Int))=false:=by simp;omega
      have hS3:mayS s=s.p.all (inP s.r):=by rw[hS2,←ha0,List.drop_of_length_le (by omega)];rfl
      have z11:=(hb.cell (p:=⟨w.heap.size,11,none⟩) lb).trans y11
      clear ha0 hS2
      go_wp2
      obtain⟨w1,rfl⟩:∃w1,w1=wr:=⟨_,rfl⟩
      clear lbr lbr1 z11
      go_loopw [57] (fun i wr=>AllRel (inP s.r) s.p w0 i wr) (fun i _=>n2-(intOf i).toNat)
      case atStart=>exact⟨0,by omega,rfl,rfl,hb⟩
      case round=>
       clear hb hzz hww
       obtain⟨k2,hk2,rfl,ha0,hb⟩:=hrel
       have hzz:=hb.size
       have hww:Below w.heap.size w wr:=hw0.trans (hb.mono hw0.size)
       by_cases hlt2:k2<n2
       · obtain⟨ad,x,A3,n3,c3,A4,n4,c4,rfl,ha,hbk,hxt,hxs,d0,d1,d2,d3,d4,d5,d6,d7,hn3,hc3,hs3,hn4,hc4,hs4⟩:=((h2.below PnRel.kept hww).more PnRel.kept hww.size).pn hlt2
         have hd1:decide ((k2:Int)<(n2:Int))=true:=by simp;omega
         have hk0:(0:Int)≤(k2:Int):=by omega
         have hk1:(k2:Int)<(n2:Int):=by omega
         have hsm:=hQ.2 x (List.mem_of_getElem? ha)
         have hl3:=hs3.1
         have hl4:=hs4.1
         rw[all_drop ha]at ha0
         have hX:Below w0.heap.size w0 (wr.alloc (.cells (x.arr (.slice A3 n3 c3) (.slice A4 n4 c4)) 162)):=hb.alloc hzz _
         have hXr:Below wr.heap.size wr (wr.alloc (.cells (x.arr (.slice A3 n3 c3) (.slice A4 n4 c4)) 162)):=by go_grown
         have i9:=Blk.new wr 162 (x.arr (.slice A3 n3 c3) (.slice A4 n4 c4))
         have hr:=(hs3.below KyRel.kept hXr).more KyRel.kept hXr.size
         have hw:=(hs4.below WtRel.kept hXr).more WtRel.kept hXr.size
         clear ha
         go_wp2
         generalize hg9:wr.heap.size=g9 at*
         obtain⟨w3,hw3e⟩:∃w3,w3=wr.alloc (.cells (x.arr (.slice A3 n3 c3) (.slice A4 n4 c4)) 162):=⟨_,rfl⟩
         rw[←hw3e]at hX i9 hr hw ⊢
         clear hw3e hXr d0 d1 d2 d3 d4 d5 d6 d7 hs3 hs4 hg9
         have hl9:=i9.lt
         have hwx:Below w.heap.size w w3:=hw0.trans (hX.mono hw0.size)
         go_loopw [64] (fun i wr=>AllRel (inK s.r) x.r w3 i wr) (fun i _=>n3-(intOf i).toNat)
         case atStart=>exact⟨0,by omega,rfl,rfl,Below.refl _ _⟩
         case round=>
           obtain⟨k3,hk3,rfl,hi0,hb3⟩:=hrel
           have hz3:=hb3.size
           have hX3:Below w0.heap.size w0 wr:=hX.trans (hb3.mono hX.size)
           by_cases hlt3:k3<n3
           · obtain⟨ad3,a,rfl,ha,hbk3,hok3,e0⟩:=((hr.below KyRel.kept hb3).more KyRel.kept hb3.size).ky hlt3
             have hd3:decide ((k3:Int)<(n3:Int))=true:=by simp;omega
             have hk03:(0:Int)≤(k3:Int):=by omega
             have hk13:(k3:Int)<(n3:Int):=by omega
             rw[all_drop ha]at hi0
             have hI:=inClos s.r a w.heap.size wr (reach_max hok3) (by have:=hX3.size;omega) ((hX3.cell (p:=⟨_,_,none⟩) lb).trans y0) ((hX3.cell (p:=⟨_,_,none⟩) lb).trans y1) ((hX3.cell (p:=⟨_,_,none⟩) lb).trans y2) ((hX3.cell (p:=⟨_,_,none⟩) lb).trans y3)
             by_cases hin:inK s.r a=true
             · have HT:=Lib.hid (show (x.r.drop (k3+1)).all (inK s.r)=x.r.all (inK s.r) by rw[←hi0,hin];rfl)
               rw[hin]at hI
               clear hi0 ha hin
               go_wp2_with ((with_reducible refine hI.mono ?_);rintro e w5 ⟨rfl,hb5⟩)
               go_roundw
               case rel=>exact⟨k3+1,by omega,by go_num,HT.out,hb3.trans (hb5.mono hz3)⟩
               case measure=>simp[intOf];omega
             · have hif:inK s.r a=false:=by simpa using hin
               have HF:=Lib.hid (show mayS s=false by
                rw[hS3,←ha0]
                unfold inP
                rw[←hi0,hif]
                rfl)
               rw[hif]at hI
               clear hi0 ha hin hif
               go_wp2_with ((with_reducible refine hI.mono ?_);rintro e w5 ⟨rfl,hb5⟩)
               go_ret
               rw[HF.out]
               exact⟨rfl,(hw0.trans (hX3.mono hw0.size)).trans (hb5.mono (Nat.le_trans hw0.size hX3.size))⟩
           · have hd3:decide ((k3:Int)<(n3:Int))=false:=by simp;omega
             have hrr:x.r.all (inK s.r)=true:=by rw[←hi0,List.drop_of_length_le (by omega)];rfl
             have hip:inP s.r x=x.w.all fun a=>inK s.r a.key:=by unfold inP;rw[hrr];rfl
             have j9:=i9.below hb3 hl9
             have u7:=j9.cell 7
             simp only[List.getElem?_toArray,List.getElem?_cons_succ,List.getElem?_cons_zero]at u7
             have hwb:=(hw.below WtRel.kept hb3).more WtRel.kept hb3.size
             clear hi0 hrr
             go_wp2
             obtain⟨w4,rfl⟩:∃w4,w4=wr:=⟨_,rfl⟩
             clear u7
             go_loopw [76] (fun i wr=>AllRel (fun a:Wt=>inK s.r a.key) x.w w4 i wr) (fun i _=>n4-(intOf i).toNat)
             case atStart=>exact⟨0,by omega,rfl,rfl,Below.refl _ _⟩
             case round=>
              obtain⟨k4,hk4,rfl,hi0,hb4⟩:=hrel
              have hz4:=hb4.size
              have hX4:Below w0.heap.size w0 wr:=hX3.trans (hb4.mono hX3.size)
              by_cases hlt4:k4<n4
              · obtain⟨ad4,a,rfl,ha,hbk4,hok4,e0,e1,e2,e3⟩:=((hwb.below WtRel.kept hb4).more WtRel.kept hb4.size).wt hlt4
                have hd4:decide ((k4:Int)<(n4:Int))=true:=by simp;omega
                have hk04:(0:Int)≤(k4:Int):=by omega
                have hk14:(k4:Int)<(n4:Int):=by omega
                rw[all_drop ha]at hi0
                have hX5:Below w0.heap.size w0 (wr.alloc (.cells #[.string a.key,.int .i64 a.v.k,.float .f64 a.v.n,.string a.v.t] 61)):=hX4.alloc hX4.size _
                have hI:=inClos s.r a.key w.heap.size (wr.alloc (.cells #[.string a.key,.int .i64 a.v.k,.float .f64 a.v.n,.string a.v.t] 61)) (reach_max hok4.1) (by have:=hX5.size;omega) ((hX5.cell (p:=⟨_,_,none⟩) lb).trans y0) ((hX5.cell (p:=⟨_,_,none⟩) lb).trans y1) ((hX5.cell (p:=⟨_,_,none⟩) lb).trans y2) ((hX5.cell (p:=⟨_,_,none⟩) lb).trans y3)
                by_cases hin:inK s.r a.key=true
                · have HT:=Lib.hid (show (x.w.drop (k4+1)).all (fun a:Wt=>inK s.r a.key)=x.w.all (fun a:Wt=>inK s.r a.key) by rw[←hi0,hin];rfl)
                  rw[hin]at hI
                  clear hi0 ha hin
                  go_wp2_with ((with_reducible refine hI.mono ?_);rintro e w5 ⟨rfl,hb5⟩)
                  go_roundw
                  case rel=>exact⟨k4+1,by omega,by go_num,HT.out,(hb4.alloc hz4 _).trans (hb5.mono (by simp;omega))⟩
                  case measure=>simp[intOf];omega
                · have hif:inK s.r a.key=false:=by simpa using hin
                  have HF:=Lib.hid (show mayS s=false by
                   rw[hS3,←ha0,hip,←hi0,hif]
                   rfl)
                  rw[hif]at hI
                  clear hi0 ha hin hif
                  go_wp2_with ((with_reducible refine hI.mono ?_);rintro e w5 ⟨rfl,hb5⟩)
                  go_ret
                  rw[HF.out]
                  exact⟨rfl,(hw0.trans (hX5.mono hw0.size)).trans (hb5.mono (Nat.le_trans hw0.size hX5.size))⟩
              · have hd4:decide ((k4:Int)<(n4:Int))=false:=by simp;omega
                have hpt:inP s.r x=true:=by rw[hip,←hi0,List.drop_of_length_le (by omega)];rfl
                have HT:=Lib.hid (show (s.p.drop (k2+1)).all (inP s.r)=s.p.all (inP s.r) by rw[←ha0,hpt];rfl)
                clear hi0 ha0 hip hpt
                go_wp2
                go_roundw
                case rel=>exact⟨k2+1,by omega,by go_num,HT.out,hX4⟩
                case measure=>simp[intOf];omega
       · have hd1:decide ((k2:Int)<(n2:Int))=false:=by simp;omega
         have HF:=Lib.hid (show mayS s=true by rw[hS3,←ha0,List.drop_of_length_le (by omega)];rfl)
         clear ha0
         go_wp2
         go_ret
         rw[HF.out]
         exact⟨rfl,hww⟩
 · have hq:(loadE s.h s.p !=0)=true:=by simp[hE]
   have HF:=Lib.hid (show mayS s=false by rw[hS];simp[hE])
   clear hS
   go_wp2
   go_ret
   rw[HF.out]
   exact⟨rfl,hw0⟩
theorem stateMay_any (s:Stt) (A1 A2:Option Addr) (n1 n2 c1 c2:Nat) (w:World) (hok:s.r.ok) (h1:Sl HsRel 2 w w.heap.size A1 n1 s.h) (h2:Sl PnRel 8 w w.heap.size A2 n2 s.p) (hH:SmallH s.h) (hQ:SmallP s.p):
 Calls Tryz.prog 62 #[.agg (s.arr (.slice A1 n1 c1) (.slice A2 n2 c2))] w fun e w'=>e=.returned (.bool (mayS s))∧Below w.heap.size w w':=by
 by_cases h:(mayR s.r&&s.f.may&&s.c.may)=true
 · exact stateMay_good s A1 A2 n1 n2 c1 c2 w hok h1 h2 hH hQ h
 · have hb:(mayR s.r&&s.f.may&&s.c.may)=false:=by simpa using h
   have e:mayS s=false:=by unfold mayS;rw[hb];rfl
   rw[e]
   exact stateMay_bad s A1 A2 n1 n2 c1 c2 w hok hb
set_option linter.unusedVariables false
def AllOf {α:Type} (l:List α) (w:World) (i:Value) (wr:World):Prop:=∃k:Nat,k≤l.length∧i=.int .i64 (k:Int)∧Below w.heap.size w wr
theorem hists_same (A A':Option Addr) (n n' c c':Nat) (l:List Hs) (w:World) (h:Sl HsRel 2 w w.heap.size A n l) (h':Sl HsRel 2 w w.heap.size A' n' l) (hn:n≤maxLen):
 Calls Tryz.prog 79 #[.slice A n c,.slice A' n' c'] w fun e w'=>e=.returned (.bool true)∧Below w.heap.size w w':=by
 unfold maxLen at hn
 obtain rfl:n=n':=h.1.symm.trans h'.1
 have hl:=h.1
 have hge:n≤l.length:=by omega
 have hle:l.length≤n:=by omega
 clear hl
 have hb0:((n:Int) !=(n:Int))=false:=by simp
 go_enter Tryz.func79,Tryz.ntmps79
 go_wp2
 go_loopw [5] (fun i wr=>AllOf l w i wr) (fun i _=>n-(intOf i).toNat)
 case atStart=>exact⟨0,by omega,rfl,Below.refl _ _⟩
 case round=>
  obtain⟨k,hk,rfl,hb⟩:=hrel
  have hzz:=hb.size
  by_cases hlt:k<n
  · obtain⟨ad,a,A1,n1,c1,rfl,ha,hbk,hok,d0,d1,hn1,hc1,hs1⟩:=((h.below HsRel.kept hb).more HsRel.kept hb.size).hs hlt
    obtain⟨ad',a',A2,n2,c2,rfl,ha',hbk',hok',e0,e1,hn2,hc2,hs2⟩:=((h'.below HsRel.kept hb).more HsRel.kept hb.size).hs hlt
    obtain rfl:a=a':=Option.some.inj (ha.symm.trans ha')
    obtain rfl:n1=n2:=hs1.1.symm.trans hs2.1
    have hd1:decide ((k:Int)<(n:Int))=true:=by simp;omega
    have hk0:(0:Int)≤(k:Int):=by omega
    have hk1:(k:Int)<(n:Int):=by omega
    have hb1:((n1:Int) !=(n1:Int))=false:=by simp
    have hb2:(a.key.toList !=a.key.toList)=false:=by simp
    have hl1:=hs1.1
    have hge1:n1≤a.vs.length:=by omega
    have hle1:a.vs.length≤n1:=by omega
    unfold maxLen at hc1
    have HA:=Lib.hid ha
    have HA':=Lib.hid ha'
    clear hl1 ha ha'
    go_wp2
    go_quiet (fail)
    go_wp2
    have hbq:Below w.heap.size w (wr.drewN nq):=hb.trans ((belowN nq).mono hzz)
    clear d0 d1 e0 e1 hs1 hs2 hb hzz
    go_loopw [6] (fun i wr=>AllOf a.vs w i wr) (fun i _=>n1-(intOf i).toNat)
    case atStart=>exact⟨0,by omega,rfl,hbq⟩
    case round=>
        obtain⟨k2,hk2,rfl,hb⟩:=hrel
        have hzz:=hb.size
        obtain⟨ad1,a1,B1,m1,c3,ex,ha1,hbk1,hok1,d0,d1,hm1,hc3,hs1⟩:=((h.below HsRel.kept hb).more HsRel.kept hb.size).hs hlt
        obtain⟨ad2,a2,B2,m2,c4,ey,ha2,hbk2,hok2,e0,e1,hm2,hc4,hs2⟩:=((h'.below HsRel.kept hb).more HsRel.kept hb.size).hs hlt
        injection ex with ex
        injection ey with ey
        subst ex ey
        obtain rfl:a=a1:=Option.some.inj (HA.out.symm.trans ha1)
        obtain rfl:a=a2:=Option.some.inj (HA'.out.symm.trans ha2)
        obtain rfl:n1=m1:=by have:=hs1.1;omega
        obtain rfl:n1=m2:=by have:=hs2.1;omega
        clear ha1 ha2
        by_cases hlt2:k2<n1
        · obtain⟨bd,v,rfl,hv,hvk,hvo,x0,x1,x2,x3,x4,x5⟩:=hs1.vn hlt2
          obtain⟨bd',v',rfl,hv',hvk',hvo',y0,y1,y2,y3,y4,y5⟩:=hs2.vn hlt2
          obtain rfl:v=v':=Option.some.inj (hv.symm.trans hv')
          have hd3:decide ((k2:Int)<(n1:Int))=true:=by simp;omega
          have hk20:(0:Int)≤(k2:Int):=by omega
          have hk21:(k2:Int)<(n1:Int):=by omega
          have hvs:=fun w=>value_any v.v v.v w
          rw[Vl.same_self]at hvs
          clear hv hv'
          go_wp2
          go_region
          go_wp2_with ((with_reducible refine(hvs _).mono ?_);rintro e w3 ⟨rfl,hb3⟩)
          all_goals
           have hb4:Below wr.heap.size wr w3:=Below.trans (by go_grown;done) (hb3.mono (by simp;omega))
           clear hb3
           go_roundw
           case rel=>exact⟨k2+1,by omega,by go_num,hb.trans (hb4.mono hzz)⟩
           case measure=>simp[intOf];omega
        · have hd3:decide ((k2:Int)<(n1:Int))=false:=by simp;omega
          go_wp2
          go_roundw
          case rel=>exact⟨k+1,by omega,by go_num,hb⟩
          case measure=>simp[intOf];omega
  · have hd1:decide ((k:Int)<(n:Int))=false:=by simp;omega
    go_wp2
    go_ret
    exact⟨rfl,hb⟩
theorem pend_same (p:Pn) (A1 A2 B1 B2:Option Addr) (n1 n2 m1 m2 c1 c2 d1 d2:Nat) (w:World) (h1:Sl KyRel 1 w w.heap.size A1 n1 p.r) (h2:Sl WtRel 4 w w.heap.size A2 n2 p.w) (k1:Sl KyRel 1 w w.heap.size B1 m1 p.r) (k2:Sl WtRel 4 w w.heap.size B2 m2 p.w)
 (hn1:n1≤maxLen) (hn2:n2≤maxLen):
 Calls Tryz.prog 126 #[p.val (.slice A1 n1 c1) (.slice A2 n2 c2),p.val (.slice B1 m1 d1) (.slice B2 m2 d2)] w fun e w'=>e=.returned (.bool true)∧Below w.heap.size w w':=by
 obtain rfl:n1=m1:=h1.1.symm.trans k1.1
 obtain rfl:n2=m2:=h2.1.symm.trans k2.1
 have hX:Below w.heap.size w ((w.alloc (.cells (p.arr (.slice A1 n1 c1) (.slice A2 n2 c2)) 162)).alloc (.cells (p.arr (.slice B1 n1 d1) (.slice B2 n2 d2)) 162)):=by go_grown
 have i2:Blk ((w.alloc (.cells (p.arr (.slice A1 n1 c1) (.slice A2 n2 c2)) 162)).alloc (.cells (p.arr (.slice B1 n1 d1) (.slice B2 n2 d2)) 162)) w.heap.size 162 (p.arr (.slice A1 n1 c1) (.slice A2 n2 c2)):=(Blk.new _ _ _).alloc _
 have i3:Blk ((w.alloc (.cells (p.arr (.slice A1 n1 c1) (.slice A2 n2 c2)) 162)).alloc (.cells (p.arr (.slice B1 n1 d1) (.slice B2 n2 d2)) 162)) (w.heap.size+1) 162 (p.arr (.slice B1 n1 d1) (.slice B2 n2 d2)):=Blk.new' _ _ (by simp)
 have hT:=fun w' (hb:Below w.heap.size w w')=>texts_any A1 B1 n1 n1 c1 d1 p.r p.r w' ((h1.below KyRel.kept hb).more KyRel.kept hb.size) ((k1.below KyRel.kept hb).more KyRel.kept hb.size) hn1 hn1
 have hW:=fun w' (hb:Below w.heap.size w w')=>wts_any A2 B2 n2 n2 c2 d2 p.w p.w w' ((h2.below WtRel.kept hb).more WtRel.kept hb.size) ((k2.below WtRel.kept hb).more WtRel.kept hb.size) hn2 hn2
 rw[sameL_self (fun a=>by simp)]at hT
 rw[sameL_self Wt.same_self]at hW
 go_enter Tryz.func126,Tryz.ntmps126
 go_wp2_with (first
  |((with_reducible refine(hT _ hX).mono ?_);rintro e w3 ⟨rfl,hb3⟩
    have j2:=i2.below hb3 i2.lt
    have j3:=i3.below hb3 i3.lt
    have hY:=hX.trans (hb3.mono hX.size)
    obtain⟨l2,x0,x1,x2,x3,x4,x5,x6,x7⟩:=j2.eight
    obtain⟨l3,y0,y1,y2,y3,y4,y5,y6,y7⟩:=j3.eight)
  |((with_reducible refine(hW _ hY).mono ?_);rintro e w4 ⟨rfl,hb4⟩))
 go_ret
 exact⟨rfl,hY.trans (hb4.mono hY.size)⟩
theorem pends_same (A A':Option Addr) (n n' c c':Nat) (l:List Pn) (w:World) (h:Sl PnRel 8 w w.heap.size A n l) (h':Sl PnRel 8 w w.heap.size A' n' l) (hn:n≤maxLen):
 Calls Tryz.prog 80 #[.slice A n c,.slice A' n' c'] w fun e w'=>e=.returned (.bool true)∧Below w.heap.size w w':=by
 unfold maxLen at hn
 obtain rfl:n=n':=h.1.symm.trans h'.1
 have hl:=h.1
 have hge:n≤l.length:=by omega
 have hle:l.length≤n:=by omega
 clear hl
 have hb0:((n:Int) !=(n:Int))=false:=by simp
 go_enter Tryz.func80,Tryz.ntmps80
 go_wp2
 go_loopw [5] (fun i wr=>AllOf l w i wr) (fun i _=>n-(intOf i).toNat)
 case atStart=>exact⟨0,by omega,rfl,Below.refl _ _⟩
 case round=>
  obtain⟨k,hk,rfl,hb⟩:=hrel
  have hzz:=hb.size
  by_cases hlt:k<n
  · obtain⟨ad,a,A1,n1,c1,A2,n2,c2,rfl,ha,hbk,hxt,hxs,d0,d1,d2,d3,d4,d5,d6,d7,hn1,hc1,hs1,hn2,hc2,hs2⟩:=((h.below PnRel.kept hb).more PnRel.kept hb.size).pn hlt
    obtain⟨ad',a',A3,n3,c3,A4,n4,c4,rfl,ha',hbk',hxt',hxs',e0,e1,e2,e3,e4,e5,e6,e7,hn3,hc3,hs3,hn4,hc4,hs4⟩:=((h'.below PnRel.kept hb).more PnRel.kept hb.size).pn hlt
    obtain rfl:a=a':=Option.some.inj (ha.symm.trans ha')
    have hd1:decide ((k:Int)<(n:Int))=true:=by simp;omega
    have hk0:(0:Int)≤(k:Int):=by omega
    have hk1:(k:Int)<(n:Int):=by omega
    have hP:=fun w' (hb:Below wr.heap.size wr w')=>pend_same a A1 A2 A3 A4 n1 n2 n3 n4 c1 c2 c3 c4 w' ((hs1.below KyRel.kept hb).more KyRel.kept hb.size) ((hs2.below WtRel.kept hb).more WtRel.kept hb.size) ((hs3.below KyRel.kept hb).more KyRel.kept hb.size) ((hs4.below WtRel.kept hb).more WtRel.kept hb.size) (by omega) (by omega)
    clear ha ha'
    go_wp2
    go_region_held3 (fun w'=>w'.cell? (ad.add (k*8))=some (.int .i64 a.t.c)∧w'.cell? ⟨(ad.add (k*8)).block,(ad.add (k*8)).off+1,none⟩=some (.int .i64 a.t.l)∧w'.cell? ⟨(ad.add (k*8)).block,(ad.add (k*8)).off+2,none⟩=some (.int .i64 a.t.s)∧w'.cell? ⟨(ad.add (k*8)).block,(ad.add (k*8)).off+3,none⟩=some (.int .i64 a.s.w)∧w'.cell? ⟨(ad.add (k*8)).block,(ad.add (k*8)).off+4,none⟩=some (.int .i64 a.s.l)∧w'.cell? ⟨(ad.add (k*8)).block,(ad.add (k*8)).off+5,none⟩=some (.int .i64 a.s.n)∧w'.cell? ⟨(ad.add (k*8)).block,(ad.add (k*8)).off+6,none⟩=some (.slice A1 n1 c1)∧w'.cell? ⟨(ad.add (k*8)).block,(ad.add (k*8)).off+7,none⟩=some (.slice A2 n2 c2)∧w'.cell? (ad'.add (k*8))=some (.int .i64 a.t.c)∧w'.cell? ⟨(ad'.add (k*8)).block,(ad'.add (k*8)).off+1,none⟩=some (.int .i64 a.t.l)∧w'.cell? ⟨(ad'.add (k*8)).block,(ad'.add (k*8)).off+2,none⟩=some (.int .i64 a.t.s)∧w'.cell? ⟨(ad'.add (k*8)).block,(ad'.add (k*8)).off+3,none⟩=some (.int .i64 a.s.w)∧w'.cell? ⟨(ad'.add (k*8)).block,(ad'.add (k*8)).off+4,none⟩=some (.int .i64 a.s.l)∧w'.cell? ⟨(ad'.add (k*8)).block,(ad'.add (k*8)).off+5,none⟩=some (.int .i64 a.s.n)∧w'.cell? ⟨(ad'.add (k*8)).block,(ad'.add (k*8)).off+6,none⟩=some (.slice A3 n3 c3)∧w'.cell? ⟨(ad'.add (k*8)).block,(ad'.add (k*8)).off+7,none⟩=some (.slice A4 n4 c4))
        (first|exact⟨d0,d1,d2,d3,d4,d5,d6,d7,e0,e1,e2,e3,e4,e5,e6,e7⟩|exact⟨(hb9.cell (by exact hbk)).trans d0,(hb9.cell (by exact hbk)).trans d1,(hb9.cell (by exact hbk)).trans d2,(hb9.cell (by exact hbk)).trans d3,(hb9.cell (by exact hbk)).trans d4,(hb9.cell (by exact hbk)).trans d5,(hb9.cell (by exact hbk)).trans d6,(hb9.cell (by exact hbk)).trans d7,(hb9.cell (by exact hbk')).trans e0,(hb9.cell (by exact hbk')).trans e1,(hb9.cell (by exact hbk')).trans e2,(hb9.cell (by exact hbk')).trans e3,(hb9.cell (by exact hbk')).trans e4,(hb9.cell (by exact hbk')).trans e5,(hb9.cell (by exact hbk')).trans e6,(hb9.cell (by exact hbk')).trans e7⟩)
        (first|((with_reducible refine(hP _ (Below.refl _ _).drew).mono ?_);rintro e w5 ⟨rfl,hb5⟩;have hb9:Below wr.heap.size wr w5:=(Below.refl wr.heap.size wr).drew.trans hb5))
    go_wp2
    go_roundw
    case rel=>exact⟨k+1,by omega,by go_num,hb.trans (hb9.mono hzz)⟩
    case measure=>simp[intOf];omega
  · have hd1:decide ((k:Int)<(n:Int))=false:=by simp;omega
    go_wp2
    go_ret
    exact⟨rfl,hb⟩
theorem dozenC {w:World} {g:Nat} {t:TypeId} {a b c d e f h i j k l m:Value} (hh:Blk w g t #[a,b,c,d,e,f,h,i,j,k,l,m]):
 g<w.heap.size∧w.cell? ⟨g,0,none⟩=some a∧w.cell? ⟨g,1,none⟩=some b∧w.cell? ⟨g,2,none⟩=some c∧w.cell? ⟨g,3,none⟩=some d∧w.cell? ⟨g,4,none⟩=some e∧w.cell? ⟨g,5,none⟩=some f∧
 w.cell? ⟨g,6,none⟩=some h∧w.cell? ⟨g,7,none⟩=some i∧w.cell? ⟨g,8,none⟩=some j∧w.cell? ⟨g,9,none⟩=some k∧w.cell? ⟨g,10,none⟩=some l∧w.cell? ⟨g,11,none⟩=some m:=
 ⟨hh.lt,hh.cell 0,hh.cell 1,hh.cell 2,hh.cell 3,hh.cell 4,hh.cell 5,hh.cell 6,hh.cell 7,hh.cell 8,hh.cell 9,hh.cell 10,hh.cell 11⟩
theorem state_same (s:Stt) (A1 A2 B1 B2:Option Addr) (n1 n2 m1 m2 c1 c2 d1 d2:Nat) (w:World) (h1:Sl HsRel 2 w w.heap.size A1 n1 s.h) (h2:Sl PnRel 8 w w.heap.size A2 n2 s.p) (k1:Sl HsRel 2 w w.heap.size B1 m1 s.h) (k2:Sl PnRel 8 w w.heap.size B2 m2 s.p)
 (hn1:n1≤maxLen) (hn2:n2≤maxLen):
 Calls Tryz.prog 40 #[.agg (s.arr (.slice A1 n1 c1) (.slice A2 n2 c2)),.agg (s.arr (.slice B1 m1 d1) (.slice B2 m2 d2))] w fun e w'=>e=.returned (.bool true)∧Below w.heap.size w w':=by
 have hX:Below w.heap.size w ((w.alloc (.cells (s.arr (.slice A1 n1 c1) (.slice A2 n2 c2)) 39)).alloc (.cells (s.arr (.slice B1 m1 d1) (.slice B2 m2 d2)) 39)):=by go_grown
 have i2:Blk ((w.alloc (.cells (s.arr (.slice A1 n1 c1) (.slice A2 n2 c2)) 39)).alloc (.cells (s.arr (.slice B1 m1 d1) (.slice B2 m2 d2)) 39)) w.heap.size 39 (s.arr (.slice A1 n1 c1) (.slice A2 n2 c2)):=(Blk.new _ _ _).alloc _
 have i3:Blk ((w.alloc (.cells (s.arr (.slice A1 n1 c1) (.slice A2 n2 c2)) 39)).alloc (.cells (s.arr (.slice B1 m1 d1) (.slice B2 m2 d2)) 39)) (w.heap.size+1) 39 (s.arr (.slice B1 m1 d1) (.slice B2 m2 d2)):=Blk.new' _ _ (by simp)
 have hR:=fun w'=>range_any s.r s.r w'
 have hT:=fun w' (hb:Below w.heap.size w w')=>hists_same A1 B1 n1 m1 c1 d1 s.h w' ((h1.below HsRel.kept hb).more HsRel.kept hb.size) ((k1.below HsRel.kept hb).more HsRel.kept hb.size) hn1
 have hW:=fun w' (hb:Below w.heap.size w w')=>pends_same A2 B2 n2 m2 c2 d2 s.p w' ((h2.below PnRel.kept hb).more PnRel.kept hb.size) ((k2.below PnRel.kept hb).more PnRel.kept hb.size) hn2
 rw[Rg.same_self]at hR
 go_enter Tryz.func40,Tryz.ntmps40
 go_wp2_with (first
  |((with_reducible refine(hR _).mono ?_);rintro e w3 ⟨rfl,hb3⟩
    have j2:=i2.below hb3 i2.lt
    have j3:=i3.below hb3 i3.lt
    have hY:=hX.trans (hb3.mono hX.size)
    obtain⟨l2,x0,x1,x2,x3,x4,x5,x6,x7,x8,x9,x10,x11⟩:=dozenC j2
    obtain⟨l3,y0,y1,y2,y3,y4,y5,y6,y7,y8,y9,y10,y11⟩:=dozenC j3)
  |((with_reducible refine(hT _ hY).mono ?_);rintro e w4 ⟨rfl,hb4⟩
    have k2':=j2.below hb4 j2.lt
    have k3':=j3.below hb4 j3.lt
    have hZ:=hY.trans (hb4.mono hY.size)
    obtain⟨l2',-,-,-,-,-,-,-,-,-,-,-,z11⟩:=dozenC k2'
    obtain⟨l3',-,-,-,-,-,-,-,-,-,-,-,u11⟩:=dozenC k3')
  |((with_reducible refine(hW _ hZ).mono ?_);rintro e w5 ⟨rfl,hb5⟩))
 go_ret
 exact⟨rfl,hZ.trans (hb5.mono hZ.size)⟩
theorem wpAnyH_store_rowE {P:Program} {md:Region.Mode} {ops:Array Oper} {Q:Exit→Act→World→Prop} {S:World→Prop} {fuel:Nat} {listed:Array Bool} {a:Act} {w:World} {i:Nat} {op:Oper}
 (hr:Region.ready md ops listed=[i]) (ho:ops[i]?=some op) (hg:op.guard=none) (ty:TypeId) (x y:Operand) (hop:op.op=.store ty x y)
 (g:Nat) (cells:Array Value) (hx:a.eval x=.pointer (some ⟨g,0,none⟩)) (hy:a.eval y=.agg cells) (t:TypeId) (old:Array Value) (hb:Blk w g t old) (hi:(P.info? ty).map (·.size)=some cells.size) (hold:old.size=cells.size) (h1:cells.all (·.oneCell')=true)
 (hS:S (w.setRow g cells)) (h:∀w',w'=w.setRow g cells→wpAnyH P md ops Q S fuel (listed.setIfInBounds i true) (a.put op.dst undef) w'):wpAnyH P md ops Q S (fuel+1) listed a w:=by
 refine wpAnyH_all hr (by simp) (fun j hj=>?_)
 obtain rfl:j=i:=by simpa using hj
 refine wpOp_step ho (fun K' hK=>?_)
 have hw:Region.wanted op (yielded ops a.tmps)=true:=by simp[Region.wanted,hg]
 rw[if_pos hw]
 exact wp_store_row ty x y hop g cells hx hy t old hb hi hold h1 (hK _ _ ⟨hS,h _ rfl⟩)
theorem yieldsIf_load_row {P:Program} {ops:Array Oper} {S:World→Prop} {op:Oper} {a:Act} (hw:Region.wanted op (yielded ops a.tmps)=true) (ty:TypeId) (x:Operand) (ho:op.op=.load ty x)
 (g:Nat) (hx:a.eval x=.pointer (some ⟨g,0,none⟩)) (t:TypeId) (cs:Array Value) (d:TypeDesc) (hS:∀w,S w→Blk w g t cs)
 (hu:P.underlying ty=some d) (hd:(match d with| .struct _| .array _ _=>true|_=>false)=true) (hi:(P.info? ty).map (·.size)=some cs.size):YieldsIf P ops S op (.agg cs) a:=
 .inl ⟨hw,fun w hw'=>by
  unfold execOp
  simp only[ho,hx,Instr.loadAt,Instr.sureAddr,Sem.run_bind,Sem.run_pure,Result.andThen_ok,run_loadVar_row w g t ty cs (0,0) d (hS w hw') hu hd hi]⟩
theorem OwnL.ne {α:Type} {f:α→List Value} {E size base:Nat} {w:World} {v:Value} {l:List α} (h:OwnL f E size base w v l) {g:Nat} (hg:g<base):some g≠v.ownBlock:=by
 rcases h.far hg with e|e
 · rw[e];simp
 · exact fun e2=>e e2.symm
def rdL (k:ByteArray) (l:List ByteArray):Bool:=l.any fun b=>b.toList==k.toList
theorem rdL_in (k:ByteArray) (l:List ByteArray):rdL k l=inL k l:=by
 unfold rdL inL
 congr 1
 funext b
 exact Bool.beq_comm
theorem rwrites_any (p:Pn) (A1:Option Addr) (n1 c1:Nat) (x:ByteArray) (A:Option Addr) (n c:Nat) (w:World) (h:Sl WtRel 4 w w.heap.size A n p.w) (hn:n≤maxLen):
 Calls Tryz.prog 211 #[p.val (.slice A1 n1 c1) (.slice A n c),.string x] w fun e w'=>e=.returned (.bool (wrL x p.w))∧Below w.heap.size w w':=by
 unfold maxLen at hn
 have hl:=h.1
 have hge:n≤p.w.length:=by omega
 have hle:p.w.length≤n:=by omega
 have hX:Below w.heap.size w (w.alloc (.cells (p.arr (.slice A1 n1 c1) (.slice A n c)) 162)):=by go_grown
 have i2:=Blk.new w 162 (p.arr (.slice A1 n1 c1) (.slice A n c))
 clear hl
 go_enter Tryz.func211,Tryz.ntmps211
 go_wp2
 go_loopw [5] (fun i wr=>AnyRel (fun a:Wt=>a.key.toList==x.toList) p.w (w.alloc (.cells (p.arr (.slice A1 n1 c1) (.slice A n c)) 162)) i wr) (fun i _=>n-(intOf i).toNat)
 case atStart=>exact⟨0,by omega,rfl,rfl,Below.refl _ _⟩
 case round=>
  obtain⟨k,hk,rfl,hs,hb⟩:=hrel
  have hww:Below w.heap.size w wr:=hX.trans (hb.mono hX.size)
  have y7:=(i2.below hb i2.lt).cell 7
  simp only[List.getElem?_toArray,List.getElem?_cons_succ,List.getElem?_cons_zero]at y7
  have l2:=(i2.below hb i2.lt).lt
  by_cases hlt:k<n
  · obtain⟨ad,a,rfl,ha,hbk,hok,c0,c1',c2',c3'⟩:=(h.below WtRel.kept hww).wt hlt
    have hd1:decide ((k:Int)<(n:Int))=true:=by simp;omega
    have hk0:(0:Int)≤(k:Int):=by omega
    have hk1:(k:Int)<(n:Int):=by omega
    rw[any_drop ha]at hs
    by_cases hq:(a.key.toList==x.toList)=true
    · have HF:=Lib.hid (show wrL x p.w=true by unfold wrL;rw[←hs,hq];rfl)
      clear hs ha
      go_wp2
      go_ret
      rw[HF.out]
      exact⟨rfl,hww⟩
    · have hqf:(a.key.toList==x.toList)=false:=by simpa using hq
      rw[hqf]at hs
      have HT:=Lib.hid hs
      clear hs ha hq
      go_wp2
      go_roundw
      case rel=>exact⟨k+1,by omega,by go_num,HT.out,hb⟩
      case measure=>simp[intOf];omega
  · have hd1:decide ((k:Int)<(n:Int))=false:=by simp;omega
    have HF:=Lib.hid (show wrL x p.w=false by unfold wrL;rw[←hs,List.drop_of_length_le (by omega)];rfl)
    clear hs
    go_wp2
    go_ret
    rw[HF.out]
    exact⟨rfl,hww⟩
theorem rreads_any (p:Pn) (A2:Option Addr) (n2 c2:Nat) (x:ByteArray) (A:Option Addr) (n c:Nat) (w:World) (h:Sl KyRel 1 w w.heap.size A n p.r) (hn:n≤maxLen):
 Calls Tryz.prog 212 #[p.val (.slice A n c) (.slice A2 n2 c2),.string x] w fun e w'=>e=.returned (.bool (rdL x p.r))∧Below w.heap.size w w':=by
 unfold maxLen at hn
 have hl:=h.1
 have hge:n≤p.r.length:=by omega
 have hle:p.r.length≤n:=by omega
 have hX:Below w.heap.size w (w.alloc (.cells (p.arr (.slice A n c) (.slice A2 n2 c2)) 162)):=by go_grown
 have i2:=Blk.new w 162 (p.arr (.slice A n c) (.slice A2 n2 c2))
 clear hl
 go_enter Tryz.func212,Tryz.ntmps212
 go_wp2
 go_loopw [5] (fun i wr=>AnyRel (fun b:ByteArray=>b.toList==x.toList) p.r (w.alloc (.cells (p.arr (.slice A n c) (.slice A2 n2 c2)) 162)) i wr) (fun i _=>n-(intOf i).toNat)
 case atStart=>exact⟨0,by omega,rfl,rfl,Below.refl _ _⟩
 case round=>
  obtain⟨k,hk,rfl,hs,hb⟩:=hrel
  have hww:Below w.heap.size w wr:=hX.trans (hb.mono hX.size)
  have y6:=(i2.below hb i2.lt).cell 6
  simp only[List.getElem?_toArray,List.getElem?_cons_succ,List.getElem?_cons_zero]at y6
  have l2:=(i2.below hb i2.lt).lt
  by_cases hlt:k<n
  · obtain⟨ad,a,rfl,ha,hbk,hok,c0⟩:=(h.below KyRel.kept hww).ky hlt
    have hd1:decide ((k:Int)<(n:Int))=true:=by simp;omega
    have hk0:(0:Int)≤(k:Int):=by omega
    have hk1:(k:Int)<(n:Int):=by omega
    rw[any_drop ha]at hs
    by_cases hq:(a.toList==x.toList)=true
    · have HF:=Lib.hid (show rdL x p.r=true by unfold rdL;rw[←hs,hq];rfl)
      clear hs ha
      go_wp2
      go_ret
      rw[HF.out]
      exact⟨rfl,hww⟩
    · have hqf:(a.toList==x.toList)=false:=by simpa using hq
      rw[hqf]at hs
      have HT:=Lib.hid hs
      clear hs ha hq
      go_wp2
      go_roundw
      case rel=>exact⟨k+1,by omega,by go_num,HT.out,hb⟩
      case measure=>simp[intOf];omega
  · have hd1:decide ((k:Int)<(n:Int))=false:=by simp;omega
    have HF:=Lib.hid (show rdL x p.r=false by unfold rdL;rw[←hs,List.drop_of_length_le (by omega)];rfl)
    clear hs
    go_wp2
    go_ret
    rw[HF.out]
    exact⟨rfl,hww⟩
end Go.Proofs.YtcalkfgibflbnaaGreat
namespace Go.Proofs.YtcalkfgibflbnaaGreat
set_option linter.unusedVariables false
open Go.RowKit Fl
theorem bl_trans {a b c:ByteArray} (h1:bl a b=true) (h2:bl b c=true):bl a c=true:=by
 unfold bl at*
 rw[bytesLess_eq,decide_eq_true_eq]at*
 exact List.lt_trans h1 h2
theorem pendE_zero {p:Pn}:pendE p=0↔p.t.may=true∧p.s.may=true∧p.s.zero=false∧riseB p.r=true∧riseB (p.w.map (·.key))=true∧allMay p.w=true:=by
 unfold pendE
 cases p.t.may<;>cases p.s.may<;>cases p.s.zero<;>cases riseB p.r<;>cases riseB (p.w.map (·.key))<;>cases allMay p.w<;>simp
theorem histB_lt {p:ByteArray} {h:Hs} (hh:histB p h=true):bl p h.key=true:=by
 unfold histB at hh
 simp only[←bl_le]at hh
 simp only[Bool.and_eq_true]at hh
 exact hh.1.1.2
end Go.Proofs.YtcalkfgibflbnaaGreat
namespace Go.Proofs.YtcalkfgibflbnaaGreat
set_option linter.unusedVariables false
open Go.RowKit
theorem setCells_far {b j:Nat} (hj:j≠b):∀(vs:List Value) (o:Nat) (w:World),(w.setCells b o vs).heap[j]?=w.heap[j]?:=by
 intro vs
 induction vs with
 |nil=>intro o w;rfl
 |cons v vs ih=>intro o w;exact(ih (o+1) (w.setCell ⟨b,o,none⟩ v)).trans (Below.heap_setCell _ _ _ _ hj)
theorem setCells_size {b:Nat}:∀(vs:List Value) (o:Nat) (w:World),(w.setCells b o vs).heap.size=w.heap.size:=by
 intro vs
 induction vs with
 |nil=>intro o w;rfl
 |cons v vs ih=>intro o w;exact(ih (o+1) (w.setCell ⟨b,o,none⟩ v)).trans (by simp)
theorem setCells_below {B b:Nat} (hb:B≤b) {w:World}:∀(vs:List Value) (o:Nat) (w1:World),Below B w w1→Below B w (w1.setCells b o vs):=by
 intro vs
 induction vs with
 |nil=>intro o w1 h;exact h
 |cons v vs ih=>intro o w1 h;exact ih (o+1) _ (h.setCell (p:=⟨b,o,none⟩) hb v)
def setA:Array Value→Nat→List Value→Array Value
 |cs,_,[]=>cs
 |cs,o,v::vs=>setA (cs.setIfInBounds o v) (o+1) vs
theorem setA_size:∀(vs:List Value) (cs:Array Value) (o:Nat),(setA cs o vs).size=cs.size
 |[],_,_=>rfl
 |v::vs,cs,o=>(setA_size vs _ _).trans Array.size_setIfInBounds
theorem Blk.setCells {g:Nat} {t:TypeId}:∀(vs:List Value) (o:Nat) (w:World) (cs:Array Value),Blk w g t cs→Blk (w.setCells g o vs) g t (setA cs o vs):=by
 intro vs
 induction vs with
 |nil=>intro o w cs h;exact h
 |cons v vs ih=>intro o w cs h;exact ih (o+1) _ _ (h.set_ o v)
theorem run_storeVar_v {P:Program} (w:World) (b o:Nat) (ty:TypeId) (v:Value) (ht:w.there b o v.cells.size) (hi:(P.info? ty).map (·.size)=some v.cells.size) (h1:v.cells.all (·.oneCell')=true):
 (storeVar ty ⟨b,o,none⟩ v).run P w=.ok () (w.setCells b o v.cells.toList):=by
 have:=run_storeCells_cells (P:=P) b o v.cells.toList 0 w (fun j hj=>by simpa using (ht j (by simpa using hj)).1) (fun j hj=>by simpa using (ht j (by simpa using hj)).2)
  (fun u hu=>(Array.all_eq_true_iff_forall_mem.1 h1) u (by simpa using hu))
 cases hq:P.info? ty with
 |none=>simp[hq]at hi
 |some i=>
  have hs:v.cells.size=i.size:=by simp[hq]at hi;omega
  simp only[Nat.add_zero]at this
  simp[storeVar,sizeOf,typeInfo,hq,hs,this]
theorem wpAnyH_store_v {P:Program} {md:Region.Mode} {ops:Array Oper} {Q:Exit→Act→World→Prop} {S:World→Prop} {fuel:Nat} {listed:Array Bool} {a:Act} {w:World} {i:Nat} {op:Oper}
 (hr:Region.ready md ops listed=[i]) (ho:ops[i]?=some op) (hg:op.guard=none) (ty:TypeId) (x y:Operand) (hop:op.op=.store ty x y)
 (b o:Nat) (v:Value) (hx:a.eval x=.pointer (some ⟨b,o,none⟩)) (hy:a.eval y=v) (ht:w.there b o v.cells.size) (hi:(P.info? ty).map (·.size)=some v.cells.size) (h1:v.cells.all (·.oneCell')=true)
 (hS:S (w.setCells b o v.cells.toList)) (h:wpAnyH P md ops Q S fuel (listed.setIfInBounds i true) (a.put op.dst undef) (w.setCells b o v.cells.toList)):wpAnyH P md ops Q S (fuel+1) listed a w:=by
 refine wpAnyH_all hr (by simp) (fun j hj=>?_)
 obtain rfl:j=i:=by simpa using hj
 refine wpOp_step ho (fun K' hK=>?_)
 have hw:Region.wanted op (yielded ops a.tmps)=true:=by simp[Region.wanted,hg]
 rw[if_pos hw]
 unfold Oper.wp execOp
 simp only[hop,hx,hy,Instr.storeAt,Instr.sureAddr,Sem.run_bind,Sem.run_pure,Result.andThen_ok,run_storeVar_v w b o ty v ht hi h1]
 exact hK _ _ ⟨hS,h⟩
end Go.Proofs.YtcalkfgibflbnaaGreat
