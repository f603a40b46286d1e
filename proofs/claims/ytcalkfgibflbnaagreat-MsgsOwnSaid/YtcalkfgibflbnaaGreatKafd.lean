/- The walk of MsgsOwn. -/
import Derived.Deep.CutBlock
import Derived.Test.YtcalkfgibflbnaaGreatKaab
import Derived.Test.YtcalkfgibflbnaaGreatKaec
import Derived.Test.YtcalkfgibflbnaaGreatKafc
namespace Go.Proofs.YtcalkfgibflbnaaGreat
set_option linter.unusedVariables false
open Go.RowKit Fl
attribute [local go_sem] run_store_float
theorem badM_ok (j:Nat) {m:Mg} (ok:m.ok):(badM j m).ok:=by
 have h1:i64ok (-1):=by unfold i64ok;omega
 have h0:i64ok 0:=by unfold i64ok;omega
 have h2:i64ok 23:=by unfold i64ok;omega
 have h3:i64ok 26:=by unfold i64ok;omega
 obtain⟨b1,b2,b3,b4,b5,b6,b7,b8,b9,b10,b11,b12,b13,b14⟩:=ok
 unfold badM
 split
 all_goals (constructor;all_goals first|assumption|exact⟨b4.1,b4.2.1,h1⟩|exact⟨b8.1,b8.2.1,h1⟩|exact⟨h1,b9.2.1,b9.2.2⟩|exact⟨h1,b13.2.1,b13.2.2⟩)
theorem badM_rc (j:Nat) (m:Mg):(badM j m).rc=m.rc:=by unfold badM;split<;>rfl
theorem grownOf {w W:World} {v:Value} {B:Nat} (hB:B=w.heap.size) (hb:Below B w W) {W':World} (hg:W.grownBy W' v.ownBlock) {p:Addr} (hp:B≤p.block) (u:Value):w.grownBy (W'.setCell p u) v.ownBlock:=by
 subst hB
 refine⟨hg.os.trans hb.os,hg.tape.trans hb.tape,hg.output.trans hb.output,by have:=hg.size;have:=hb.size;simp;omega,fun k hk hne=>?_⟩
 exact(Below.heap_setCell _ _ _ _ (by omega)).trans ((hg.block k (by have:=hb.size;omega) hne).trans (hb.block k hk))
theorem farSet {α:Type} {f:α→List Value} {E size base:Nat} {w:World} {v:Value} {l:List α} (h:OwnL f E size base w v l) {b i:Nat} (hn:v.ownBlock≠some b) (u:Value):OwnL f E size base (w.setCell ⟨b,i,none⟩ u) v l:=
 OwnL.beside (v:=.slice (some ⟨b,0,none⟩) 0 0) h (grown_set w b i u) (fun k hk e=>by
  have e2:b=k:=by simpa [Value.ownBlock] using hk
  rw[←e2]at e;exact hn e)
theorem wtZ_ok:(⟨⟨#[]⟩,⟨0,0,⟨#[]⟩⟩⟩:Wt).ok:=⟨Nat.zero_le _,(by unfold i64ok;omega:i64ok 0),Nat.succ_pos _,Nat.zero_le _⟩
structure OwnQ (m:Mg) (h:Hm) (w w4:World) (j:Nat) (w':World):Prop where
 res:∃g:Hm,Blk w' w4.heap.size 41 ((badM j m).vals g)∧MgLo w' w'.heap.size (badM j m) g∧g.caps∧MgSm (badM j m) g
 blk:Blk w' w.heap.size 41 (m.vals h)
 below:Below w.heap.size w w'
theorem OwnQ.grow {α:Type} {m:Mg} {h:Hm} {w w4 w5:World} {j off:Nat} {g:Hm} {f:α→List Value} {ok:α→Prop} {E size base:Nat} {v:Value} {l:List α} {a:α} {cs:List Value} {t:TypeId}
 (hsz:0<size) (hf:∀a,(f a).length=size) (hok:∀x∈l++[a],ok x)
 (hX4:Below w.heap.size w w4) (hbs:w.heap.size<base) (hl:w.heap.size<w4.heap.size) (hA5:Below w4.heap.size w4 w5) (h5:w5.heap.size=w4.heap.size+1) (C5:Blk w5 w4.heap.size 41 (m.vals g)) (B5:Blk w5 w.heap.size 41 (m.vals h))
 (ho:OwnL f E size base w4 v l) {vq:Value} {wq:World} (hown:wq.ownsRow base E size vq (l.length+1) (l.flatMap f++f a)) (hg:(w5.alloc (.cells cs.toArray t)).grownBy wq v.ownBlock) (hat:vq.ownBlock=v.ownBlock∨vq.ownBlock=some (w5.alloc (.cells cs.toArray t)).heap.size)
 (gq:Option Addr→Nat→Hm) (hC:∀A c,vq=.slice A (l.length+1) c→(m.vals g).setIfInBounds off vq=((badM j m).vals (gq A c)))
 (hL:∀W A c,vq=.slice A (l.length+1) c→w4.grownBy W v.ownBlock→Sl (Flat f ok) size W W.heap.size A (l.length+1) (l++[a])→MgLo W W.heap.size (badM j m) (gq A c))
 (hcs:∀A c,l.length+1≤c→c≤maxLen→(gq A c).caps) (hsm:∀A c,MgSm (badM j m) (gq A c)):OwnQ m h w w4 j (wq.setCell ⟨w4.heap.size,off,none⟩ vq):=by
 obtain⟨A,c,e,q1,q2⟩:=own_form hown
 have hz:(w5.alloc (.cells cs.toArray t)).heap.size=w4.heap.size+1+1:=by rw[World.size_alloc,h5]
 have hX5:Below w4.heap.size w4 (w5.alloc (.cells cs.toArray t)):=hA5.trans ((Below.refl _ _).alloc (by omega) _)
 have hn1:some w4.heap.size≠v.ownBlock:=fun e=>by have:=(ho.lt _ e.symm).2;omega
 have hn2:some w.heap.size≠v.ownBlock:=fun e=>by have:=(ho.lt _ e.symm).1;omega
 have hvq:vq.ownBlock≠some w4.heap.size:=by
  intro e1
  rcases hat with e2|e2
  · rw[e2]at e1;exact hn1 e1.symm
  · rw[e2,hz]at e1;injection e1;omega
 have P:=farSet (b:=w4.heap.size) (i:=off) (OwnL.push a hown) hvq vq
 have hgr:=grownOf rfl hX5 hg (p:=⟨w4.heap.size,off,none⟩) (Nat.le_refl _) vq
 obtain⟨A2,n2,c2,e2,-,-,s⟩:=OwnL.sl (ok:=ok) hsz hf P hok
 rw[e]at e2
 injection e2 with e3 e4 e5
 subst e3 e5
 rw[←e4]at s
 refine⟨⟨gq A c,?_,hL _ A c e hgr s,hcs A c q1 q2,hsm A c⟩,?_,?_⟩
 · rw[←hC A c e]
   exact((C5.alloc _).grown hg hn1).set_ off vq
 · exact((B5.alloc _).grown hg hn2).far (p:=⟨w4.heap.size,off,none⟩) (by simp only;omega) _
 · exact((hX4.trans (hX5.mono hX4.size)).grown hg (by omega) (fun q hq=>by have:=(ho.lt q hq).1;omega)).setCell (p:=⟨w4.heap.size,off,none⟩) (by simp only;omega) _
theorem OwnQ.turn {m:Mg} {h:Hm} {w w4 w5:World} {j off:Nat} {g:Hm} {v:Value} (hX4:Below w.heap.size w w4) (hl:w.heap.size<w4.heap.size) (hA5:Below w4.heap.size w4 w5) (C5:Blk w5 w4.heap.size 41 (m.vals g)) (B5:Blk w5 w.heap.size 41 (m.vals h))
 (i:MgLo w4 w4.heap.size m g) (cg:g.caps) (sm:MgSm m g) (hC:(m.vals g).setIfInBounds off v=(badM j m).vals g) (hL:∀W,MgLo W W.heap.size m g→MgLo W W.heap.size (badM j m) g) (hsm:MgSm m g→MgSm (badM j m) g):OwnQ m h w w4 j (w5.setCell ⟨w4.heap.size,off,none⟩ v):=by
 have hb:Below w4.heap.size w4 (w5.setCell ⟨w4.heap.size,off,none⟩ v):=hA5.setCell (p:=⟨w4.heap.size,off,none⟩) (Nat.le_refl _) v
 exact⟨⟨g,by rw[←hC];exact C5.set_ off v,hL _ (i.up hb),cg,hsm sm⟩,B5.far (p:=⟨w4.heap.size,off,none⟩) (by simp only;omega) _,hX4.trans (hb.mono hX4.size)⟩
theorem own_sign (q:Int):∃(x:Int) (jn:Nat),((q.tmod 14=x∧0≤x)∨(q.tmod 14= -x∧0<x∧x≤13))∧((jn=0∧x=0)∨(jn=1∧x=1)∨(jn=2∧x=2)∨(jn=3∧x=3)∨(jn=4∧x=4)∨(jn=5∧x=5)∨(jn=6∧x=6)∨(jn=7∧x=7)∨(jn=8∧x=8)∨(jn=9∧x=9)∨(jn=10∧x=10)∨(jn=11∧x=11)∨(jn=12∧x=12)∨(jn=13∧x=13)):=by
 have h1:=Int.tmod_lt_of_pos q (show (0:Int)<14 by omega)
 have h2:=Int.lt_tmod_of_pos q (show (0:Int)<14 by omega)
 have h3:(q.tmod 14).natAbs≤13:=by omega
 refine⟨((q.tmod 14).natAbs:Int),(q.tmod 14).natAbs,by omega,?_⟩
 generalize (q.tmod 14).natAbs=n at*
 have h4:n=0∨n=1∨n=2∨n=3∨n=4∨n=5∨n=6∨n=7∨n=8∨n=9∨n=10∨n=11∨n=12∨n=13:=by omega
 rcases h4 with rfl|rfl|rfl|rfl|rfl|rfl|rfl|rfl|rfl|rfl|rfl|rfl|rfl|rfl
 all_goals simp
set_option maxRecDepth 100000 in
set_option maxHeartbeats 16000000 in
theorem msgsOwn_any (m:Mg) (h:Hm) (q:Int) (w:World) (ok:m.ok) (i:MgLo w w.heap.size m h) (cp:h.caps):
 Calls Tryz.prog 7 #[.agg (m.vals h),.int .i64 q] w fun e w'=>e=.returned (.bool true)∧Below w.heap.size w w':=by
 have hX:Below w.heap.size w (w.alloc (.cells (m.vals h) 41)):=by go_grown
 have B0:Blk (w.alloc (.cells (m.vals h) 41)) w.heap.size 41 (m.vals h):=Blk.new _ _ _
 go_enter Tryz.func7,Tryz.ntmps7
 go_wp2_with fail
 refine(first_any _).mono ?_
 rintro e w1 ⟨rfl,hb1⟩
 have B1:=B0.below hb1 B0.lt
 have hX1:=hX.trans (hb1.mono hX.size)
 clear B0 hb1 hX
 go_wp2_with (guard_target=~ wpList _ _ _ _ _ _;refine wpList_load_row rfl 41 (.tmp 2) rfl w.heap.size (by kernel_rfl) _ _ (0,0) _ B1 rfl rfl (by kernel_rfl) ?_)
 refine(few_any m h w1 (i.up hX1) cp).mono ?_
 rintro e w2 ⟨rfl,hb2⟩
 have B2:=B1.below hb2 B1.lt
 have hX2:=hX1.trans (hb2.mono hX1.size)
 clear B1 hb2 hX1
 by_cases hw:weighMsg 20000 m≤20000
 rotate_left
 · have hd:decide (weighMsg 20000 m≤20000)=false:=decide_eq_false hw
   rw[hd]
   clear hd hw
   go_wp2_with fail
   refine(first_any _).mono ?_
   rintro e w3 ⟨rfl,hb3⟩
   go_wp2
   go_ret
   exact⟨rfl,hX2.trans (hb3.mono hX2.size)⟩
 have hd:decide (weighMsg 20000 m≤20000)=true:=decide_eq_true hw
 obtain⟨sm,pl⟩:=msg_small i hw
 have hlen:=Lib.hid (msg_len ok i hw)
 have hln:=Lib.hid (msg_gain m hw)
 rw[hd]
 clear hd hw
 go_wp2_with (guard_target=~ wpList _ _ _ _ _ _;refine wpList_load_row_g (by kernel_rfl) 41 (.tmp 2) rfl w.heap.size (by kernel_rfl) _ _ (0,0) _ B2 rfl rfl (by kernel_rfl) ?_)
 refine(mayM_any m h w2 ok (i.up hX2) sm pl).mono ?_
 rintro e w3 ⟨rfl,hb3⟩
 have B3:=B2.below hb3 B2.lt
 have hX3:=hX2.trans (hb3.mono hX2.size)
 clear B2 hb3 hX2
 by_cases hm:mayM m=0
 rotate_left
 · have hne:(mayM m !=0)=true:=by simp[hm]
   generalize mayM m=v at*
   clear hm
   go_wp2_with fail
   refine(first_any _).mono ?_
   rintro e w4 ⟨rfl,hb4⟩
   go_wp2
   go_ret
   exact⟨rfl,hX3.trans (hb4.mono hX3.size)⟩
 have hk:kindM m.k=true:=by
  cases hq:kindM m.k
  · unfold mayM at hm;rw[hq]at hm;cases hm
  · rfl
 rw[hm]
 clear hm
 have HB:=Lib.hid (fun j=>own_badM j m hk)
 clear hk
 go_wp2_with (guard_target=~ wpList _ _ _ _ _ _;refine wpList_load_row rfl 41 (.tmp 2) rfl w.heap.size (by kernel_rfl) _ _ (0,0) _ B3 rfl rfl (by kernel_rfl) ?_)
 refine(copyMsgO_any m h w3 (i.up hX3) sm pl).mono ?_
 rintro e w4 ⟨⟨g,rfl,cg,ig,gr⟩,hb4⟩
 have B4:=B3.below hb4 B3.lt
 have hX4:=hX3.trans (hb4.mono hX3.size)
 have hb34:=Lib.hid (And.intro B3.lt hb4.size)
 have smg:MgSm m g:=⟨by rw[←ig.ks.1,i.ks.1];exact sm.a,by rw[←ig.sn.1,i.sn.1];exact sm.b,by rw[←ig.ws.1,i.ws.1];exact sm.c,by rw[←ig.ps.1,i.ps.1];exact sm.d,by rw[←ig.rs.1,i.rs.1];exact sm.e,by rw[←ig.rc.1,i.rc.1];exact sm.f,sm.hs,sm.pn⟩
 have B5:=B4.alloc (.cells (m.vals g) 41)
 have hA5:Below w4.heap.size w4 (w4.alloc (.cells (m.vals g) 41)):=by go_grown
 have C5:Blk (w4.alloc (.cells (m.vals g) 41)) w4.heap.size 41 (m.vals g):=Blk.new _ _ _
 have hz5:(w4.alloc (.cells (m.vals g) 41)).heap.size=w4.heap.size+1:=by simp
 have HZ5:=Lib.hid hz5
 clear B3 hb4 hX3 B4 hz5
 go_upto_if 29 with (guard_target=~ wpList _ _ _ _ _ _;refine wpList_store_at rfl 41 _ _ rfl w4.heap.size (m.vals g) (by kernel_rfl) (by kernel_rfl) rfl _ _ (by kernel_rfl) (by kernel_rfl) (by kernel_rfl) ?_)
 generalize (w4.alloc (.cells (m.vals g) 41))=w5 at*
 obtain⟨x,jn,hsx,hjx⟩:=own_sign q
 have HJ:=Lib.hid hjx
 clear hjx
 generalize q.tmod 14=y at*
 go_cut [6] from 30 (fun v w'=>v=.int .i64 x∧w5=w')
 case first=>
  rcases hsx with ⟨rfl,h0⟩|⟨hy,h0,h1⟩
  · have hd:decide (y<0)=false:=decide_eq_false (by omega)
    go_wp2_with fail
    go_meet
    case rel=>exact⟨rfl,rfl⟩
  · have hd:decide (y<0)=true:=decide_eq_true (by omega)
    have hn:y<0:=by omega
    have hw:IntKind.i64.wrap (-y)=x:=by rw[IntKind.wrap_i64];omega
    replace hy:=Lib.hid hy
    go_wp2_with fail
    go_meet
    case rel=>exact⟨rfl,rfl⟩
 obtain⟨rfl,rfl⟩:=hcut
 clear hsx
 go_upto_block 0 with fail
 go_cut [] from 33 (fun w'=>OwnQ m h w w4 jn w')
 case first=>
  have hl4:w.heap.size<w4.heap.size:=by have:=hb34.out;omega
  have lC:=C5.lt
  rcases HJ.out with ⟨rfl,rfl⟩|⟨rfl,rfl⟩|⟨rfl,rfl⟩|⟨rfl,rfl⟩|⟨rfl,rfl⟩|⟨rfl,rfl⟩|⟨rfl,rfl⟩|⟨rfl,rfl⟩|⟨rfl,rfl⟩|⟨rfl,rfl⟩|⟨rfl,rfl⟩|⟨rfl,rfl⟩|⟨rfl,rfl⟩|⟨rfl,rfl⟩
  · have c:=cl (C5.cell 1)
    have f:w5.frozen? ⟨w4.heap.size,1,none⟩=false:=C5.frozen 1
    go_wp2_with fail
    go_meet
    case rel=>exact OwnQ.turn (j:=0) hX4 hl4 hA5 C5 B5 ig cg smg rfl (fun W s=>⟨s.ks,s.sn,s.ws,s.ps,s.rs,s.rc,s.hs,s.pn⟩) fun s=>⟨s.a,s.b,s.c,s.d,s.e,s.f,s.hs,s.pn⟩
  · have c:=cl (C5.cell 2)
    have f:w5.frozen? ⟨w4.heap.size,2,none⟩=false:=C5.frozen 2
    go_wp2_with fail
    go_meet
    case rel=>exact OwnQ.turn (j:=1) hX4 hl4 hA5 C5 B5 ig cg smg rfl (fun W s=>⟨s.ks,s.sn,s.ws,s.ps,s.rs,s.rc,s.hs,s.pn⟩) fun s=>⟨s.a,s.b,s.c,s.d,s.e,s.f,s.hs,s.pn⟩
  · have c:=cl (C5.cell 5)
    have f:w5.frozen? ⟨w4.heap.size,5,none⟩=false:=C5.frozen 5
    go_wp2_with fail
    go_meet
    case rel=>exact OwnQ.turn (j:=2) hX4 hl4 hA5 C5 B5 ig cg smg rfl (fun W s=>⟨s.ks,s.sn,s.ws,s.ps,s.rs,s.rc,s.hs,s.pn⟩) fun s=>⟨s.a,s.b,s.c,s.d,s.e,s.f,s.hs,s.pn⟩
  · have c:=cl (C5.cell 6)
    have f:w5.frozen? ⟨w4.heap.size,6,none⟩=false:=C5.frozen 6
    go_wp2_with fail
    go_meet
    case rel=>exact OwnQ.turn (j:=3) hX4 hl4 hA5 C5 B5 ig cg smg rfl (fun W s=>⟨s.ks,s.sn,s.ws,s.ps,s.rs,s.rc,s.hs,s.pn⟩) fun s=>⟨s.a,s.b,s.c,s.d,s.e,s.f,s.hs,s.pn⟩
  · have c:=cl (C5.cell 7)
    have f:w5.frozen? ⟨w4.heap.size,7,none⟩=false:=C5.frozen 7
    go_wp2_with fail
    go_meet
    case rel=>exact OwnQ.turn (j:=4) hX4 hl4 hA5 C5 B5 ig cg smg rfl (fun W s=>⟨s.ks,s.sn,s.ws,s.ps,s.rs,s.rc,s.hs,s.pn⟩) fun s=>⟨s.a,s.b,s.c,s.d,s.e,s.f,s.hs,s.pn⟩
  · have c:=cl (C5.cell 8)
    have f:w5.frozen? ⟨w4.heap.size,8,none⟩=false:=C5.frozen 8
    go_wp2_with fail
    go_meet
    case rel=>exact OwnQ.turn (j:=5) hX4 hl4 hA5 C5 B5 ig cg smg rfl (fun W s=>⟨s.ks,s.sn,s.ws,s.ps,s.rs,s.rc,s.hs,s.pn⟩) fun s=>⟨s.a,s.b,s.c,s.d,s.e,s.f,s.hs,s.pn⟩
  · have c:=cl (C5.cell 11)
    have f:w5.frozen? ⟨w4.heap.size,11,none⟩=false:=C5.frozen 11
    go_wp2_with fail
    go_meet
    case rel=>exact OwnQ.turn (j:=6) hX4 hl4 hA5 C5 B5 ig cg smg rfl (fun W s=>⟨s.ks,s.sn,s.ws,s.ps,s.rs,s.rc,s.hs,s.pn⟩) fun s=>⟨s.a,s.b,s.c,s.d,s.e,s.f,s.hs,s.pn⟩
  · have c:=cl (C5.cell 12)
    have f:w5.frozen? ⟨w4.heap.size,12,none⟩=false:=C5.frozen 12
    go_wp2_with fail
    go_meet
    case rel=>exact OwnQ.turn (j:=7) hX4 hl4 hA5 C5 B5 ig cg smg rfl (fun W s=>⟨s.ks,s.sn,s.ws,s.ps,s.rs,s.rc,s.hs,s.pn⟩) fun s=>⟨s.a,s.b,s.c,s.d,s.e,s.f,s.hs,s.pn⟩
  · have c:=cl (C5.cell 16)
    have f:w5.frozen? ⟨w4.heap.size,16,none⟩=false:=C5.frozen 16
    go_wp2_with fail
    go_meet
    case rel=>exact OwnQ.turn (j:=8) hX4 hl4 hA5 C5 B5 ig cg smg rfl (fun W s=>⟨s.ks,s.sn,s.ws,s.ps,s.rs,s.rc,s.hs,s.pn⟩) fun s=>⟨s.a,s.b,s.c,s.d,s.e,s.f,s.hs,s.pn⟩
  · have c:=cl (C5.cell 17)
    have f:w5.frozen? ⟨w4.heap.size,17,none⟩=false:=C5.frozen 17
    go_wp2_with fail
    go_meet
    case rel=>exact OwnQ.turn (j:=9) hX4 hl4 hA5 C5 B5 ig cg smg rfl (fun W s=>⟨s.ks,s.sn,s.ws,s.ps,s.rs,s.rc,s.hs,s.pn⟩) fun s=>⟨s.a,s.b,s.c,s.d,s.e,s.f,s.hs,s.pn⟩
  · obtain⟨i0,hi0,hz0,hz1,hz2⟩:=info_parts ky_info
    have z5:=cl (C5.cell 18)
    have hX6:Below w5.heap.size w5 (w5.alloc (.cells (keyCells (⟨#[]⟩:ByteArray)).toArray 9)):=(Below.refl _ _).alloc (Nat.le_refl _) _
    have hown:=(gr.oa.below hA5).below hX6
    have hrd:=reads_new' w5 9 (keyCells (⟨#[]⟩:ByteArray)) 1 rfl
    have hlq:=hln.out.1
    have hbs:w3.heap.size≤(w5.alloc (.cells (keyCells (⟨#[]⟩:ByteArray)).toArray 9)).heap.size:=by have:=HZ5.out;have:=hb34.out;rw[World.size_alloc];omega
    have hk:=i.ks
    go_wp2_with (first
        |(at_builtin
          refine wpList_append_any _ rfl (.tmp 69) (.tmp 70) _ rfl w3.heap.size 9 i0 _ 1 16 Tryz.underlying27 hi0 hz0 hz1 hz2 rfl (by omega) (.slice g.a.A g.a.n g.a.c) _ (m.ks.flatMap keyCells) (by rfl) hown _ (some ⟨w5.heap.size,0,none⟩) 1 1 (keyCells (⟨#[]⟩:ByteArray)) (by rfl) hrd (ky_one _) (by unfold maxLen;omega) (by omega) hbs ?_
          intro vq wq hownq hgq hatq
          obtain⟨Aq,qq,rfl,hqq,hmq⟩:=own_form hownq
          have Cq:Blk wq w4.heap.size 41 (m.vals g):=(C5.alloc _).grown hgq (fun e=>by have:=(gr.oa.lt _ e.symm).2;omega)
          have zq:=cl (Cq.cell 18)
          have fq:wq.frozen? ⟨w4.heap.size,18,none⟩=false:=Cq.frozen 18
          have HQ:=Lib.hid (OwnQ.grow (m:=m) (h:=h) (w:=w) (w4:=w4) (j:=10) (off:=18) (g:=g) (f:=keyCells) (ok:=fun k:ByteArray=>k.size≤140737488351232) (by decide) (fun _=>rfl)
           (fun x hx=>by
             rcases List.mem_append.1 hx with hx|hx
             · exact Sl.all_ok hk x hx
             · obtain rfl:=List.mem_singleton.1 hx
               exact Nat.zero_le _)
           hX4 hb34.out.1 hl4 hA5 HZ5.out C5 B5 gr.oa hownq hgq hatq (fun A c=>{g with a:=⟨A,m.ks.length+1,c⟩}) (fun A c e=>by rw[e];rfl) (fun W A c e hg s=>gr.ga W _ A _ c hg s)
           (fun A c h1 h2=>⟨⟨h1,h2⟩,cg.b,cg.c,cg.d,cg.e,cg.f,cg.g,cg.i⟩) (fun A c=>⟨(by show m.ks.length+1≤1000000;omega),smg.b,smg.c,smg.d,smg.e,smg.f,smg.hs,smg.pn⟩))
          clear hownq hgq hatq Cq))
    go_meet
    case rel=>exact HQ.out
  · obtain⟨i0,hi0,hz0,hz1,hz2⟩:=info_parts wt_info
    have z5:=cl (C5.cell 20)
    have hX6:Below w5.heap.size w5 (w5.alloc (.cells (Wt.cells (⟨⟨#[]⟩,⟨0,0,⟨#[]⟩⟩⟩:Wt)).toArray 61)):=(Below.refl _ _).alloc (Nat.le_refl _) _
    have hown:=(gr.oc.below hA5).below hX6
    have hrd:=reads_new' w5 61 (Wt.cells (⟨⟨#[]⟩,⟨0,0,⟨#[]⟩⟩⟩:Wt)) 4 rfl
    have hlq:=hln.out.2.2.1
    have hbs:w3.heap.size≤(w5.alloc (.cells (Wt.cells (⟨⟨#[]⟩,⟨0,0,⟨#[]⟩⟩⟩:Wt)).toArray 61)).heap.size:=by have:=HZ5.out;have:=hb34.out;rw[World.size_alloc];omega
    have hk:=i.ws
    go_wp2_with (first
        |(at_builtin
          refine wpList_append_any _ rfl (.tmp 76) (.tmp 78) _ rfl w3.heap.size 61 i0 _ 4 48 Tryz.underlying29 hi0 hz0 hz1 hz2 rfl (by omega) (.slice g.c.A g.c.n g.c.c) _ (m.ws.flatMap Wt.cells) (by rfl) hown _ (some ⟨w5.heap.size,0,none⟩) 1 1 (Wt.cells (⟨⟨#[]⟩,⟨0,0,⟨#[]⟩⟩⟩:Wt)) (by rfl) hrd (wt_one _) (by unfold maxLen;omega) (by omega) hbs ?_
          intro vq wq hownq hgq hatq
          obtain⟨Aq,qq,rfl,hqq,hmq⟩:=own_form hownq
          have Cq:Blk wq w4.heap.size 41 (m.vals g):=(C5.alloc _).grown hgq (fun e=>by have:=(gr.oc.lt _ e.symm).2;omega)
          have zq:=cl (Cq.cell 20)
          have fq:wq.frozen? ⟨w4.heap.size,20,none⟩=false:=Cq.frozen 20
          have HQ:=Lib.hid (OwnQ.grow (m:=m) (h:=h) (w:=w) (w4:=w4) (j:=11) (off:=20) (g:=g) (f:=Wt.cells) (ok:=Wt.ok) (by decide) (fun _=>rfl)
           (fun x hx=>by
             rcases List.mem_append.1 hx with hx|hx
             · exact Sl.all_ok hk x hx
             · obtain rfl:=List.mem_singleton.1 hx
               exact wtZ_ok)
           hX4 hb34.out.1 hl4 hA5 HZ5.out C5 B5 gr.oc hownq hgq hatq (fun A c=>{g with c:=⟨A,m.ws.length+1,c⟩}) (fun A c e=>by rw[e];rfl) (fun W A c e hg s=>gr.gc W _ A _ c hg s)
           (fun A c h1 h2=>⟨cg.a,cg.b,⟨h1,h2⟩,cg.d,cg.e,cg.f,cg.g,cg.i⟩) (fun A c=>⟨smg.a,smg.b,(by show m.ws.length+1≤1000000;omega),smg.d,smg.e,smg.f,smg.hs,smg.pn⟩))
          clear hownq hgq hatq Cq))
    go_meet
    case rel=>exact HQ.out
  · obtain⟨i0,hi0,hz0,hz1,hz2⟩:=info_parts nm_info
    have z5:=cl (C5.cell 21)
    have hX6:Below w5.heap.size w5 (w5.alloc (.cells (nmCells (0:Int)).toArray 3)):=(Below.refl _ _).alloc (Nat.le_refl _) _
    have hown:=(gr.od.below hA5).below hX6
    have hrd:=reads_new' w5 3 (nmCells (0:Int)) 1 rfl
    have hlq:=hln.out.2.2.2.1
    have hbs:w3.heap.size≤(w5.alloc (.cells (nmCells (0:Int)).toArray 3)).heap.size:=by have:=HZ5.out;have:=hb34.out;rw[World.size_alloc];omega
    have hk:=i.ps
    go_wp2_with (first
        |(at_builtin
          refine wpList_append_any _ rfl (.tmp 84) (.tmp 85) _ rfl w3.heap.size 3 i0 _ 1 8 Tryz.underlying30 hi0 hz0 hz1 hz2 rfl (by omega) (.slice g.d.A g.d.n g.d.c) _ (m.ps.flatMap nmCells) (by rfl) hown _ (some ⟨w5.heap.size,0,none⟩) 1 1 (nmCells (0:Int)) (by rfl) hrd (nm_one _) (by unfold maxLen;omega) (by omega) hbs ?_
          intro vq wq hownq hgq hatq
          obtain⟨Aq,qq,rfl,hqq,hmq⟩:=own_form hownq
          have Cq:Blk wq w4.heap.size 41 (m.vals g):=(C5.alloc _).grown hgq (fun e=>by have:=(gr.od.lt _ e.symm).2;omega)
          have zq:=cl (Cq.cell 21)
          have fq:wq.frozen? ⟨w4.heap.size,21,none⟩=false:=Cq.frozen 21
          have HQ:=Lib.hid (OwnQ.grow (m:=m) (h:=h) (w:=w) (w4:=w4) (j:=12) (off:=21) (g:=g) (f:=nmCells) (ok:=i64ok) (by decide) (fun _=>rfl)
           (fun x hx=>by
             rcases List.mem_append.1 hx with hx|hx
             · exact Sl.all_ok hk x hx
             · obtain rfl:=List.mem_singleton.1 hx
               exact(by unfold i64ok;omega:i64ok 0))
           hX4 hb34.out.1 hl4 hA5 HZ5.out C5 B5 gr.od hownq hgq hatq (fun A c=>{g with d:=⟨A,m.ps.length+1,c⟩}) (fun A c e=>by rw[e];rfl) (fun W A c e hg s=>gr.gd W _ A _ c hg s)
           (fun A c h1 h2=>⟨cg.a,cg.b,cg.c,⟨h1,h2⟩,cg.e,cg.f,cg.g,cg.i⟩) (fun A c=>⟨smg.a,smg.b,smg.c,(by show m.ps.length+1≤1000000;omega),smg.e,smg.f,smg.hs,smg.pn⟩))
          clear hownq hgq hatq Cq))
    go_meet
    case rel=>exact HQ.out
  · have c:=cl (C5.cell 28)
    have f:w5.frozen? ⟨w4.heap.size,28,none⟩=false:=C5.frozen 28
    go_wp2_with fail
    go_meet
    case rel=>exact OwnQ.turn (j:=13) hX4 hl4 hA5 C5 B5 ig cg smg rfl (fun W s=>⟨s.ks,s.sn,s.ws,s.ps,s.rs,s.rc,s.hs,s.pn⟩) fun s=>⟨s.a,s.b,s.c,s.d,s.e,s.f,s.hs,s.pn⟩
 obtain⟨⟨g',C,I,cX,sX⟩,B,hXc⟩:=hcut
 have hbad:=HB.out jn
 have okX:=badM_ok jn ok
 have plX:∀r∈(badM jn m).rc,RcPl r:=by rw[badM_rc];exact pl
 generalize badM jn m=X at*
 have hEX:=fun w' (hb:Below wc.heap.size wc w')=>mencode_of X g' w' [] okX (I.up hb) sX plX (fun e=>by rw[hbad]at e;cases e) (by decide)
 have hMX:=fun w' (hb:Below wc.heap.size wc w')=>mayM_any X g' w' okX (I.up hb) sX plX
 rw[show mencE X []=4 from by unfold mencE;rw[hbad];rfl,show mencOut X []=[] from by unfold mencOut;split<;>rfl]at hEX
 rw[hbad]at hMX
 have lC:=C.lt
 clear HB HJ hb34 HZ5 B5 hA5 C5 hX4 ig cg gr smg hln hbad okX plX I sX
 generalize w4.heap.size=gx at*
 go_wp2_with (guard_target=~ wpList _ _ _ _ _ _;refine wpList_load_row rfl 41 (.tmp 5) rfl gx (by kernel_rfl) _ _ (0,0) _ C rfl rfl (by kernel_rfl) ?_)
 refine(hEX wc (Below.refl _ _)).mono ?_
 rintro e w6 ⟨A6,c6,rfl,q6,m6,o6,hb6⟩
 have B6:=B.below hb6 B.lt
 have C6:=C.below hb6 C.lt
 have hX6:=hXc.trans (hb6.mono hXc.size)
 clear B hEX o6
 go_wp2_with (guard_target=~ wpList _ _ _ _ _ _;refine wpList_load_row rfl 41 (.tmp 2) rfl w.heap.size (by kernel_rfl) _ _ (0,0) _ B6 rfl rfl (by kernel_rfl) ?_)
 refine(mencode_any m h w6 ok (i.up hX6) cp sm pl hlen.out).mono ?_
 rintro e w7 ⟨A7,c7,rfl,q7,m7,o7,hb7⟩
 have B7:=B6.below hb7 B6.lt
 have C7:=C6.below hb7 C6.lt
 have hX7:=hX6.trans (hb7.mono hX6.size)
 have hc7:=hb6.trans (hb7.mono hb6.size)
 have R7:Reads w7 w7.heap.size 1 A7 (mencOut m (encMg m)).length (bytesV (mencOut m (encMg m))):=Reads.of_own o7
 clear B6 C6 hX6 hb7 hb6 o7
 go_wp2_with (guard_target=~ wpList _ _ _ _ _ _;refine wpList_load_row rfl 41 (.tmp 2) rfl w.heap.size (by kernel_rfl) _ _ (0,0) _ B7 rfl rfl (by kernel_rfl) ?_)
 refine(mxEncode m h w7 ok (i.up hX7) cp sm pl hlen.out).mono ?_
 rintro e w8 ⟨A8,c8,rfl,q8,m8,o8,hb8⟩
 have C8:=C7.below hb8 C7.lt
 have hX8:=hX7.trans (hb8.mono hX7.size)
 have hc8:=hc7.trans (hb8.mono hc7.size)
 have R8:=(R7.below hb8).more hb8.size
 have S8:Reads w8 w8.heap.size 1 A8 (mencOut m (encMg m)).length (bytesV (mencOut m (encMg m))):=Reads.of_own o8
 clear B7 C7 hX7 hb8 hc7 R7 o8
 go_wp2_with fail
 refine(first_any _).mono ?_
 rintro e w9 ⟨rfl,hb9⟩
 have C9:=C8.below hb9 C8.lt
 have hX9:=hX8.trans (hb9.mono hX8.size)
 have hc9:=hc8.trans (hb9.mono hc8.size)
 have R9:=(R8.below hb9).more hb9.size
 have S9:=(S8.below hb9).more hb9.size
 clear C8 hX8 hb9 hc8 R8 S8
 have hee:(mencE m (encMg m)==mencE m (encMg m))=true:=by simp
 generalize mencE m (encMg m)=er at*
 go_wp2_with (guard_target=~ wpList _ _ _ _ _ _;refine wpList_load_row_g (by kernel_rfl) 41 (.tmp 5) rfl gx (by kernel_rfl) _ _ (0,0) _ C9 rfl rfl (by kernel_rfl) ?_)
 refine(hMX w9 hc9).mono ?_
 rintro e w10 ⟨rfl,hb10⟩
 have R10:=(R9.below hb10).more hb10.size
 have S10:=(S9.below hb10).more hb10.size
 have hX10:=hX9.trans (hb10.mono hX9.size)
 have hEq:=sbytes w10 (c:=c7) (c':=c8) R10 S10
 rw[show (mencOut m (encMg m)==mencOut m (encMg m))=true from by simp]at hEq
 clear hMX C9 hX9 R9 S9 R10 S10 hb10 hc9
 go_wp2_with fail
 refine hEq.mono ?_
 rintro e w11 ⟨rfl,rfl⟩
 go_wp2
 go_ret
 exact⟨rfl,hX10⟩
end Go.Proofs.YtcalkfgibflbnaaGreat
