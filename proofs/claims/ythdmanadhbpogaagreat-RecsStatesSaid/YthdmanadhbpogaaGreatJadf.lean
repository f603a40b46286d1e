/- The walks of raceref's comparisons, whatever both sides read as: Histories, Pending, Pendings, State. -/
import Derived.Test.YthdmanadhbpogaaGreatJaaf
import Derived.Test.YthdmanadhbpogaaGreatJabi
import Derived.Test.YthdmanadhbpogaaGreatJacc
import Derived.Test.YthdmanadhbpogaaGreatJadd
import Derived.Test.YthdmanadhbpogaaGreatJade
namespace Go.Proofs.YthdmanadhbpogaaGreat
set_option maxHeartbeats 8000000
set_option maxRecDepth 100000
set_option linter.unusedVariables false
open Go.RowKit Fl
attribute [local go_sem] run_store_float
def Vn.same (a b:Vn):Bool:=decide (a.s=b.s)&&a.v.same b.v
def Hs.same (a b:Hs):Bool:=(a.key.toList==b.key.toList)&&decide (a.vs.length=b.vs.length)&&sameL Vn.same a.vs b.vs
def Pn.same (p q:Pn):Bool:=decide (p.t=q.t)&&decide (p.s=q.s)&&sameL (fun a b:ByteArray=>a.toList==b.toList) p.r q.r&&sameL Wt.same p.w q.w
def Stt.same (a b:Stt):Bool:=a.r.same b.r&&decide (a.f=b.f)&&decide (a.c=b.c)&&sameL Hs.same a.h b.h&&sameL Pn.same a.p b.p
theorem stamp_ne (a b:Sp) (w:World):(binOp .neq 25 (.agg #[.int .i64 a.w,.int .i64 a.l,.int .i64 a.n]) (.agg #[.int .i64 b.w,.int .i64 b.l,.int .i64 b.n])).run Tryz.prog w=.ok (.bool (!decide (a=b))) w:=by
 have e:decide (a=b)=((a.w==b.w)&&(a.l==b.l)&&(a.n==b.n)):=by
  obtain⟨a1,a2,a3⟩:=a
  obtain⟨b1,b2,b3⟩:=b
  rw[Bool.eq_iff_iff]
  simp[and_assoc]
 rw[e]
 cases h1:(a.w==b.w)<;>cases h2:(a.l==b.l)<;>cases h3:(a.n==b.n)
 all_goals simp[go_sem,h1,h2,h3]
theorem hists_any (A A':Option Addr) (n n' c c':Nat) (l m:List Hs) (w:World) (h:Sl HsRel 2 w w.heap.size A n l) (h':Sl HsRel 2 w w.heap.size A' n' m) (hn:n≤maxLen) (hn':n'≤maxLen):
 Calls Tryz.prog 82 #[.slice A n c,.slice A' n' c'] w fun e w'=>e=.returned (.bool (sameL Hs.same l m))∧Below w.heap.size w w':=by
 unfold maxLen at hn hn'
 have hl:=h.1
 have hl':=h'.1
 by_cases hne:n=n'
 · subst hne
   have hb0:((n:Int) !=(n:Int))=false:=by simp
   have hle:l.length≤n:=by omega
   have hge:n≤l.length:=by omega
   have hle':n≤m.length:=by omega
   have hle2:m.length≤n:=by omega
   clear hl hl'
   go_enter Tryz.func82,Tryz.ntmps82
   go_wp2
   go_loopw [5] (fun i wr=>SameRel Hs.same l m w i wr) (fun i _=>n-(intOf i).toNat)
   case atStart=>exact⟨0,by omega,rfl,rfl,Below.refl _ _⟩
   case round=>
    obtain⟨k,hk,rfl,hs,hb⟩:=hrel
    have hzz:=hb.size
    by_cases hlt:k<n
    · obtain⟨ad,a,A1,n1,c1,rfl,ha,hbk,hok,d0,d1,hn1,hc1,hs1⟩:=((h.below HsRel.kept hb).more HsRel.kept hb.size).hs hlt
      obtain⟨ad',a',A2,n2,c2,rfl,ha',hbk',hok',e0,e1,hn2,hc2,hs2⟩:=((h'.below HsRel.kept hb).more HsRel.kept hb.size).hs hlt
      have hd1:decide ((k:Int)<(n:Int))=true:=by simp;omega
      have hk0:(0:Int)≤(k:Int):=by omega
      have hk1:(k:Int)<(n:Int):=by omega
      rw[sameL_drop ha ha']at hs
      have HS:=Lib.hid hs
      have HA:=Lib.hid ha
      have HA':=Lib.hid ha'
      have hl1:=hs1.1
      have hl2:=hs2.1
      unfold maxLen at hc1 hc2
      clear ha ha' hs
      cases hq:(a.key.toList==a'.key.toList)
      · have HF:RowKit.Hid (sameL Hs.same l m=false):=by have:=HS.out;rw[show Hs.same a a'=false from by unfold Hs.same;rw[hq];rfl]at this;exact this.symm
        clear hl1 hl2
        go_wp2
        go_quiet (fail)
        go_wp2
        go_ret
        rw[HF.out]
        exact⟨rfl,hb.trans ((belowN _).mono hzz)⟩
      · by_cases hnn:n1=n2
        · subst hnn
          have hb1:((n1:Int) !=(n1:Int))=false:=by simp
          have hge1:n1≤a.vs.length:=by omega
          have hle1:a.vs.length≤n1:=by omega
          have hge2:n1≤a'.vs.length:=by omega
          have hle2':a'.vs.length≤n1:=by omega
          have HQ:RowKit.Hid (sameL Hs.same l m=(sameL Vn.same a.vs a'.vs&&sameL Hs.same (l.drop (k+1)) (m.drop (k+1)))):=by
           have:=HS.out
           rw[show Hs.same a a'=sameL Vn.same a.vs a'.vs from by unfold Hs.same;rw[hq,decide_eq_true (by omega)];rfl]at this
           exact this.symm
          clear hl1 hl2 HS
          go_wp2
          go_quiet (fail)
          go_wp2
          have hbq:Below w.heap.size w (wr.drewN nq):=hb.trans ((belowN nq).mono hzz)
          clear d0 d1 e0 e1 hs1 hs2 hb hzz
          go_loopw [6] (fun i wr=>SameRel Vn.same a.vs a'.vs w i wr) (fun i _=>n1-(intOf i).toNat)
          case atStart=>exact⟨0,by omega,rfl,rfl,hbq⟩
          case round=>
           obtain⟨k2,hk2,rfl,hv,hb⟩:=hrel
           have hzz:=hb.size
           obtain⟨ad1,a1,B1,m1,c3,ex,ha1,hbk1,hok1,d0,d1,hm1,hc3,hs1⟩:=((h.below HsRel.kept hb).more HsRel.kept hb.size).hs hlt
           obtain⟨ad2,a2,B2,m2,c4,ey,ha2,hbk2,hok2,e0,e1,hm2,hc4,hs2⟩:=((h'.below HsRel.kept hb).more HsRel.kept hb.size).hs hlt
           injection ex with ex
           injection ey with ey
           subst ex ey
           obtain rfl:a=a1:=Option.some.inj (HA.out.symm.trans ha1)
           obtain rfl:a'=a2:=Option.some.inj (HA'.out.symm.trans ha2)
           obtain rfl:n1=m1:=by have:=hs1.1;omega
           obtain rfl:n1=m2:=by have:=hs2.1;omega
           clear ha1 ha2
           by_cases hlt2:k2<n1
           · obtain⟨bd,v,rfl,hv1,hvk,hvo,x0,x1,x2,x3,x4,x5⟩:=hs1.vn hlt2
             obtain⟨bd',v',rfl,hv2,hvk',hvo',y0,y1,y2,y3,y4,y5⟩:=hs2.vn hlt2
             have hd3:decide ((k2:Int)<(n1:Int))=true:=by simp;omega
             have hk20:(0:Int)≤(k2:Int):=by omega
             have hk21:(k2:Int)<(n1:Int):=by omega
             have hvs:=fun w=>value_any v.v v'.v w
             have hne:=fun w=>stamp_ne v.s v'.s w
             rw[sameL_drop hv1 hv2]at hv
             have HV:=Lib.hid (show sameL Vn.same a.vs a'.vs=(decide (v.s=v'.s)&&v.v.same v'.v&&sameL Vn.same (a.vs.drop (k2+1)) (a'.vs.drop (k2+1))) from hv.symm)
             clear hv1 hv2 hv
             generalize decide (v.s=v'.s)=b1 at*
             generalize v.v.same v'.v=b2 at*
             cases b1
             · have HF:RowKit.Hid (sameL Hs.same l m=false):=by rw[HQ.out,HV.out];exact Lib.hid rfl
               go_wp2
               go_region
               go_wp2
               all_goals
                go_ret
                rw[HF.out]
                exact⟨rfl,hb.trans (Below.mono (w:=wr) (by go_grown) hzz)⟩
             · have HV2:RowKit.Hid (sameL Vn.same a.vs a'.vs=(b2&&sameL Vn.same (a.vs.drop (k2+1)) (a'.vs.drop (k2+1)))):=by rw[HV.out];exact Lib.hid rfl
               clear HV
               cases b2
               · have HF:RowKit.Hid (sameL Hs.same l m=false):=by rw[HQ.out,HV2.out];exact Lib.hid rfl
                 go_wp2
                 go_region
                 go_wp2_with ((with_reducible refine(hvs _).mono ?_);rintro e w3 ⟨rfl,hb3⟩)
                 all_goals
                  have hb4:Below wr.heap.size wr w3:=Below.trans (by go_grown;done) (hb3.mono (by simp;omega))
                  go_ret
                  rw[HF.out]
                  exact⟨rfl,hb.trans (hb4.mono hzz)⟩
               · have HT2:RowKit.Hid (sameL Vn.same (a.vs.drop (k2+1)) (a'.vs.drop (k2+1))=sameL Vn.same a.vs a'.vs):=by rw[HV2.out];exact Lib.hid rfl
                 go_wp2
                 go_region
                 go_wp2_with ((with_reducible refine(hvs _).mono ?_);rintro e w3 ⟨rfl,hb3⟩)
                 all_goals
                  have hb4:Below wr.heap.size wr w3:=Below.trans (by go_grown;done) (hb3.mono (by simp;omega))
                  clear hb3
                  go_roundw
                  case rel=>exact⟨k2+1,by omega,by go_num,HT2.out,hb.trans (hb4.mono hzz)⟩
                  case measure=>simp[intOf];omega
           · have hd3:decide ((k2:Int)<(n1:Int))=false:=by simp;omega
             have hv0:sameL Vn.same a.vs a'.vs=true:=by rw[←hv,List.drop_of_length_le (by omega),List.drop_of_length_le (by omega)];rfl
             have HT:RowKit.Hid (sameL Hs.same (l.drop (k+1)) (m.drop (k+1))=sameL Hs.same l m):=by rw[HQ.out,hv0];exact Lib.hid rfl
             clear hv hv0
             go_wp2
             go_roundw
             case rel=>exact⟨k+1,by omega,by go_num,HT.out,hb⟩
             case measure=>simp[intOf];omega
        · have hb1:((n1:Int) !=(n2:Int))=true:=by simp;omega
          have HF:RowKit.Hid (sameL Hs.same l m=false):=by have:=HS.out;rw[show Hs.same a a'=false from by unfold Hs.same;rw[hq,decide_eq_false (by omega)];rfl]at this;exact this.symm
          clear hl1 hl2 hnn
          go_wp2
          go_quiet (fail)
          go_wp2
          go_ret
          rw[HF.out]
          exact⟨rfl,hb.trans ((belowN _).mono hzz)⟩
    · have hd1:decide ((k:Int)<(n:Int))=false:=by simp;omega
      have hs2:sameL Hs.same l m=true:=by
         rw[←hs,List.drop_of_length_le (by omega),List.drop_of_length_le (by omega)];rfl
      have HS:=Lib.hid hs2
      clear hs hs2
      go_wp2
      go_ret
      rw[HS.out]
      exact⟨rfl,hb⟩
 · have hb0:((n:Int) !=(n':Int))=true:=by simp;omega
   rw[sameL_len l m (by omega)]
   clear hl hl' hne
   go_enter Tryz.func82,Tryz.ntmps82
   go_wp2
   go_ret
   exact⟨rfl,Below.refl _ _⟩
theorem pend_any2 (p q:Pn) (A1 A2 B1 B2:Option Addr) (n1 n2 m1 m2 c1 c2 d1 d2:Nat) (w:World) (h1:Sl KyRel 1 w w.heap.size A1 n1 p.r) (h2:Sl WtRel 4 w w.heap.size A2 n2 p.w) (k1:Sl KyRel 1 w w.heap.size B1 m1 q.r) (k2:Sl WtRel 4 w w.heap.size B2 m2 q.w)
 (hn1:n1≤maxLen) (hn2:n2≤maxLen) (hm1:m1≤maxLen) (hm2:m2≤maxLen):
 Calls Tryz.prog 149 #[p.val (.slice A1 n1 c1) (.slice A2 n2 c2),q.val (.slice B1 m1 d1) (.slice B2 m2 d2)] w fun e w'=>e=.returned (.bool (p.same q))∧Below w.heap.size w w':=by
 have hX:Below w.heap.size w ((w.alloc (.cells (p.arr (.slice A1 n1 c1) (.slice A2 n2 c2)) 96)).alloc (.cells (q.arr (.slice B1 m1 d1) (.slice B2 m2 d2)) 96)):=by go_grown
 have i2:Blk ((w.alloc (.cells (p.arr (.slice A1 n1 c1) (.slice A2 n2 c2)) 96)).alloc (.cells (q.arr (.slice B1 m1 d1) (.slice B2 m2 d2)) 96)) w.heap.size 96 (p.arr (.slice A1 n1 c1) (.slice A2 n2 c2)):=(Blk.new _ _ _).alloc _
 have i3:Blk ((w.alloc (.cells (p.arr (.slice A1 n1 c1) (.slice A2 n2 c2)) 96)).alloc (.cells (q.arr (.slice B1 m1 d1) (.slice B2 m2 d2)) 96)) (w.heap.size+1) 96 (q.arr (.slice B1 m1 d1) (.slice B2 m2 d2)):=Blk.new' _ _ (by simp)
 have hT:=fun w' (hb:Below w.heap.size w w')=>texts_any A1 B1 n1 m1 c1 d1 p.r q.r w' ((h1.below KyRel.kept hb).more KyRel.kept hb.size) ((k1.below KyRel.kept hb).more KyRel.kept hb.size) hn1 hm1
 have hW:=fun w' (hb:Below w.heap.size w w')=>wts_any A2 B2 n2 m2 c2 d2 p.w q.w w' ((h2.below WtRel.kept hb).more WtRel.kept hb.size) ((k2.below WtRel.kept hb).more WtRel.kept hb.size) hn2 hm2
 have z0:=fun w=>txn_run p.t q.t w
 have z1:=fun w=>sp_run p.s q.s w
 have HS:=Lib.hid (show p.same q=(decide (p.t=q.t)&&decide (p.s=q.s)&&sameL (fun a b:ByteArray=>a.toList==b.toList) p.r q.r&&sameL Wt.same p.w q.w) from rfl)
 generalize p.same q=res at*
 generalize decide (p.t=q.t)=b1 at*
 generalize decide (p.s=q.s)=b2 at*
 generalize sameL (fun a b:ByteArray=>a.toList==b.toList) p.r q.r=b3 at*
 generalize sameL Wt.same p.w q.w=b4 at*
 clear h1 h2 k1 k2
 go_enter Tryz.func149,Tryz.ntmps149
 go_wp2_with (first
  |((with_reducible refine(hT _ hX).mono ?_);rintro e w3 ⟨rfl,hb3⟩
    have j2:=i2.below hb3 i2.lt
    have j3:=i3.below hb3 i3.lt
    have hY:=hX.trans (hb3.mono hX.size)
    obtain⟨l2,x0,x1,x2,x3,x4,x5,x6,x7⟩:=j2.eight
    obtain⟨l3,y0,y1,y2,y3,y4,y5,y6,y7⟩:=j3.eight)
  |((with_reducible refine(hW _ hY).mono ?_);rintro e w4 ⟨rfl,hb4⟩))
 all_goals go_ret
 all_goals refine⟨ret_bool ?_,by first|exact hX|exact hX.trans (hb3.mono hX.size)|exact hY.trans (hb4.mono hY.size)⟩
 all_goals rw[HS.out]
 all_goals simp_all
theorem pends_any (A A':Option Addr) (n n' c c':Nat) (l m:List Pn) (w:World) (h:Sl PnRel 8 w w.heap.size A n l) (h':Sl PnRel 8 w w.heap.size A' n' m) (hn:n≤maxLen) (hn':n'≤maxLen):
 Calls Tryz.prog 83 #[.slice A n c,.slice A' n' c'] w fun e w'=>e=.returned (.bool (sameL Pn.same l m))∧Below w.heap.size w w':=by
 unfold maxLen at hn hn'
 have hl:=h.1
 have hl':=h'.1
 by_cases hne:n=n'
 · subst hne
   have hb0:((n:Int) !=(n:Int))=false:=by simp
   have hle:l.length≤n:=by omega
   have hge:n≤l.length:=by omega
   have hle':n≤m.length:=by omega
   have hle2:m.length≤n:=by omega
   clear hl hl'
   go_enter Tryz.func83,Tryz.ntmps83
   go_wp2
   go_loopw [5] (fun i wr=>SameRel Pn.same l m w i wr) (fun i _=>n-(intOf i).toNat)
   case atStart=>exact⟨0,by omega,rfl,rfl,Below.refl _ _⟩
   case round=>
    obtain⟨k,hk,rfl,hs,hb⟩:=hrel
    have hzz:=hb.size
    by_cases hlt:k<n
    · obtain⟨ad,a,A1,n1,c1,A2,n2,c2,rfl,ha,hbk,hxt,hxs,d0,d1,d2,d3,d4,d5,d6,d7,hn1,hc1,hs1,hn2,hc2,hs2⟩:=((h.below PnRel.kept hb).more PnRel.kept hb.size).pn hlt
      obtain⟨ad',a',A3,n3,c3,A4,n4,c4,rfl,ha',hbk',hxt',hxs',e0,e1,e2,e3,e4,e5,e6,e7,hn3,hc3,hs3,hn4,hc4,hs4⟩:=((h'.below PnRel.kept hb).more PnRel.kept hb.size).pn hlt
      have hd1:decide ((k:Int)<(n:Int))=true:=by simp;omega
      have hk0:(0:Int)≤(k:Int):=by omega
      have hk1:(k:Int)<(n:Int):=by omega
      have hP:=fun w' (hb:Below wr.heap.size wr w')=>pend_any2 a a' A1 A2 A3 A4 n1 n2 n3 n4 c1 c2 c3 c4 w' ((hs1.below KyRel.kept hb).more KyRel.kept hb.size) ((hs2.below WtRel.kept hb).more WtRel.kept hb.size) ((hs3.below KyRel.kept hb).more KyRel.kept hb.size) ((hs4.below WtRel.kept hb).more WtRel.kept hb.size) (by omega) (by omega) (by omega) (by omega)
      rw[sameL_drop ha ha']at hs
      have HS:=Lib.hid hs
      clear ha ha' hs
      generalize a.same a'=r at*
      go_wp2
      go_region_held3 (fun w'=>w'.cell? (ad.add (k*8))=some (.int .i64 a.t.c)∧w'.cell? ⟨(ad.add (k*8)).block,(ad.add (k*8)).off+1,none⟩=some (.int .i64 a.t.l)∧w'.cell? ⟨(ad.add (k*8)).block,(ad.add (k*8)).off+2,none⟩=some (.int .i64 a.t.s)∧w'.cell? ⟨(ad.add (k*8)).block,(ad.add (k*8)).off+3,none⟩=some (.int .i64 a.s.w)∧w'.cell? ⟨(ad.add (k*8)).block,(ad.add (k*8)).off+4,none⟩=some (.int .i64 a.s.l)∧w'.cell? ⟨(ad.add (k*8)).block,(ad.add (k*8)).off+5,none⟩=some (.int .i64 a.s.n)∧w'.cell? ⟨(ad.add (k*8)).block,(ad.add (k*8)).off+6,none⟩=some (.slice A1 n1 c1)∧w'.cell? ⟨(ad.add (k*8)).block,(ad.add (k*8)).off+7,none⟩=some (.slice A2 n2 c2)∧w'.cell? (ad'.add (k*8))=some (.int .i64 a'.t.c)∧w'.cell? ⟨(ad'.add (k*8)).block,(ad'.add (k*8)).off+1,none⟩=some (.int .i64 a'.t.l)∧w'.cell? ⟨(ad'.add (k*8)).block,(ad'.add (k*8)).off+2,none⟩=some (.int .i64 a'.t.s)∧w'.cell? ⟨(ad'.add (k*8)).block,(ad'.add (k*8)).off+3,none⟩=some (.int .i64 a'.s.w)∧w'.cell? ⟨(ad'.add (k*8)).block,(ad'.add (k*8)).off+4,none⟩=some (.int .i64 a'.s.l)∧w'.cell? ⟨(ad'.add (k*8)).block,(ad'.add (k*8)).off+5,none⟩=some (.int .i64 a'.s.n)∧w'.cell? ⟨(ad'.add (k*8)).block,(ad'.add (k*8)).off+6,none⟩=some (.slice A3 n3 c3)∧w'.cell? ⟨(ad'.add (k*8)).block,(ad'.add (k*8)).off+7,none⟩=some (.slice A4 n4 c4))
         (first|exact⟨d0,d1,d2,d3,d4,d5,d6,d7,e0,e1,e2,e3,e4,e5,e6,e7⟩|exact⟨(hb9.cell (by exact hbk)).trans d0,(hb9.cell (by exact hbk)).trans d1,(hb9.cell (by exact hbk)).trans d2,(hb9.cell (by exact hbk)).trans d3,(hb9.cell (by exact hbk)).trans d4,(hb9.cell (by exact hbk)).trans d5,(hb9.cell (by exact hbk)).trans d6,(hb9.cell (by exact hbk)).trans d7,(hb9.cell (by exact hbk')).trans e0,(hb9.cell (by exact hbk')).trans e1,(hb9.cell (by exact hbk')).trans e2,(hb9.cell (by exact hbk')).trans e3,(hb9.cell (by exact hbk')).trans e4,(hb9.cell (by exact hbk')).trans e5,(hb9.cell (by exact hbk')).trans e6,(hb9.cell (by exact hbk')).trans e7⟩)
         (first|((with_reducible refine(hP _ (Below.refl _ _).drew).mono ?_);rintro e w5 ⟨rfl,hb5⟩;have hb9:Below wr.heap.size wr w5:=(Below.refl wr.heap.size wr).drew.trans hb5))
      cases r
      · have HF:RowKit.Hid (sameL Pn.same l m=false):=by have:=HS.out;rw[Bool.false_and]at this;exact this.symm
        go_wp2
        go_ret
        rw[HF.out]
        exact⟨rfl,hb.trans (hb9.mono hzz)⟩
      · have HT:RowKit.Hid (sameL Pn.same (l.drop (k+1)) (m.drop (k+1))=sameL Pn.same l m):=by have:=HS.out;rw[Bool.true_and]at this;exact this
        go_wp2
        go_roundw
        case rel=>exact⟨k+1,by omega,by go_num,HT.out,hb.trans (hb9.mono hzz)⟩
        case measure=>simp[intOf];omega
    · have hd1:decide ((k:Int)<(n:Int))=false:=by simp;omega
      have hs2:sameL Pn.same l m=true:=by
         rw[←hs,List.drop_of_length_le (by omega),List.drop_of_length_le (by omega)];rfl
      have HS:=Lib.hid hs2
      clear hs hs2
      go_wp2
      go_ret
      rw[HS.out]
      exact⟨rfl,hb⟩
 · have hb0:((n:Int) !=(n':Int))=true:=by simp;omega
   rw[sameL_len l m (by omega)]
   clear hl hl' hne
   go_enter Tryz.func83,Tryz.ntmps83
   go_wp2
   go_ret
   exact⟨rfl,Below.refl _ _⟩
theorem state_any (s t:Stt) (A1 A2 B1 B2:Option Addr) (n1 n2 m1 m2 c1 c2 d1 d2:Nat) (w:World) (h1:Sl HsRel 2 w w.heap.size A1 n1 s.h) (h2:Sl PnRel 8 w w.heap.size A2 n2 s.p) (k1:Sl HsRel 2 w w.heap.size B1 m1 t.h) (k2:Sl PnRel 8 w w.heap.size B2 m2 t.p)
 (hn1:n1≤maxLen) (hn2:n2≤maxLen) (hm1:m1≤maxLen) (hm2:m2≤maxLen):
 Calls Tryz.prog 33 #[.agg (s.arr (.slice A1 n1 c1) (.slice A2 n2 c2)),.agg (t.arr (.slice B1 m1 d1) (.slice B2 m2 d2))] w fun e w'=>e=.returned (.bool (s.same t))∧Below w.heap.size w w':=by
 have hX:Below w.heap.size w ((w.alloc (.cells (s.arr (.slice A1 n1 c1) (.slice A2 n2 c2)) 36)).alloc (.cells (t.arr (.slice B1 m1 d1) (.slice B2 m2 d2)) 36)):=by go_grown
 have i2:Blk ((w.alloc (.cells (s.arr (.slice A1 n1 c1) (.slice A2 n2 c2)) 36)).alloc (.cells (t.arr (.slice B1 m1 d1) (.slice B2 m2 d2)) 36)) w.heap.size 36 (s.arr (.slice A1 n1 c1) (.slice A2 n2 c2)):=(Blk.new _ _ _).alloc _
 have i3:Blk ((w.alloc (.cells (s.arr (.slice A1 n1 c1) (.slice A2 n2 c2)) 36)).alloc (.cells (t.arr (.slice B1 m1 d1) (.slice B2 m2 d2)) 36)) (w.heap.size+1) 36 (t.arr (.slice B1 m1 d1) (.slice B2 m2 d2)):=Blk.new' _ _ (by simp)
 have hR:=fun w'=>range_any s.r t.r w'
 have hT:=fun w' (hb:Below w.heap.size w w')=>hists_any A1 B1 n1 m1 c1 d1 s.h t.h w' ((h1.below HsRel.kept hb).more HsRel.kept hb.size) ((k1.below HsRel.kept hb).more HsRel.kept hb.size) hn1 hm1
 have hW:=fun w' (hb:Below w.heap.size w w')=>pends_any A2 B2 n2 m2 c2 d2 s.p t.p w' ((h2.below PnRel.kept hb).more PnRel.kept hb.size) ((k2.below PnRel.kept hb).more PnRel.kept hb.size) hn2 hm2
 have z1:=fun w=>sp_run s.f t.f w
 have z2:=fun w=>sp_run s.c t.c w
 have HS:=Lib.hid (show s.same t=(s.r.same t.r&&decide (s.f=t.f)&&decide (s.c=t.c)&&sameL Hs.same s.h t.h&&sameL Pn.same s.p t.p) from rfl)
 generalize s.same t=res at*
 generalize s.r.same t.r=b0 at*
 generalize decide (s.f=t.f)=b1 at*
 generalize decide (s.c=t.c)=b2 at*
 generalize sameL Hs.same s.h t.h=b3 at*
 generalize sameL Pn.same s.p t.p=b4 at*
 clear h1 h2 k1 k2
 go_enter Tryz.func33,Tryz.ntmps33
 go_wp2_with (first
  |((with_reducible refine(hR _).mono ?_);rintro e w3 ⟨rfl,hb3⟩
    have j2:=i2.below hb3 i2.lt
    have j3:=i3.below hb3 i3.lt
    have hY:=hX.trans (hb3.mono hX.size)
    obtain⟨l2,x0,x1,x2,x3,x4,x5,x6,x7,x8,x9,x10,x11⟩:=dozenC j2
    obtain⟨l3,y0,y1,y2,y3,y4,y5,y6,y7,y8,y9,y10,y11⟩:=dozenC j3)
  |((with_reducible refine(hT _ hY).mono ?_);rintro e w4 ⟨rfl,hb4⟩
    have k2':=j2.below hb4 j2.lt
    have k3':=j3.below hb4 j3.lt
    have hZ:=hY.trans (hb4.mono hY.size)
    obtain⟨l2',-,-,-,-,-,-,-,-,-,-,-,z11⟩:=dozenC k2'
    obtain⟨l3',-,-,-,-,-,-,-,-,-,-,-,u11⟩:=dozenC k3')
  |((with_reducible refine(hW _ hZ).mono ?_);rintro e w5 ⟨rfl,hb5⟩))
 all_goals go_ret
 all_goals refine⟨ret_bool ?_,by first|exact hY|exact hZ|exact hZ.trans (hb5.mono hZ.size)⟩
 all_goals rw[HS.out]
 all_goals simp_all
end Go.Proofs.YthdmanadhbpogaaGreat
/- Plain: a state that may be comes back out of its bytes; a state's bytes are few. -/
namespace Go.Proofs.YthdmanadhbpogaaGreat
set_option linter.unusedVariables false
open Go.RowKit Fl
theorem Vn.same_self (a:Vn):a.same a=true:=by simp[Vn.same,Vl.same_self]
theorem Hs.same_self (a:Hs):a.same a=true:=by
 unfold Hs.same
 rw[sameL_self Vn.same_self]
 simp
theorem Pn.same_self (a:Pn):a.same a=true:=by
 unfold Pn.same
 rw[sameL_self (fun a=>by simp) a.r,sameL_self Wt.same_self a.w]
 simp
theorem Stt.same_self (s:Stt):s.same s=true:=by
 unfold Stt.same
 rw[Rg.same_self,sameL_self Hs.same_self,sameL_self Pn.same_self]
 simp
theorem gSt_back {s:Stt} (h:mayS s=true) (ok:SttOk s):gSt (encSt s) ⟨0,0,0⟩=(s,⟨(encSt s).length,0,0⟩):=by
 have e:=rSt_back s [] [] (stt_good h ok)
 rw[List.nil_append,List.append_nil]at e
 have e2:rSt (encSt s) ⟨0,0,0⟩=(s,⟨(encSt s).length,0,0⟩):=by
  have e3:([]:List UInt8).length=0:=rfl
  rw[e3]at e
  rw[e,Nat.zero_add]
 unfold gSt
 rw[e2,if_pos rfl]
theorem rEnd_back (l:List UInt8):(rEnd l ⟨l.length,0,0⟩).1=0:=by
 unfold rEnd
 rw[if_neg (by simp)]
theorem gSt_enc {l:List UInt8} (h:(gSt l ⟨0,0,0⟩).2.e=0):(gSt l ⟨0,0,0⟩).2.at_≤l.length∧encSt (gSt l ⟨0,0,0⟩).1=l.take (gSt l ⟨0,0,0⟩).2.at_:=by
 have hq:(rSt l ⟨0,0,0⟩).2.e=0:=by
  unfold gSt at h
  by_cases hq:(rSt l ⟨0,0,0⟩).2.e=0
  · exact hq
  · rw[if_neg hq]at h;exact absurd h hq
 have e:gSt l ⟨0,0,0⟩=rSt l ⟨0,0,0⟩:=by unfold gSt;rw[if_pos hq]
 rw[e]
 obtain⟨h1,h2⟩:=rSt_enc l ⟨0,0,0⟩ (Nat.zero_le _) hq
 refine⟨h1,?_⟩
 rw[h2,List.take_zero,List.nil_append]
theorem gSt_bad {l:List UInt8} (h:(gSt l ⟨0,0,0⟩).2.e≠0):(gSt l ⟨0,0,0⟩).1=zSt:=by
 unfold gSt at*
 by_cases hq:(rSt l ⟨0,0,0⟩).2.e=0
 · rw[if_pos hq]at h;exact absurd hq h
 · rw[if_neg hq]
end Go.Proofs.YthdmanadhbpogaaGreat
