/- The walk of recs' May. -/
import Derived.Test.YthdmanadhbpogaaGreatCaag
import Derived.Test.YthdmanadhbpogaaGreatCaaj
import Derived.Test.YthdmanadhbpogaaGreatCaba
import Derived.Test.YthdmanadhbpogaaGreatCabd
import Derived.Test.YthdmanadhbpogaaGreatCabj
import Derived.Test.YthdmanadhbpogaaGreatCacd
namespace Go.Proofs.YthdmanadhbpogaaGreat
set_option linter.unusedVariables false
open Go.RowKit Fl
attribute [local go_sem] run_store_float
theorem wpList_load_row_g {P : Program} {w : World} {ops : Array Oper} {rest : List Oper} {o : Oper} {a : Act} {Q : Exit → Act → World → Prop} (hw : Region.wanted o (yielded ops a.tmps) = true) (ty : TypeId) (x : Operand) (ho : o.op = .load ty x)
 (g : Nat) (hx : a.eval x = .pointer (some ⟨g, 0, none⟩)) (t : TypeId) (cs : Array Value) (fr : Nat × Nat) (d : TypeDesc) (hg : w.heap[g]? = some (.cells cs t fr))
 (hu : P.underlying ty = some d) (hd : (match d with | .struct _ | .array _ _ => true | _ => false) = true) (hi : (P.info? ty).map (·.size) = some cs.size)
 (h : wpList P ops Q rest (a.put o.dst (.agg cs)) w) : wpList P ops Q (o :: rest) a w :=
 wpList_step fun _ hK => by rw [if_pos hw]; exact wp_load_row ty x ho g hx t cs fr d hg hu hd hi (hK _ _ h)
theorem wipe_len (r : Rc) (h : Hds) (h1 : r.rd.length = h.a.n) (h2 : r.wr.length = h.b.n) (h3 : r.ps.length = h.c.n) (h4 : r.pr.length = h.d.n) (h5 : r.st.h.length = h.e.n) (h6 : r.st.p.length = h.f.n) :
 (wipe r).rd.length = (wipeH r.k h).a.n ∧ (wipe r).wr.length = (wipeH r.k h).b.n ∧ (wipe r).ps.length = (wipeH r.k h).c.n ∧ (wipe r).pr.length = (wipeH r.k h).d.n ∧ (wipe r).st.h.length = (wipeH r.k h).e.n ∧ (wipe r).st.p.length = (wipeH r.k h).f.n := by
 by_cases hk : kindB r.k = true
 · unfold kindB at hk
   rw [decide_eq_true_eq] at hk
   have hc : r.k = 1 ∨ r.k = 2 ∨ r.k = 3 ∨ r.k = 4 ∨ r.k = 5 ∨ r.k = 6 ∨ r.k = 7 ∨ r.k = 8 ∨ r.k = 9 ∨ r.k = 10 ∨ r.k = 11 ∨ r.k = 12 := by omega
   rcases hc with e | e | e | e | e | e | e | e | e | e | e | e
   all_goals simp [wipe, wipeH, e, h1, h2, h3, h4, h5, h6, zeroS]
 · unfold kindB at hk
   rw [decide_eq_true_eq] at hk
   have e1 : wipe r = r := by unfold wipe; repeat (rw [if_neg (by omega)])
   have e2 : wipeH r.k h = h := by unfold wipeH; repeat (rw [if_neg (by omega)])
   rw [e1, e2]
   exact ⟨h1, h2, h3, h4, h5, h6⟩
def recMay (r : Rc) : Int := if kindB r.k = false then 7 else if (wipe r).zeroB = false then 4 else if fieldsB r = false then 4 else 0
set_option maxRecDepth 100000 in
set_option maxHeartbeats 4000000 in
theorem recMay_any (r : Rc) (h : Hds) (w : World) (ok : r.ok) (i : RcIn w r h) (sm : RcSm r h) :
 Calls Tryz.prog 12 #[.agg (r.vals h)] w fun e w' => e = .returned (.int .i64 (recMay r)) ∧ Below w.heap.size w w' := by
 have hW := fun w' => without_any r h w'
 obtain ⟨l1, l2, l3, l4, l5, l6⟩ := wipe_len r h i.rd.1 i.wr.1 i.ps.1 i.pr.1 i.hs.1 i.pn.1
 have hZ0 := fun w' => zero_any (wipe r) (wipeH r.k h) w' l1 l2 l3 l4 l5 l6
 have hF := fun (hk : kindB r.k = true) w' (hb : Below w.heap.size w w') => fields_any r h w' hk ok (i.below hb) sm
 have HV := Lib.hid (show recMay r = (if kindB r.k = false then 7 else if (wipe r).zeroB = false then 4 else if fieldsB r = false then 4 else 0) from rfl)
 clear l1 l2 l3 l4 l5 l6 ok i sm
 have hX : Below w.heap.size w (w.alloc (.cells (r.vals h) 38)) := by go_grown
 have B0 : Blk (w.alloc (.cells (r.vals h) 38)) w.heap.size 38 (r.vals h) := Blk.new _ _ _
 generalize (wipe r).zeroB = bz at *
 generalize fieldsB r = bf at *
 generalize wipe r = q at *
 generalize wipeH r.k h = g at *
 cases hk : kindB r.k
 · rw [hk] at hW HV
   clear hF hk
   go_enter Tryz.func12, Tryz.ntmps12
   go_wp2_with (first
    | (refine wpList_load_row rfl 38 _ rfl _ rfl _ _ (0, 0) _ (Blk.new _ _ _) rfl rfl (by kernel_rfl) ?_)
    | ((with_reducible refine (hW _).mono ?_); rintro e w1 ⟨rfl, hb1⟩)
    | (refine wpList_store_new rfl 38 _ _ rfl _ rfl rfl _ _ (by kernel_rfl) (by kernel_rfl) (by kernel_rfl) ?_))
   all_goals go_ret
   exact ⟨ret_int (by rw [HV.out]; rfl), (hX.trans (hb1.mono hX.size)).alloc (hX.trans (hb1.mono hX.size)).size _⟩
 · have hF := hF hk
   rw [hk] at hW HV
   clear hk
   cases bz
   · clear hF
     go_enter Tryz.func12, Tryz.ntmps12
     go_wp2_with (first
        | (refine wpList_load_row rfl 38 _ rfl _ rfl _ _ (0, 0) _ (Blk.new _ _ _) rfl rfl (by kernel_rfl) ?_)
        | ((with_reducible refine (hW _).mono ?_); rintro e w1 ⟨rfl, hb1⟩
           have hY := hX.trans (hb1.mono hX.size)
           have hY2 := hY.alloc hY.size (.cells (q.vals g) 38))
        | ((with_reducible refine (hZ0 _).mono ?_); rintro e w2 ⟨rfl, hb2⟩
           have hZ := hY2.trans (hb2.mono hY2.size))
        | (refine wpList_store_new rfl 38 _ _ rfl _ rfl rfl _ _ (by kernel_rfl) (by kernel_rfl) (by kernel_rfl) ?_))
     all_goals go_ret
     exact ⟨ret_int (by rw [HV.out]; rfl), hZ⟩
   · go_enter Tryz.func12, Tryz.ntmps12
     go_wp2_with (first
        | (refine wpList_load_row rfl 38 _ rfl _ rfl _ _ (0, 0) _ (Blk.new _ _ _) rfl rfl (by kernel_rfl) ?_)
        | (refine wpList_load_row_g (by rfl) 38 _ rfl _ rfl _ _ (0, 0) _ C2 rfl rfl (by kernel_rfl) ?_)
        | ((with_reducible refine (hW _).mono ?_); rintro e w1 ⟨rfl, hb1⟩
           have hY := hX.trans (hb1.mono hX.size)
           have C1 := B0.below hb1 B0.lt
           have hY2 := hY.alloc hY.size (.cells (q.vals g) 38)
           replace C1 := C1.alloc (.cells (q.vals g) 38))
        | ((with_reducible refine (hZ0 _).mono ?_); rintro e w2 ⟨rfl, hb2⟩
           have C2 := C1.below hb2 C1.lt
           have hZ := hY2.trans (hb2.mono hY2.size))
        | ((with_reducible refine (hF _ hZ).mono ?_); rintro e w3 ⟨rfl, hb3⟩)
        | (refine wpList_store_new rfl 38 _ _ rfl _ rfl rfl _ _ (by kernel_rfl) (by kernel_rfl) (by kernel_rfl) ?_))
     all_goals go_ret
     all_goals refine ⟨ret_int ?_, hZ.trans (hb3.mono hZ.size)⟩
     all_goals rw [HV.out]
     all_goals simp_all
end Go.Proofs.YthdmanadhbpogaaGreat
/- The walk of recs.Encode. -/
namespace Go.Proofs.YthdmanadhbpogaaGreat
set_option linter.unusedVariables false
open Go.RowKit Fl
attribute [local go_sem] run_store_float
theorem kind_cases {k : Int} (h : kindB k = true) : k = 1 ∨ k = 2 ∨ k = 3 ∨ k = 4 ∨ k = 5 ∨ k = 6 ∨ k = 7 ∨ k = 8 ∨ k = 9 ∨ k = 10 ∨ k = 11 ∨ k = 12 := by
 unfold kindB at h
 rw [decide_eq_true_eq] at h
 omega
theorem walk_any (r : Rc) (h : Hds) (w : World) (B g : Nat) (v : Value) (bs : List UInt8) (gc gr : Nat) (hk : kindB r.k = true) (hc : CW w B g v bs gc) (hp : Apt w g v gr) (hb : Blk w gr 38 (r.vals h)) (ok : r.ok) (i : RcLo w B r h) (cp : h.caps)
 (hlen : bs.length + (encRc r).length + 10 ≤ 1000000000000) :
 Calls Tryz.prog 61 #[.pointer (some ⟨gc, 0, none⟩), .pointer (some ⟨gr, 0, none⟩)] w (CPost w B g v bs gc (encRc r)) := by
 rcases kind_cases hk with e | e | e | e | e | e | e | e | e | e | e | e
 · exact walk_1 r h w B g v bs gc gr e hc hp hb ok i cp hlen
 · exact walk_2 r h w B g v bs gc gr e hc hp hb ok i cp hlen
 · exact walk_3 r h w B g v bs gc gr e hc hp hb ok i cp hlen
 · exact walk_4 r h w B g v bs gc gr e hc hp hb ok i cp hlen
 · exact walk_5 r h w B g v bs gc gr e hc hp hb ok i cp hlen
 · exact walk_6 r h w B g v bs gc gr e hc hp hb ok i cp hlen
 · exact walk_7 r h w B g v bs gc gr e hc hp hb ok i cp hlen
 · exact walk_8 r h w B g v bs gc gr e hc hp hb ok i cp hlen
 · exact walk_9 r h w B g v bs gc gr e hc hp hb ok i cp hlen
 · exact walk_10 r h w B g v bs gc gr e hc hp hb ok i cp hlen
 · exact walk_11 r h w B g v bs gc gr e hc hp hb ok i cp hlen
 · exact walk_12 r h w B g v bs gc gr e hc hp hb ok i cp hlen
theorem owns_down {w : World} {base base' : Nat} {e : TypeId} {size n : Nat} {v : Value} {xs : List Value} (h : w.ownsRow base e size v n xs) (hB : base' ≤ base) : w.ownsRow base' e size v n xs := by
 obtain ⟨h6, h7⟩ := h
 refine ⟨h6, ?_⟩
 rcases h7 with h7 | ⟨k, cap, cur, e, hk, r⟩
 · exact .inl h7
 · exact .inr ⟨k, cap, cur, e, Nat.le_trans hB hk, r⟩
def encE (r : Rc) : Int := if recMay r = 0 then (if 262144 < (encRc r).length then 2 else 0) else recMay r
def encOut (r : Rc) : List UInt8 := if encE r = 0 then encRc r else []
def RowE (w : World) (bs : List UInt8) (er : Int) : Ending → World → Prop := fun e w' =>
 ∃ A c, e = .returned (.tuple #[.slice A bs.length c, .int .i64 er]) ∧ bs.length ≤ c ∧ c ≤ maxLen ∧ w'.ownsRow w.heap.size 5 1 (.slice A bs.length c) bs.length (bytesV bs) ∧ Below w.heap.size w w'
theorem RowE.nil {w w' : World} (er : Int) (hb : Below w.heap.size w w') : RowE w [] er (.returned (.tuple #[.slice none 0 0, .int .i64 er])) w' :=
 ⟨none, 0, rfl, Nat.le_refl _, by unfold maxLen; omega, World.ownsRow_nil _ _ _ _, hb⟩
set_option maxRecDepth 100000 in
set_option maxHeartbeats 4000000 in
theorem encode_any (r : Rc) (h : Hds) (w : World) (ok : r.ok) (i : RcIn w r h) (cp : h.caps) (sm : RcSm r h) (hlen : (encRc r).length + 10 ≤ 1000000000000) :
 Calls Tryz.prog 19 #[.agg (r.vals h)] w (RowE w (encOut r) (encE r)) := by
 have hM := fun w' (hb : Below w.heap.size w w') => recMay_any r h w' ok (i.below hb) sm
 have hX : Below w.heap.size w (w.alloc (.cells (r.vals h) 38)) := by go_grown
 have B0 : Blk (w.alloc (.cells (r.vals h) 38)) w.heap.size 38 (r.vals h) := Blk.new _ _ _
 by_cases hm : recMay r = 0
 · have hk : kindB r.k = true := by
    cases hq : kindB r.k
    · unfold recMay at hm; rw [hq] at hm; cases hm
    · rfl
   have HE := Lib.hid (show encE r = if 262144 < (encRc r).length then 2 else 0 by unfold encE; rw [if_pos hm])
   have HO := Lib.hid (show encOut r = if 262144 < (encRc r).length then [] else encRc r by unfold encOut; rw [HE.out]; by_cases hq : 262144 < (encRc r).length <;> simp [hq])
   rw [hm] at hM
   clear hm
   go_enter Tryz.func19, Tryz.ntmps19
   go_wp2_with (first
    | (refine wpList_load_row rfl 38 _ rfl w.heap.size rfl _ _ (0, 0) _ B0 rfl rfl (by kernel_rfl) ?_)
    | ((with_reducible refine (hM _ hX).mono ?_); rintro e w1 ⟨rfl, hb1⟩
       have hX1 := hX.trans (hb1.mono hX.size)
       have B1 := B0.below hb1 B0.lt)
    | ((with_reducible refine (wnew _).mono ?_); rintro e w2 ⟨rfl, rfl⟩))
   have hW := Wr.new w1
   have hD : Below (w1.alloc (.cells #[.slice none 0 0] 123)).heap.size (w1.alloc (.cells #[.slice none 0 0] 123)) ((w1.alloc (.cells #[.slice none 0 0] 123)).alloc (.cells #[.pointer (some ⟨w1.heap.size, 0, none⟩), .pointer none] 109)) := (Below.refl _ _).alloc (Nat.le_refl _) _
   have hY1 : Below w1.heap.size w1 ((w1.alloc (.cells #[.slice none 0 0] 123)).alloc (.cells #[.pointer (some ⟨w1.heap.size, 0, none⟩), .pointer none] 109)) := by go_grown
   have kC : Blk ((w1.alloc (.cells #[.slice none 0 0] 123)).alloc (.cells #[.pointer (some ⟨w1.heap.size, 0, none⟩), .pointer none] 109)) (w1.heap.size + 1) 109 #[.pointer (some ⟨w1.heap.size, 0, none⟩), .pointer none] := Blk.new' _ _ (by simp)
   have hc : CW ((w1.alloc (.cells #[.slice none 0 0] 123)).alloc (.cells #[.pointer (some ⟨w1.heap.size, 0, none⟩), .pointer none] 109)) w1.heap.size w1.heap.size (.slice none 0 0) [] (w1.heap.size + 1) :=
    ⟨hW.below hD, hY1.size, kC, kC.lt, by omega, by intro e; cases e⟩
   have B2 := B1.below hY1 B1.lt
   have hlo : RcLo w1 w1.heap.size r h := RcLo.of (i.below hX1)
   have hl0 : w.heap.size < w1.heap.size := B1.lt
   have HX1 := Lib.hid hX1
   have HY1 := Lib.hid hY1
   clear hX hX1 hM B0 i sm hb1 kC hD hW
   go_wp2_with fail
   refine (walk_any r h _ w1.heap.size w1.heap.size (.slice none 0 0) [] (w1.heap.size + 1) w.heap.size hk hc (Apt.low hc hl0) B2 ok (hlo.below hY1) cp (by simpa using hlen)).mono ?_
   rintro e w2 ⟨rfl, v2, hc2, hf2⟩
   rw [List.nil_append] at hc2
   have HZ := Lib.hid (hY1.trans (hc.lo hf2))
   have hl1 := B2.lt
   clear hc hlo B2 hf2 hY1
   go_wp2_with ((with_reducible refine (wbytes _ v2 (encRc r) w1.heap.size w2 hc2.wr (by omega)).mono ?_); rintro e w3 ⟨A, c, rfl, q1, q2, q3, q4⟩)
   all_goals have hB2 := HX1.out.trans (HZ.out.mono HX1.out.size)
   all_goals have hB3 := hB2.trans (q4.mono hB2.size)
   · have hgt : 262144 < (encRc r).length := by
        have hz : decide (262144 < ((encRc r).length : Int)) = true := by simp; omega
        simp at hz; omega
     go_ret2
     rw [HE.out, HO.out, if_pos hgt, if_pos hgt]
     exact RowE.nil 2 hB3
   · have hgt : ¬ 262144 < (encRc r).length := by omega
     go_ret2
     rw [HE.out, HO.out, if_neg hgt, if_neg hgt]
     exact ⟨A, c, rfl, q1, q2, owns_down q3 hB2.size, hB3⟩
 · have h1 : encE r = recMay r := by unfold encE; rw [if_neg hm]
   have h2 : encOut r = [] := by unfold encOut; rw [h1, if_neg hm]
   rw [h1, h2]
   have hb0 : (recMay r != 0) = true := by simp [hm]
   generalize recMay r = m at *
   clear h1 h2 hm
   go_enter Tryz.func19, Tryz.ntmps19
   go_wp2_with (first
    | (refine wpList_load_row rfl 38 _ rfl w.heap.size rfl _ _ (0, 0) _ B0 rfl rfl (by kernel_rfl) ?_)
    | ((with_reducible refine (hM _ hX).mono ?_); rintro e w1 ⟨rfl, hb1⟩))
   go_ret2
   exact RowE.nil m (hX.trans (hb1.mono hX.size))
end Go.Proofs.YthdmanadhbpogaaGreat
/- The walks of the document's bytes: stamps, numbers of transactions, values. -/
namespace Go.Proofs.YthdmanadhbpogaaGreat
set_option maxHeartbeats 2000000
set_option maxRecDepth 100000
set_option linter.unusedVariables false
open Go.RowKit Fl
attribute [local go_sem] run_store_float
theorem RowPost.down {w X w' : World} {bs : List UInt8} {e : Ending} (hX : Below w.heap.size w X) (h : RowPost X bs e w') : RowPost w bs e w' := by
 obtain ⟨A, c, h1, h2, h3, h4, h5⟩ := h
 exact ⟨A, c, h1, h2, h3, owns_down h4 hX.size, hX.trans (h5.mono hX.size)⟩
theorem named (a b : List UInt8) : ∃ P : List UInt8, RowKit.Hid (P = a ++ b) ∧ RowKit.Hid (P.length = a.length + b.length) := ⟨a ++ b, Lib.hid rfl, Lib.hid (List.length_append)⟩
theorem RowRel.below {w wr w2 : World} {bs : List UInt8} {v : Value} (h : RowRel w bs v wr) (hb : Below wr.heap.size wr w2) : RowRel w bs v w2 :=
 ⟨h.1.kept (row := none) ⟨hb.os, hb.tape, hb.output, hb.size, fun k hk _ => hb.block k hk⟩ (by cases v.ownBlock <;> simp), h.2.trans (hb.mono h.2.size)⟩
theorem xStamp (s : Sp) (w : World) (ok : s.ok) : Calls Tryz.prog 74 #[s.val] w (RowPost w (encSp s)) := by
 obtain ⟨⟨k1, k1'⟩, ⟨k2, k2'⟩, k3, k3'⟩ := ok
 have e1 : (encI s.w).length ≤ 10 := encI_len k1 k1'
 have e2 : (encI s.l).length ≤ 10 := encI_len k2 k2'
 have e3 : (encI s.n).length ≤ 10 := encI_len k3 k3'
 obtain ⟨i0, hi0, hz0, hz1, hz2⟩ := info_partsW u8_info
 have HX : Below w.heap.size w (w.alloc (.cells #[.int .i64 s.w, .int .i64 s.l, .int .i64 s.n] 25)) := by go_grown
 have HB : w.heap.size < ((w.alloc (.cells #[.int .i64 s.w, .int .i64 s.l, .int .i64 s.n] 25))).heap.size := by simp
 have C0 : ((w.alloc (.cells #[.int .i64 s.w, .int .i64 s.l, .int .i64 s.n] 25))).cell? ⟨w.heap.size, 0, none⟩ = some (.int .i64 s.w) := (Blk.new w 25 #[.int .i64 s.w, .int .i64 s.l, .int .i64 s.n]).cell 0
 have C1 : ((w.alloc (.cells #[.int .i64 s.w, .int .i64 s.l, .int .i64 s.n] 25))).cell? ⟨w.heap.size, 1, none⟩ = some (.int .i64 s.l) := (Blk.new w 25 #[.int .i64 s.w, .int .i64 s.l, .int .i64 s.n]).cell 1
 have C2 : ((w.alloc (.cells #[.int .i64 s.w, .int .i64 s.l, .int .i64 s.n] 25))).cell? ⟨w.heap.size, 2, none⟩ = some (.int .i64 s.n) := (Blk.new w 25 #[.int .i64 s.w, .int .i64 s.l, .int .i64 s.n]).cell 2
 go_enter Tryz.func74, Tryz.ntmps74
 go_wp2_with fail
 refine (xint s.w _ k1 k1').mono ?_
 rintro e w1 ⟨A1, q1, rfl, hq1, hm1, hown1, hb1⟩
 have hrow1 : RowRel (w.alloc (.cells #[.int .i64 s.w, .int .i64 s.l, .int .i64 s.n] 25)) (encI s.w) (.slice A1 (encI s.w).length q1) w1 := ⟨hown1, hb1⟩
 have c1_0 : (w1).cell? ⟨w.heap.size, 0, none⟩ = some (.int .i64 s.w) := (hrow1.2.cell (p := ⟨w.heap.size, 0, none⟩) HB).trans C0
 have c1_1 : (w1).cell? ⟨w.heap.size, 1, none⟩ = some (.int .i64 s.l) := (hrow1.2.cell (p := ⟨w.heap.size, 1, none⟩) HB).trans C1
 have c1_2 : (w1).cell? ⟨w.heap.size, 2, none⟩ = some (.int .i64 s.n) := (hrow1.2.cell (p := ⟨w.heap.size, 2, none⟩) HB).trans C2
 go_wp2_with fail
 refine (xint s.l _ k2 k2').mono ?_
 rintro e w2 ⟨A2, q2, rfl, hq2, hm2, hown2, hb2⟩
 have hrow2 := hrow1.below hb2
 have z2a : (encI s.w).length + (encI s.l).length ≤ maxLen := by unfold maxLen; omega
 have z2b : ((encI s.w).length + (encI s.l).length) * 1 ≤ 140737488355328 := by omega
 go_wp2_with (at_builtin; refine wpList_append_any _ rfl _ _ _ rfl ((w.alloc (.cells #[.int .i64 s.w, .int .i64 s.l, .int .i64 s.n] 25))).heap.size 5 i0 _ 1 1 Tryz.underlying48 hi0 hz0 hz1 hz2 rfl (by omega) (.slice A1 (encI s.w).length q1) _ (bytesV (encI s.w)) (by rfl) hrow2.1 w2.heap.size A2 (encI s.l).length q2 (bytesV (encI s.l)) (by rfl) (Reads.of_own hown2) (bytesV_one _) z2a z2b hrow2.2.size ?_; intro v2' w2' hown2' hg2' hat2'; have hr2 := hrow2.push (Below.refl _ _) hown2' hg2'; obtain ⟨P2, HP2, LP2⟩ := named (encI s.w) (encI s.l); rw [← HP2.out] at hr2; obtain ⟨A2', q2', rfl, hq2', hm2'⟩ := own_form hr2.1; have c2_0 : (w2').cell? ⟨w.heap.size, 0, none⟩ = some (.int .i64 s.w) := (hr2.2.cell (p := ⟨w.heap.size, 0, none⟩) HB).trans C0; have c2_1 : (w2').cell? ⟨w.heap.size, 1, none⟩ = some (.int .i64 s.l) := (hr2.2.cell (p := ⟨w.heap.size, 1, none⟩) HB).trans C1; have c2_2 : (w2').cell? ⟨w.heap.size, 2, none⟩ = some (.int .i64 s.n) := (hr2.2.cell (p := ⟨w.heap.size, 2, none⟩) HB).trans C2)
 clear z2a z2b hown2' hg2' hat2' hrow2 hown2 hb2
 go_wp2_with fail
 refine (xint s.n _ k3 k3').mono ?_
 rintro e w3 ⟨A3, q3, rfl, hq3, hm3, hown3, hb3⟩
 have hrow3 := hr2.below hb3
 have z3a : (P2).length + (encI s.n).length ≤ maxLen := by unfold maxLen; have := LP2.out; omega
 have z3b : ((P2).length + (encI s.n).length) * 1 ≤ 140737488355328 := by have := LP2.out; omega
 go_wp2_with (at_builtin; refine wpList_append_any _ rfl _ _ _ rfl ((w.alloc (.cells #[.int .i64 s.w, .int .i64 s.l, .int .i64 s.n] 25))).heap.size 5 i0 _ 1 1 Tryz.underlying48 hi0 hz0 hz1 hz2 rfl (by omega) (.slice A2' P2.length q2') _ (bytesV (P2)) (by rfl) hrow3.1 w3.heap.size A3 (encI s.n).length q3 (bytesV (encI s.n)) (by rfl) (Reads.of_own hown3) (bytesV_one _) z3a z3b hrow3.2.size ?_; intro v3' w3' hown3' hg3' hat3'; have hr3 := hrow3.push (Below.refl _ _) hown3' hg3'; obtain ⟨P3, HP3, LP3⟩ := named (P2) (encI s.n); rw [← HP3.out] at hr3; obtain ⟨A3', q3', rfl, hq3', hm3'⟩ := own_form hr3.1; have c3_0 : (w3').cell? ⟨w.heap.size, 0, none⟩ = some (.int .i64 s.w) := (hr3.2.cell (p := ⟨w.heap.size, 0, none⟩) HB).trans C0; have c3_1 : (w3').cell? ⟨w.heap.size, 1, none⟩ = some (.int .i64 s.l) := (hr3.2.cell (p := ⟨w.heap.size, 1, none⟩) HB).trans C1; have c3_2 : (w3').cell? ⟨w.heap.size, 2, none⟩ = some (.int .i64 s.n) := (hr3.2.cell (p := ⟨w.heap.size, 2, none⟩) HB).trans C2)
 clear z3a z3b hown3' hg3' hat3' hrow3 hown3 hb3
 have HP := RowPost.down HX hr3.post
 have HQ : encSp s = P3 := by rw [HP3.out, HP2.out]; simp only [encSp, List.append_assoc]
 go_ret
 rw [HQ]
 exact HP
theorem xTxn (s : Tx) (w : World) (ok : s.ok) : Calls Tryz.prog 77 #[s.val] w (RowPost w (encTx s)) := by
 obtain ⟨⟨k1, k1'⟩, ⟨k2, k2'⟩, k3, k3'⟩ := ok
 have e1 : (encI s.c).length ≤ 10 := encI_len k1 k1'
 have e2 : (encI s.l).length ≤ 10 := encI_len k2 k2'
 have e3 : (encI s.s).length ≤ 10 := encI_len k3 k3'
 obtain ⟨i0, hi0, hz0, hz1, hz2⟩ := info_partsW u8_info
 have HX : Below w.heap.size w (w.alloc (.cells #[.int .i64 s.c, .int .i64 s.l, .int .i64 s.s] 23)) := by go_grown
 have HB : w.heap.size < ((w.alloc (.cells #[.int .i64 s.c, .int .i64 s.l, .int .i64 s.s] 23))).heap.size := by simp
 have C0 : ((w.alloc (.cells #[.int .i64 s.c, .int .i64 s.l, .int .i64 s.s] 23))).cell? ⟨w.heap.size, 0, none⟩ = some (.int .i64 s.c) := (Blk.new w 23 #[.int .i64 s.c, .int .i64 s.l, .int .i64 s.s]).cell 0
 have C1 : ((w.alloc (.cells #[.int .i64 s.c, .int .i64 s.l, .int .i64 s.s] 23))).cell? ⟨w.heap.size, 1, none⟩ = some (.int .i64 s.l) := (Blk.new w 23 #[.int .i64 s.c, .int .i64 s.l, .int .i64 s.s]).cell 1
 have C2 : ((w.alloc (.cells #[.int .i64 s.c, .int .i64 s.l, .int .i64 s.s] 23))).cell? ⟨w.heap.size, 2, none⟩ = some (.int .i64 s.s) := (Blk.new w 23 #[.int .i64 s.c, .int .i64 s.l, .int .i64 s.s]).cell 2
 go_enter Tryz.func77, Tryz.ntmps77
 go_wp2_with fail
 refine (xint s.c _ k1 k1').mono ?_
 rintro e w1 ⟨A1, q1, rfl, hq1, hm1, hown1, hb1⟩
 have hrow1 : RowRel (w.alloc (.cells #[.int .i64 s.c, .int .i64 s.l, .int .i64 s.s] 23)) (encI s.c) (.slice A1 (encI s.c).length q1) w1 := ⟨hown1, hb1⟩
 have c1_0 : (w1).cell? ⟨w.heap.size, 0, none⟩ = some (.int .i64 s.c) := (hrow1.2.cell (p := ⟨w.heap.size, 0, none⟩) HB).trans C0
 have c1_1 : (w1).cell? ⟨w.heap.size, 1, none⟩ = some (.int .i64 s.l) := (hrow1.2.cell (p := ⟨w.heap.size, 1, none⟩) HB).trans C1
 have c1_2 : (w1).cell? ⟨w.heap.size, 2, none⟩ = some (.int .i64 s.s) := (hrow1.2.cell (p := ⟨w.heap.size, 2, none⟩) HB).trans C2
 go_wp2_with fail
 refine (xint s.l _ k2 k2').mono ?_
 rintro e w2 ⟨A2, q2, rfl, hq2, hm2, hown2, hb2⟩
 have hrow2 := hrow1.below hb2
 have z2a : (encI s.c).length + (encI s.l).length ≤ maxLen := by unfold maxLen; omega
 have z2b : ((encI s.c).length + (encI s.l).length) * 1 ≤ 140737488355328 := by omega
 go_wp2_with (at_builtin; refine wpList_append_any _ rfl _ _ _ rfl ((w.alloc (.cells #[.int .i64 s.c, .int .i64 s.l, .int .i64 s.s] 23))).heap.size 5 i0 _ 1 1 Tryz.underlying48 hi0 hz0 hz1 hz2 rfl (by omega) (.slice A1 (encI s.c).length q1) _ (bytesV (encI s.c)) (by rfl) hrow2.1 w2.heap.size A2 (encI s.l).length q2 (bytesV (encI s.l)) (by rfl) (Reads.of_own hown2) (bytesV_one _) z2a z2b hrow2.2.size ?_; intro v2' w2' hown2' hg2' hat2'; have hr2 := hrow2.push (Below.refl _ _) hown2' hg2'; obtain ⟨P2, HP2, LP2⟩ := named (encI s.c) (encI s.l); rw [← HP2.out] at hr2; obtain ⟨A2', q2', rfl, hq2', hm2'⟩ := own_form hr2.1; have c2_0 : (w2').cell? ⟨w.heap.size, 0, none⟩ = some (.int .i64 s.c) := (hr2.2.cell (p := ⟨w.heap.size, 0, none⟩) HB).trans C0; have c2_1 : (w2').cell? ⟨w.heap.size, 1, none⟩ = some (.int .i64 s.l) := (hr2.2.cell (p := ⟨w.heap.size, 1, none⟩) HB).trans C1; have c2_2 : (w2').cell? ⟨w.heap.size, 2, none⟩ = some (.int .i64 s.s) := (hr2.2.cell (p := ⟨w.heap.size, 2, none⟩) HB).trans C2)
 clear z2a z2b hown2' hg2' hat2' hrow2 hown2 hb2
 go_wp2_with fail
 refine (xint s.s _ k3 k3').mono ?_
 rintro e w3 ⟨A3, q3, rfl, hq3, hm3, hown3, hb3⟩
 have hrow3 := hr2.below hb3
 have z3a : (P2).length + (encI s.s).length ≤ maxLen := by unfold maxLen; have := LP2.out; omega
 have z3b : ((P2).length + (encI s.s).length) * 1 ≤ 140737488355328 := by have := LP2.out; omega
 go_wp2_with (at_builtin; refine wpList_append_any _ rfl _ _ _ rfl ((w.alloc (.cells #[.int .i64 s.c, .int .i64 s.l, .int .i64 s.s] 23))).heap.size 5 i0 _ 1 1 Tryz.underlying48 hi0 hz0 hz1 hz2 rfl (by omega) (.slice A2' P2.length q2') _ (bytesV (P2)) (by rfl) hrow3.1 w3.heap.size A3 (encI s.s).length q3 (bytesV (encI s.s)) (by rfl) (Reads.of_own hown3) (bytesV_one _) z3a z3b hrow3.2.size ?_; intro v3' w3' hown3' hg3' hat3'; have hr3 := hrow3.push (Below.refl _ _) hown3' hg3'; obtain ⟨P3, HP3, LP3⟩ := named (P2) (encI s.s); rw [← HP3.out] at hr3; obtain ⟨A3', q3', rfl, hq3', hm3'⟩ := own_form hr3.1; have c3_0 : (w3').cell? ⟨w.heap.size, 0, none⟩ = some (.int .i64 s.c) := (hr3.2.cell (p := ⟨w.heap.size, 0, none⟩) HB).trans C0; have c3_1 : (w3').cell? ⟨w.heap.size, 1, none⟩ = some (.int .i64 s.l) := (hr3.2.cell (p := ⟨w.heap.size, 1, none⟩) HB).trans C1; have c3_2 : (w3').cell? ⟨w.heap.size, 2, none⟩ = some (.int .i64 s.s) := (hr3.2.cell (p := ⟨w.heap.size, 2, none⟩) HB).trans C2)
 clear z3a z3b hown3' hg3' hat3' hrow3 hown3 hb3
 have HP := RowPost.down HX hr3.post
 have HQ : encTx s = P3 := by rw [HP3.out, HP2.out]; simp only [encTx, List.append_assoc]
 go_ret
 rw [HQ]
 exact HP
theorem xRange (r : Rg) (w : World) (ok : r.ok) : Calls Tryz.prog 73 #[.agg #[.int .i64 r.id, .int .i64 r.ep, .float .f64 r.lo, .float .f64 r.hi]] w (RowPost w (encRg r)) := by
 obtain ⟨⟨k1, k1'⟩, ⟨k2, k2'⟩, k3, k4⟩ := ok
 have e1 : (encI r.id).length ≤ 10 := encI_len k1 k1'
 have e2 : (encI r.ep).length ≤ 10 := encI_len k2 k2'
 have e3 : (encF64 r.lo).length = 8 := leW_len 8 _
 have e4 : (encF64 r.hi).length = 8 := leW_len 8 _
 obtain ⟨i0, hi0, hz0, hz1, hz2⟩ := info_partsW u8_info
 have HX : Below w.heap.size w (w.alloc (.cells #[.int .i64 r.id, .int .i64 r.ep, .float .f64 r.lo, .float .f64 r.hi] 32)) := by go_grown
 have HB : w.heap.size < ((w.alloc (.cells #[.int .i64 r.id, .int .i64 r.ep, .float .f64 r.lo, .float .f64 r.hi] 32))).heap.size := by simp
 have C0 : ((w.alloc (.cells #[.int .i64 r.id, .int .i64 r.ep, .float .f64 r.lo, .float .f64 r.hi] 32))).cell? ⟨w.heap.size, 0, none⟩ = some (.int .i64 r.id) := (Blk.new w 32 #[.int .i64 r.id, .int .i64 r.ep, .float .f64 r.lo, .float .f64 r.hi]).cell 0
 have C1 : ((w.alloc (.cells #[.int .i64 r.id, .int .i64 r.ep, .float .f64 r.lo, .float .f64 r.hi] 32))).cell? ⟨w.heap.size, 1, none⟩ = some (.int .i64 r.ep) := (Blk.new w 32 #[.int .i64 r.id, .int .i64 r.ep, .float .f64 r.lo, .float .f64 r.hi]).cell 1
 have C2 : ((w.alloc (.cells #[.int .i64 r.id, .int .i64 r.ep, .float .f64 r.lo, .float .f64 r.hi] 32))).cell? ⟨w.heap.size, 2, none⟩ = some (.float .f64 r.lo) := (Blk.new w 32 #[.int .i64 r.id, .int .i64 r.ep, .float .f64 r.lo, .float .f64 r.hi]).cell 2
 have C3 : ((w.alloc (.cells #[.int .i64 r.id, .int .i64 r.ep, .float .f64 r.lo, .float .f64 r.hi] 32))).cell? ⟨w.heap.size, 3, none⟩ = some (.float .f64 r.hi) := (Blk.new w 32 #[.int .i64 r.id, .int .i64 r.ep, .float .f64 r.lo, .float .f64 r.hi]).cell 3
 go_enter Tryz.func73, Tryz.ntmps73
 go_wp2_with fail
 refine wp_region_held_drew (S := fun W' => Below ((w.alloc (.cells #[.int .i64 r.id, .int .i64 r.ep, .float .f64 r.lo, .float .f64 r.hi] 32))).heap.size ((w.alloc (.cells #[.int .i64 r.id, .int .i64 r.ep, .float .f64 r.lo, .float .f64 r.hi] 32))) W') (by kernel_rfl) (Below.refl _ _).drew (fun hHeld => ?_)
 refine tk 0 4 (v := .pointer (some ⟨w.heap.size, 0, none⟩)) rfl (Or.inl ⟨by kernel_rfl, fun W hSw => by clear hSw; go_simp⟩) hHeld ?_
 go_frame
 refine tk 1 5 (v := .int .i64 r.id) rfl (Or.inl ⟨by kernel_rfl, fun W hSw => by have z := (hSw.cell (p := ⟨w.heap.size, 0, none⟩) HB).trans C0; clear hSw; go_simp⟩) hHeld ?_
 go_frame
 refine tk 3 7 (v := .pointer (some ⟨w.heap.size, 1, none⟩)) rfl (Or.inl ⟨by kernel_rfl, fun W hSw => by clear hSw; go_simp⟩) hHeld ?_
 go_frame
 refine tk 4 8 (v := .int .i64 r.ep) rfl (Or.inl ⟨by kernel_rfl, fun W hSw => by have z := (hSw.cell (p := ⟨w.heap.size, 1, none⟩) HB).trans C1; clear hSw; go_simp⟩) hHeld ?_
 go_frame
 have s0 : Below ((w.alloc (.cells #[.int .i64 r.id, .int .i64 r.ep, .float .f64 r.lo, .float .f64 r.hi] 32))).heap.size ((w.alloc (.cells #[.int .i64 r.id, .int .i64 r.ep, .float .f64 r.lo, .float .f64 r.hi] 32))) ((w.alloc (.cells #[.int .i64 r.id, .int .i64 r.ep, .float .f64 r.lo, .float .f64 r.hi] 32))).drew := (Below.refl _ _).drew
 refine wpAnyH_ready (rs := [2]) (by kernel_rfl) (by simp) ?_
 refine AllReadyH.cons (o := ⟨some 6, _, _, _, _, _⟩) rfl (fun K hK => ?_) AllReadyH.nil
 go_simp
 (with_reducible refine (xint r.id _ k1 k1').mono ?_)
 rintro e w1 ⟨A1, q1, rfl, hq1, hm1, hown1, hb1⟩
 have s1 : Below ((w.alloc (.cells #[.int .i64 r.id, .int .i64 r.ep, .float .f64 r.lo, .float .f64 r.hi] 32))).heap.size ((w.alloc (.cells #[.int .i64 r.id, .int .i64 r.ep, .float .f64 r.lo, .float .f64 r.hi] 32))) w1 := s0.trans (hb1.mono (s0).size)
 refine hK.out _ _ s1 (fun hHeld => ?_)
 clear hK K
 try go_frame
 have hrow1 : RowRel ((w.alloc (.cells #[.int .i64 r.id, .int .i64 r.ep, .float .f64 r.lo, .float .f64 r.hi] 32))) (encI r.id) (.slice A1 (encI r.id).length q1) w1 := ⟨hown1, s1⟩
 refine wpAnyH_ready (rs := [5]) (by kernel_rfl) (by simp) ?_
 refine AllReadyH.cons (o := ⟨some 9, _, _, _, _, _⟩) rfl (fun K hK => ?_) AllReadyH.nil
 go_simp
 (with_reducible refine (xint r.ep _ k2 k2').mono ?_)
 rintro e w2 ⟨A2, q2, rfl, hq2, hm2, hown2, hb2⟩
 have s2 : Below ((w.alloc (.cells #[.int .i64 r.id, .int .i64 r.ep, .float .f64 r.lo, .float .f64 r.hi] 32))).heap.size ((w.alloc (.cells #[.int .i64 r.id, .int .i64 r.ep, .float .f64 r.lo, .float .f64 r.hi] 32))) w2 := s1.trans (hb2.mono (s1).size)
 refine hK.out _ _ s2 (fun hHeld => ?_)
 clear hK K
 try go_frame
 have hrow2 := hrow1.below hb2
 have za : (encI r.id).length + (encI r.ep).length ≤ maxLen := by unfold maxLen; omega
 have zb : ((encI r.id).length + (encI r.ep).length) * 1 ≤ 140737488355328 := by omega
 refine wpAnyH_ready (rs := [6]) (by kernel_rfl) (by simp) ?_
 refine AllReadyH.cons (o := ⟨some 10, _, _, _, _, _⟩) rfl (fun K hK => ?_) AllReadyH.nil
 refine step_append_any _ rfl _ _ _ rfl ((w.alloc (.cells #[.int .i64 r.id, .int .i64 r.ep, .float .f64 r.lo, .float .f64 r.hi] 32))).heap.size 5 i0 _ 1 1 Tryz.underlying48 hi0 hz0 hz1 hz2 rfl (by omega) (.slice A1 (encI r.id).length q1) _ (bytesV (encI r.id)) (by rfl) hrow2.1 w2.heap.size A2 (encI r.ep).length q2 (bytesV (encI r.ep)) (by rfl) (Reads.of_own hown2) (bytesV_one _) za zb hrow2.2.size ?_
 intro v2' w2' hown2' hg2' hat2'
 have hr2 := hrow2.push (Below.refl _ _) hown2' hg2'
 obtain ⟨P2, HP2, LP2⟩ := named (encI r.id) (encI r.ep)
 rw [← HP2.out] at hr2
 obtain ⟨A2', q2', rfl, hq2', hm2'⟩ := own_form hr2.1
 refine hK.out _ _ hr2.2 (fun hHeld => ?_)
 clear hK K
 try go_frame
 refine tk 7 3 (v := .slice A2' P2.length q2') rfl (Or.inl ⟨by kernel_rfl, fun W hSw => by clear hSw; go_simp⟩) hHeld ?_
 go_frame
 refine wpAnyH_done (by kernel_rfl) ?_ _
 clear za zb hown2' hg2' hat2' hrow1 hrow2 hown1 hown2 hb1 hb2 s0 s1 s2 hHeld
 have c2_0 : w2'.cell? ⟨w.heap.size, 0, none⟩ = some (.int .i64 r.id) := (hr2.2.cell (p := ⟨w.heap.size, 0, none⟩) HB).trans C0
 have c2_1 : w2'.cell? ⟨w.heap.size, 1, none⟩ = some (.int .i64 r.ep) := (hr2.2.cell (p := ⟨w.heap.size, 1, none⟩) HB).trans C1
 have c2_2 : w2'.cell? ⟨w.heap.size, 2, none⟩ = some (.float .f64 r.lo) := (hr2.2.cell (p := ⟨w.heap.size, 2, none⟩) HB).trans C2
 have c2_3 : w2'.cell? ⟨w.heap.size, 3, none⟩ = some (.float .f64 r.hi) := (hr2.2.cell (p := ⟨w.heap.size, 3, none⟩) HB).trans C3
 go_wp2_with fail
 refine (xfloat r.lo _ k3).mono ?_
 rintro e w3 ⟨A3, q3, rfl, hq3, hm3, hown3, hb3⟩
 have hrow3 := hr2.below hb3
 have z3a : (P2).length + (encF64 r.lo).length ≤ maxLen := by unfold maxLen; have := LP2.out; omega
 have z3b : ((P2).length + (encF64 r.lo).length) * 1 ≤ 140737488355328 := by have := LP2.out; omega
 go_wp2_with (at_builtin; refine wpList_append_any _ rfl _ _ _ rfl ((w.alloc (.cells #[.int .i64 r.id, .int .i64 r.ep, .float .f64 r.lo, .float .f64 r.hi] 32))).heap.size 5 i0 _ 1 1 Tryz.underlying48 hi0 hz0 hz1 hz2 rfl (by omega) (.slice A2' P2.length q2') _ (bytesV (P2)) (by rfl) hrow3.1 w3.heap.size A3 (encF64 r.lo).length q3 (bytesV (encF64 r.lo)) (by rfl) (Reads.of_own hown3) (bytesV_one _) z3a z3b hrow3.2.size ?_; intro v3' w3' hown3' hg3' hat3'; have hr3 := hrow3.push (Below.refl _ _) hown3' hg3'; obtain ⟨P3, HP3, LP3⟩ := named (P2) (encF64 r.lo); rw [← HP3.out] at hr3; obtain ⟨A3', q3', rfl, hq3', hm3'⟩ := own_form hr3.1; have c3_0 : (w3').cell? ⟨w.heap.size, 0, none⟩ = some (.int .i64 r.id) := (hr3.2.cell (p := ⟨w.heap.size, 0, none⟩) HB).trans C0; have c3_1 : (w3').cell? ⟨w.heap.size, 1, none⟩ = some (.int .i64 r.ep) := (hr3.2.cell (p := ⟨w.heap.size, 1, none⟩) HB).trans C1; have c3_2 : (w3').cell? ⟨w.heap.size, 2, none⟩ = some (.float .f64 r.lo) := (hr3.2.cell (p := ⟨w.heap.size, 2, none⟩) HB).trans C2; have c3_3 : (w3').cell? ⟨w.heap.size, 3, none⟩ = some (.float .f64 r.hi) := (hr3.2.cell (p := ⟨w.heap.size, 3, none⟩) HB).trans C3)
 clear z3a z3b hown3' hg3' hat3' hrow3 hown3 hb3
 go_wp2_with fail
 refine (xfloat r.hi _ k4).mono ?_
 rintro e w4 ⟨A4, q4, rfl, hq4, hm4, hown4, hb4⟩
 have hrow4 := hr3.below hb4
 have z4a : (P3).length + (encF64 r.hi).length ≤ maxLen := by unfold maxLen; have := LP2.out; have := LP3.out; omega
 have z4b : ((P3).length + (encF64 r.hi).length) * 1 ≤ 140737488355328 := by have := LP2.out; have := LP3.out; omega
 go_wp2_with (at_builtin; refine wpList_append_any _ rfl _ _ _ rfl ((w.alloc (.cells #[.int .i64 r.id, .int .i64 r.ep, .float .f64 r.lo, .float .f64 r.hi] 32))).heap.size 5 i0 _ 1 1 Tryz.underlying48 hi0 hz0 hz1 hz2 rfl (by omega) (.slice A3' P3.length q3') _ (bytesV (P3)) (by rfl) hrow4.1 w4.heap.size A4 (encF64 r.hi).length q4 (bytesV (encF64 r.hi)) (by rfl) (Reads.of_own hown4) (bytesV_one _) z4a z4b hrow4.2.size ?_; intro v4' w4' hown4' hg4' hat4'; have hr4 := hrow4.push (Below.refl _ _) hown4' hg4'; obtain ⟨P4, HP4, LP4⟩ := named (P3) (encF64 r.hi); rw [← HP4.out] at hr4; obtain ⟨A4', q4', rfl, hq4', hm4'⟩ := own_form hr4.1; have c4_0 : (w4').cell? ⟨w.heap.size, 0, none⟩ = some (.int .i64 r.id) := (hr4.2.cell (p := ⟨w.heap.size, 0, none⟩) HB).trans C0; have c4_1 : (w4').cell? ⟨w.heap.size, 1, none⟩ = some (.int .i64 r.ep) := (hr4.2.cell (p := ⟨w.heap.size, 1, none⟩) HB).trans C1; have c4_2 : (w4').cell? ⟨w.heap.size, 2, none⟩ = some (.float .f64 r.lo) := (hr4.2.cell (p := ⟨w.heap.size, 2, none⟩) HB).trans C2; have c4_3 : (w4').cell? ⟨w.heap.size, 3, none⟩ = some (.float .f64 r.hi) := (hr4.2.cell (p := ⟨w.heap.size, 3, none⟩) HB).trans C3)
 clear z4a z4b hown4' hg4' hat4' hrow4 hown4 hb4
 have HP := RowPost.down HX hr4.post
 have HQ : encRg r = P4 := by rw [HP4.out, HP3.out, HP2.out]; simp only [encRg, List.append_assoc]
 go_ret
 rw [HQ]
 exact HP
end Go.Proofs.YthdmanadhbpogaaGreat
/- The walks of the document's bytes: values, lists. -/
namespace Go.Proofs.YthdmanadhbpogaaGreat
set_option maxHeartbeats 2000000
set_option maxRecDepth 100000
set_option linter.unusedVariables false
open Go.RowKit Fl
attribute [local go_sem] run_store_float
theorem xPut (v : Vl) (w : World) (hok : v.ok) (hlen : (encVl v).length ≤ 1000000000000) : Calls Tryz.prog 76 #[v.val] w (RowPost w (encVl v)) := by
 have hM := fun w' => rvmay_any v w'
 cases hm : v.may
 · have he : encVl v = encI 0 := by unfold encVl; rw [hm]; rfl
   rw [he]
   rw [hm] at hM
   clear he hm hlen
   have HX : Below w.heap.size w (w.alloc (.cells v.cells.toArray 58)) := by go_grown
   go_enter Tryz.func76, Tryz.ntmps76
   go_wp2_with ((with_reducible refine (hM _).mono ?_); rintro e w1 ⟨rfl, hb1⟩)
   have hB := HX.trans (hb1.mono HX.size)
   go_ret
   exact ⟨some ⟨w1.heap.size, 0, none⟩, 1, rfl, Nat.le_refl _, by unfold maxLen; omega, owns_down (World.ownsRow_lit w1 #[.int .u8 0] 1 (Nat.le_refl _) (by unfold maxLen; omega) rfl) hB.size, hB.alloc hB.size _⟩
 · rcases may_kind hm with hk | hk | hk
   · have he : encVl v = encI 0 := by unfold encVl; rw [hm, hk]; rfl
     rw [he] at hlen ⊢
     rw [hm] at hM
     have hx := hok.2.1
     have hy := hok.2.2
     obtain ⟨vk, vn, vt⟩ := v
     change vk = 0 at hk
     subst hk
     clear he hm hok
     obtain ⟨i0, hi0, hz0, hz1, hz2⟩ := info_partsW u8_info
     have HX : Below w.heap.size w (w.alloc (.cells #[.int .i64 0, .float .f64 vn, .string vt] 58)) := by go_grown
     have HB : w.heap.size < ((w.alloc (.cells #[.int .i64 0, .float .f64 vn, .string vt] 58))).heap.size := by simp
     have C0 : ((w.alloc (.cells #[.int .i64 0, .float .f64 vn, .string vt] 58))).cell? ⟨w.heap.size, 0, none⟩ = some (.int .i64 0) := (Blk.new w 58 #[.int .i64 0, .float .f64 vn, .string vt]).cell 0
     have C1 : ((w.alloc (.cells #[.int .i64 0, .float .f64 vn, .string vt] 58))).cell? ⟨w.heap.size, 1, none⟩ = some (.float .f64 vn) := (Blk.new w 58 #[.int .i64 0, .float .f64 vn, .string vt]).cell 1
     have C2 : ((w.alloc (.cells #[.int .i64 0, .float .f64 vn, .string vt] 58))).cell? ⟨w.heap.size, 2, none⟩ = some (.string vt) := (Blk.new w 58 #[.int .i64 0, .float .f64 vn, .string vt]).cell 2
     go_enter Tryz.func76, Tryz.ntmps76
     have eK : (encI (0 : Int)).length = 1 := rfl
     go_wp2_with fail
     refine (hM _).mono ?_
     rintro e w0 ⟨rfl, hb0⟩
     have d0 : w0.cell? ⟨w.heap.size, 0, none⟩ = some (.int .i64 0) := (hb0.cell (p := ⟨w.heap.size, 0, none⟩) HB).trans C0
     have d1 : w0.cell? ⟨w.heap.size, 1, none⟩ = some (.float .f64 vn) := (hb0.cell (p := ⟨w.heap.size, 1, none⟩) HB).trans C1
     have d2 : w0.cell? ⟨w.heap.size, 2, none⟩ = some (.string vt) := (hb0.cell (p := ⟨w.heap.size, 2, none⟩) HB).trans C2
     go_wp2_with fail
     refine (xint 0 _ (by omega) (by omega)).mono ?_
     rintro e w1 ⟨A1, q1, rfl, hq1, hm1, hown1, hb1⟩
     have hrow1 : RowRel (w.alloc (.cells #[.int .i64 0, .float .f64 vn, .string vt] 58)) (encI 0) (.slice A1 (encI 0).length q1) w1 := ⟨owns_down hown1 hb0.size, hb0.trans (hb1.mono hb0.size)⟩
     have c1_0 : (w1).cell? ⟨w.heap.size, 0, none⟩ = some (.int .i64 0) := (hrow1.2.cell (p := ⟨w.heap.size, 0, none⟩) HB).trans C0
     have c1_1 : (w1).cell? ⟨w.heap.size, 1, none⟩ = some (.float .f64 vn) := (hrow1.2.cell (p := ⟨w.heap.size, 1, none⟩) HB).trans C1
     have c1_2 : (w1).cell? ⟨w.heap.size, 2, none⟩ = some (.string vt) := (hrow1.2.cell (p := ⟨w.heap.size, 2, none⟩) HB).trans C2
     go_wp2
     have HP := RowPost.down HX hrow1.post
     go_ret
     exact HP
   · have he : encVl v = encI 1 ++ encF64 v.n := by unfold encVl; rw [hm, hk]; rfl
     rw [he] at hlen ⊢
     rw [hm] at hM
     have hx := hok.2.1
     have hy := hok.2.2
     obtain ⟨vk, vn, vt⟩ := v
     change vk = 1 at hk
     subst hk
     clear he hm hok
     obtain ⟨i0, hi0, hz0, hz1, hz2⟩ := info_partsW u8_info
     have HX : Below w.heap.size w (w.alloc (.cells #[.int .i64 1, .float .f64 vn, .string vt] 58)) := by go_grown
     have HB : w.heap.size < ((w.alloc (.cells #[.int .i64 1, .float .f64 vn, .string vt] 58))).heap.size := by simp
     have C0 : ((w.alloc (.cells #[.int .i64 1, .float .f64 vn, .string vt] 58))).cell? ⟨w.heap.size, 0, none⟩ = some (.int .i64 1) := (Blk.new w 58 #[.int .i64 1, .float .f64 vn, .string vt]).cell 0
     have C1 : ((w.alloc (.cells #[.int .i64 1, .float .f64 vn, .string vt] 58))).cell? ⟨w.heap.size, 1, none⟩ = some (.float .f64 vn) := (Blk.new w 58 #[.int .i64 1, .float .f64 vn, .string vt]).cell 1
     have C2 : ((w.alloc (.cells #[.int .i64 1, .float .f64 vn, .string vt] 58))).cell? ⟨w.heap.size, 2, none⟩ = some (.string vt) := (Blk.new w 58 #[.int .i64 1, .float .f64 vn, .string vt]).cell 2
     go_enter Tryz.func76, Tryz.ntmps76
     have eK : (encI (1 : Int)).length = 1 := rfl
     simp only [List.length_append] at hlen
     go_wp2_with fail
     refine (hM _).mono ?_
     rintro e w0 ⟨rfl, hb0⟩
     have d0 : w0.cell? ⟨w.heap.size, 0, none⟩ = some (.int .i64 1) := (hb0.cell (p := ⟨w.heap.size, 0, none⟩) HB).trans C0
     have d1 : w0.cell? ⟨w.heap.size, 1, none⟩ = some (.float .f64 vn) := (hb0.cell (p := ⟨w.heap.size, 1, none⟩) HB).trans C1
     have d2 : w0.cell? ⟨w.heap.size, 2, none⟩ = some (.string vt) := (hb0.cell (p := ⟨w.heap.size, 2, none⟩) HB).trans C2
     go_wp2_with fail
     refine (xint 1 _ (by omega) (by omega)).mono ?_
     rintro e w1 ⟨A1, q1, rfl, hq1, hm1, hown1, hb1⟩
     have hrow1 : RowRel (w.alloc (.cells #[.int .i64 1, .float .f64 vn, .string vt] 58)) (encI 1) (.slice A1 (encI 1).length q1) w1 := ⟨owns_down hown1 hb0.size, hb0.trans (hb1.mono hb0.size)⟩
     have c1_0 : (w1).cell? ⟨w.heap.size, 0, none⟩ = some (.int .i64 1) := (hrow1.2.cell (p := ⟨w.heap.size, 0, none⟩) HB).trans C0
     have c1_1 : (w1).cell? ⟨w.heap.size, 1, none⟩ = some (.float .f64 vn) := (hrow1.2.cell (p := ⟨w.heap.size, 1, none⟩) HB).trans C1
     have c1_2 : (w1).cell? ⟨w.heap.size, 2, none⟩ = some (.string vt) := (hrow1.2.cell (p := ⟨w.heap.size, 2, none⟩) HB).trans C2
     have e8 : (encF64 vn).length = 8 := leW_len 8 _
     go_wp2_with fail
     refine (xfloat vn _ hx).mono ?_
     rintro e w2 ⟨A2, q2, rfl, hq2, hm2, hown2, hb2⟩
     have hrow2 := hrow1.below hb2
     have z2a : (encI 1).length + (encF64 vn).length ≤ maxLen := by unfold maxLen; omega
     have z2b : ((encI 1).length + (encF64 vn).length) * 1 ≤ 140737488355328 := by omega
     go_wp2_with (at_builtin; refine wpList_append_any _ rfl _ _ _ rfl ((w.alloc (.cells #[.int .i64 1, .float .f64 vn, .string vt] 58))).heap.size 5 i0 _ 1 1 Tryz.underlying48 hi0 hz0 hz1 hz2 rfl (by omega) (.slice A1 (encI 1).length q1) _ (bytesV (encI 1)) (by rfl) hrow2.1 w2.heap.size A2 (encF64 vn).length q2 (bytesV (encF64 vn)) (by rfl) (Reads.of_own hown2) (bytesV_one _) z2a z2b hrow2.2.size ?_; intro v2' w2' hown2' hg2' hat2'; have hr2 := hrow2.push (Below.refl _ _) hown2' hg2'; obtain ⟨P2, HP2, LP2⟩ := named (encI 1) (encF64 vn); rw [← HP2.out] at hr2; obtain ⟨A2', q2', rfl, hq2', hm2'⟩ := own_form hr2.1; have c2_0 : (w2').cell? ⟨w.heap.size, 0, none⟩ = some (.int .i64 1) := (hr2.2.cell (p := ⟨w.heap.size, 0, none⟩) HB).trans C0; have c2_1 : (w2').cell? ⟨w.heap.size, 1, none⟩ = some (.float .f64 vn) := (hr2.2.cell (p := ⟨w.heap.size, 1, none⟩) HB).trans C1; have c2_2 : (w2').cell? ⟨w.heap.size, 2, none⟩ = some (.string vt) := (hr2.2.cell (p := ⟨w.heap.size, 2, none⟩) HB).trans C2)
     clear z2a z2b hown2' hg2' hat2' hrow2 hown2 hb2
     go_wp2
     have HP := RowPost.down HX hr2.post
     have HQ : encI 1 ++ encF64 vn = P2 := by rw [HP2.out]
     go_ret
     rw [HQ]
     exact HP
   · have he : encVl v = encI 2 ++ encKy v.t := by unfold encVl; rw [hm, hk]; rfl
     rw [he] at hlen ⊢
     rw [hm] at hM
     have hx := hok.2.1
     have hy := hok.2.2
     obtain ⟨vk, vn, vt⟩ := v
     change vk = 2 at hk
     subst hk
     clear he hm hok
     obtain ⟨i0, hi0, hz0, hz1, hz2⟩ := info_partsW u8_info
     have HX : Below w.heap.size w (w.alloc (.cells #[.int .i64 2, .float .f64 vn, .string vt] 58)) := by go_grown
     have HB : w.heap.size < ((w.alloc (.cells #[.int .i64 2, .float .f64 vn, .string vt] 58))).heap.size := by simp
     have C0 : ((w.alloc (.cells #[.int .i64 2, .float .f64 vn, .string vt] 58))).cell? ⟨w.heap.size, 0, none⟩ = some (.int .i64 2) := (Blk.new w 58 #[.int .i64 2, .float .f64 vn, .string vt]).cell 0
     have C1 : ((w.alloc (.cells #[.int .i64 2, .float .f64 vn, .string vt] 58))).cell? ⟨w.heap.size, 1, none⟩ = some (.float .f64 vn) := (Blk.new w 58 #[.int .i64 2, .float .f64 vn, .string vt]).cell 1
     have C2 : ((w.alloc (.cells #[.int .i64 2, .float .f64 vn, .string vt] 58))).cell? ⟨w.heap.size, 2, none⟩ = some (.string vt) := (Blk.new w 58 #[.int .i64 2, .float .f64 vn, .string vt]).cell 2
     go_enter Tryz.func76, Tryz.ntmps76
     have eK : (encI (2 : Int)).length = 1 := rfl
     simp only [List.length_append] at hlen
     go_wp2_with fail
     refine (hM _).mono ?_
     rintro e w0 ⟨rfl, hb0⟩
     have d0 : w0.cell? ⟨w.heap.size, 0, none⟩ = some (.int .i64 2) := (hb0.cell (p := ⟨w.heap.size, 0, none⟩) HB).trans C0
     have d1 : w0.cell? ⟨w.heap.size, 1, none⟩ = some (.float .f64 vn) := (hb0.cell (p := ⟨w.heap.size, 1, none⟩) HB).trans C1
     have d2 : w0.cell? ⟨w.heap.size, 2, none⟩ = some (.string vt) := (hb0.cell (p := ⟨w.heap.size, 2, none⟩) HB).trans C2
     go_wp2_with fail
     refine (xint 2 _ (by omega) (by omega)).mono ?_
     rintro e w1 ⟨A1, q1, rfl, hq1, hm1, hown1, hb1⟩
     have hrow1 : RowRel (w.alloc (.cells #[.int .i64 2, .float .f64 vn, .string vt] 58)) (encI 2) (.slice A1 (encI 2).length q1) w1 := ⟨owns_down hown1 hb0.size, hb0.trans (hb1.mono hb0.size)⟩
     have c1_0 : (w1).cell? ⟨w.heap.size, 0, none⟩ = some (.int .i64 2) := (hrow1.2.cell (p := ⟨w.heap.size, 0, none⟩) HB).trans C0
     have c1_1 : (w1).cell? ⟨w.heap.size, 1, none⟩ = some (.float .f64 vn) := (hrow1.2.cell (p := ⟨w.heap.size, 1, none⟩) HB).trans C1
     have c1_2 : (w1).cell? ⟨w.heap.size, 2, none⟩ = some (.string vt) := (hrow1.2.cell (p := ⟨w.heap.size, 2, none⟩) HB).trans C2
     have e8 : vt.size ≤ (encKy vt).length := by { have e : vt.size = vt.data.toList.length := (Array.length_toList (xs := vt.data)).symm; unfold encKy encT; rw [List.length_append]; omega }
     go_wp2_with fail
     refine (xtext vt _ (by omega)).mono ?_
     rintro e w2 ⟨A2, q2, rfl, hq2, hm2, hown2, hb2⟩
     have hrow2 := hrow1.below hb2
     have z2a : (encI 2).length + (encKy vt).length ≤ maxLen := by unfold maxLen; omega
     have z2b : ((encI 2).length + (encKy vt).length) * 1 ≤ 140737488355328 := by omega
     go_wp2_with (at_builtin; refine wpList_append_any _ rfl _ _ _ rfl ((w.alloc (.cells #[.int .i64 2, .float .f64 vn, .string vt] 58))).heap.size 5 i0 _ 1 1 Tryz.underlying48 hi0 hz0 hz1 hz2 rfl (by omega) (.slice A1 (encI 2).length q1) _ (bytesV (encI 2)) (by rfl) hrow2.1 w2.heap.size A2 (encKy vt).length q2 (bytesV (encKy vt)) (by rfl) (Reads.of_own hown2) (bytesV_one _) z2a z2b hrow2.2.size ?_; intro v2' w2' hown2' hg2' hat2'; have hr2 := hrow2.push (Below.refl _ _) hown2' hg2'; obtain ⟨P2, HP2, LP2⟩ := named (encI 2) (encKy vt); rw [← HP2.out] at hr2; obtain ⟨A2', q2', rfl, hq2', hm2'⟩ := own_form hr2.1; have c2_0 : (w2').cell? ⟨w.heap.size, 0, none⟩ = some (.int .i64 2) := (hr2.2.cell (p := ⟨w.heap.size, 0, none⟩) HB).trans C0; have c2_1 : (w2').cell? ⟨w.heap.size, 1, none⟩ = some (.float .f64 vn) := (hr2.2.cell (p := ⟨w.heap.size, 1, none⟩) HB).trans C1; have c2_2 : (w2').cell? ⟨w.heap.size, 2, none⟩ = some (.string vt) := (hr2.2.cell (p := ⟨w.heap.size, 2, none⟩) HB).trans C2)
     clear z2a z2b hown2' hg2' hat2' hrow2 hown2 hb2
     go_wp2
     have HP := RowPost.down HX hr2.post
     have HQ : encI 2 ++ encKy vt = P2 := by rw [HP2.out]
     go_ret
     rw [HQ]
     exact HP
theorem xTexts (A : Option Addr) (n c : Nat) (l : List ByteArray) (w : World) (h : Sl KyRel 1 w w.heap.size A n l) (hn : n ≤ maxLen) (hlen : (encLs encKy l).length ≤ 1000000000000) :
 Calls Tryz.prog 78 #[.slice A n c] w (RowPost w (encLs encKy l)) := by
 obtain ⟨i0, hi0, hz0, hz1, hz2⟩ := info_partsW u8_info
 unfold maxLen at hn
 have hln : l.length = n := h.1
 have hle : l.length ≤ n := by omega
 have hge : n ≤ l.length := by omega
 have HN := Lib.hid hln
 have hlt0 : (encLs encKy l).length = (encI (n : Int)).length + (l.flatMap encKy).length := by unfold encLs; rw [List.length_append, hln]
 have hl1 : (encI (n : Int)).length + (l.flatMap encKy).length ≤ 1000000000000 := by omega
 have HL := Lib.hid hl1
 clear hln hlt0 hlen hl1
 have HX := Below.refl w.heap.size w
 go_enter Tryz.func78, Tryz.ntmps78
 go_wp2_with fail
 refine (xint (n : Int) _ (by omega) (by omega)).mono ?_
 rintro e w1 ⟨A1, q1, rfl, hq1, hm1, hown1, hb1⟩
 have hrow1 : RowRel w (encI (n : Int)) (.slice A1 (encI (n : Int)).length q1) w1 := ⟨hown1, hb1⟩
 go_wp2_with fail
 go_loopw [3, 4] (fun out i wr => ∃ k : Nat, k ≤ n ∧ i = .int .i64 (k : Int) ∧ RowRel w (encI (n : Int) ++ (l.take k).flatMap encKy) out wr) (fun _ i _ => n - (intOf i).toNat)
 case atStart => exact ⟨0, by omega, rfl, by simpa using hrow1⟩
 case round =>
  clear hown1 hb1 hrow1 hq1 hm1
  obtain ⟨k, hk, rfl, hrow⟩ := hrel
  obtain ⟨P0, HP0, LP0⟩ := named (encI (n : Int)) ((l.take k).flatMap encKy)
  rw [← HP0.out] at hrow
  obtain ⟨A0, q0, rfl, hq0, hm0⟩ := own_form hrow.1
  by_cases hlt : k < n
  · obtain ⟨ad, a, rfl, hl, hbk, hok, C0⟩ := h.ky hlt
    have hsz : a.size ≤ (encKy a).length := by { have e : a.size = a.data.toList.length := (Array.length_toList (xs := a.data)).symm; unfold encKy encT; rw [List.length_append]; omega }
    have hd1 : decide ((k : Int) < (n : Int)) = true := by simp; omega
    have hk0 : (0 : Int) ≤ (k : Int) := by omega
    have hk1 : (k : Int) < (n : Int) := by omega
    have HT := Lib.hid (flat_snoc encKy hl)
    have hfl : ((l.take k).flatMap encKy).length + (encKy a).length ≤ (l.flatMap encKy).length := by
        have h1 := flat_take_le encKy l (k + 1)
        rw [HT.out, List.length_append] at h1; exact h1
    have HK := Lib.hid hfl
    have HE : RowKit.Hid ((encKy a).length = (encKy a).length) := Lib.hid (by rfl)
    clear hl hfl
    have c0_0 : wr.cell? (ad.add k) = some (.string a) := (hrow.2.cell (p := (ad.add k)) hbk).trans C0
    have LL : RowKit.Hid (P0.length + (encKy a).length ≤ 1000000000000) := Lib.hid (by have h1 := LP0.out; have h2 := HL.out; have h3 := HK.out; omega)
    have LE := HE
    go_wp2_with fail
    refine (xtext a _ (by have := LL.out; omega)).mono ?_
    rintro e w1 ⟨A1, q1, rfl, hq1, hm1, hown1, hb1⟩
    have hrow1 := hrow.below hb1
    have z1a : (P0).length + (encKy a).length ≤ maxLen := by unfold maxLen; have := LL.out; have := LE.out; omega
    have z1b : ((P0).length + (encKy a).length) * 1 ≤ 140737488355328 := by have := LL.out; have := LE.out; omega
    go_wp2_with (at_builtin; refine wpList_append_any _ rfl _ _ _ rfl (w).heap.size 5 i0 _ 1 1 Tryz.underlying48 hi0 hz0 hz1 hz2 rfl (by omega) (.slice A0 P0.length q0) _ (bytesV (P0)) (by rfl) hrow1.1 w1.heap.size A1 (encKy a).length q1 (bytesV (encKy a)) (by rfl) (Reads.of_own hown1) (bytesV_one _) z1a z1b hrow1.2.size ?_; intro v1' w1' hown1' hg1' hat1'; have hr1 := hrow1.push (Below.refl _ _) hown1' hg1'; obtain ⟨P1, HP1, LP1⟩ := named (P0) (encKy a); rw [← HP1.out] at hr1; obtain ⟨A1', q1', rfl, hq1', hm1'⟩ := own_form hr1.1; have c1_0 : (w1').cell? (ad.add k) = some (.string a) := (hr1.2.cell (p := (ad.add k)) hbk).trans C0)
    clear z1a z1b hown1' hg1' hat1' hrow1 hown1 hb1
    go_roundw
    case rel =>
        refine ⟨k + 1, by omega, by go_num, ?_⟩
        have HQ : encI (n : Int) ++ (l.take (k + 1)).flatMap encKy = P1 := by rw [HT.out, HP1.out, HP0.out]; simp only [List.append_assoc]
        rw [HQ]
        exact hr1
    case measure => simp [intOf]; omega
  · have hd1 : decide ((k : Int) < (n : Int)) = false := by simp; omega
    go_wp2_with fail
    go_ret
    have HQ : encLs encKy l = P0 := by rw [HP0.out, flat_all encKy (by omega)]; unfold encLs; rw [HN.out]
    rw [HQ]
    exact hrow.post
theorem xInts (A : Option Addr) (n c : Nat) (l : List Int) (w : World) (h : Sl NmRel 1 w w.heap.size A n l) (hn : n ≤ maxLen) (hlen : (encLs encI l).length ≤ 1000000000000) :
 Calls Tryz.prog 132 #[.slice A n c] w (RowPost w (encLs encI l)) := by
 obtain ⟨i0, hi0, hz0, hz1, hz2⟩ := info_partsW u8_info
 unfold maxLen at hn
 have hln : l.length = n := h.1
 have hle : l.length ≤ n := by omega
 have hge : n ≤ l.length := by omega
 have HN := Lib.hid hln
 have hlt0 : (encLs encI l).length = (encI (n : Int)).length + (l.flatMap encI).length := by unfold encLs; rw [List.length_append, hln]
 have hl1 : (encI (n : Int)).length + (l.flatMap encI).length ≤ 1000000000000 := by omega
 have HL := Lib.hid hl1
 clear hln hlt0 hlen hl1
 have HX := Below.refl w.heap.size w
 go_enter Tryz.func132, Tryz.ntmps132
 go_wp2_with fail
 refine (xint (n : Int) _ (by omega) (by omega)).mono ?_
 rintro e w1 ⟨A1, q1, rfl, hq1, hm1, hown1, hb1⟩
 have hrow1 : RowRel w (encI (n : Int)) (.slice A1 (encI (n : Int)).length q1) w1 := ⟨hown1, hb1⟩
 go_wp2_with fail
 go_loopw [3, 4] (fun out i wr => ∃ k : Nat, k ≤ n ∧ i = .int .i64 (k : Int) ∧ RowRel w (encI (n : Int) ++ (l.take k).flatMap encI) out wr) (fun _ i _ => n - (intOf i).toNat)
 case atStart => exact ⟨0, by omega, rfl, by simpa using hrow1⟩
 case round =>
  clear hown1 hb1 hrow1 hq1 hm1
  obtain ⟨k, hk, rfl, hrow⟩ := hrel
  obtain ⟨P0, HP0, LP0⟩ := named (encI (n : Int)) ((l.take k).flatMap encI)
  rw [← HP0.out] at hrow
  obtain ⟨A0, q0, rfl, hq0, hm0⟩ := own_form hrow.1
  by_cases hlt : k < n
  · obtain ⟨ad, a, rfl, hl, hbk, hok, C0⟩ := h.nm hlt
    have hd1 : decide ((k : Int) < (n : Int)) = true := by simp; omega
    have hk0 : (0 : Int) ≤ (k : Int) := by omega
    have hk1 : (k : Int) < (n : Int) := by omega
    have HT := Lib.hid (flat_snoc encI hl)
    have hfl : ((l.take k).flatMap encI).length + (encI a).length ≤ (l.flatMap encI).length := by
        have h1 := flat_take_le encI l (k + 1)
        rw [HT.out, List.length_append] at h1; exact h1
    have HK := Lib.hid hfl
    have HE : RowKit.Hid ((encI a).length = (encI a).length) := Lib.hid (by rfl)
    clear hl hfl
    have c0_0 : wr.cell? (ad.add k) = some (.int .i64 a) := (hrow.2.cell (p := (ad.add k)) hbk).trans C0
    have LL : RowKit.Hid (P0.length + (encI a).length ≤ 1000000000000) := Lib.hid (by have h1 := LP0.out; have h2 := HL.out; have h3 := HK.out; omega)
    have LE := HE
    go_wp2_with fail
    refine (xint a _ hok.1 hok.2).mono ?_
    rintro e w1 ⟨A1, q1, rfl, hq1, hm1, hown1, hb1⟩
    have hrow1 := hrow.below hb1
    have z1a : (P0).length + (encI a).length ≤ maxLen := by unfold maxLen; have := LL.out; have := LE.out; omega
    have z1b : ((P0).length + (encI a).length) * 1 ≤ 140737488355328 := by have := LL.out; have := LE.out; omega
    go_wp2_with (at_builtin; refine wpList_append_any _ rfl _ _ _ rfl (w).heap.size 5 i0 _ 1 1 Tryz.underlying48 hi0 hz0 hz1 hz2 rfl (by omega) (.slice A0 P0.length q0) _ (bytesV (P0)) (by rfl) hrow1.1 w1.heap.size A1 (encI a).length q1 (bytesV (encI a)) (by rfl) (Reads.of_own hown1) (bytesV_one _) z1a z1b hrow1.2.size ?_; intro v1' w1' hown1' hg1' hat1'; have hr1 := hrow1.push (Below.refl _ _) hown1' hg1'; obtain ⟨P1, HP1, LP1⟩ := named (P0) (encI a); rw [← HP1.out] at hr1; obtain ⟨A1', q1', rfl, hq1', hm1'⟩ := own_form hr1.1; have c1_0 : (w1').cell? (ad.add k) = some (.int .i64 a) := (hr1.2.cell (p := (ad.add k)) hbk).trans C0)
    clear z1a z1b hown1' hg1' hat1' hrow1 hown1 hb1
    go_roundw
    case rel =>
        refine ⟨k + 1, by omega, by go_num, ?_⟩
        have HQ : encI (n : Int) ++ (l.take (k + 1)).flatMap encI = P1 := by rw [HT.out, HP1.out, HP0.out]; simp only [List.append_assoc]
        rw [HQ]
        exact hr1
    case measure => simp [intOf]; omega
  · have hd1 : decide ((k : Int) < (n : Int)) = false := by simp; omega
    go_wp2_with fail
    go_ret
    have HQ : encLs encI l = P0 := by rw [HP0.out, flat_all encI (by omega)]; unfold encLs; rw [HN.out]
    rw [HQ]
    exact hrow.post
theorem xWrites (A : Option Addr) (n c : Nat) (l : List Wt) (w : World) (h : Sl WtRel 4 w w.heap.size A n l) (hn : n ≤ maxLen) (hlen : (encLs encWt l).length ≤ 1000000000000) :
 Calls Tryz.prog 79 #[.slice A n c] w (RowPost w (encLs encWt l)) := by
 obtain ⟨i0, hi0, hz0, hz1, hz2⟩ := info_partsW u8_info
 unfold maxLen at hn
 have hln : l.length = n := h.1
 have hle : l.length ≤ n := by omega
 have hge : n ≤ l.length := by omega
 have HN := Lib.hid hln
 have hlt0 : (encLs encWt l).length = (encI (n : Int)).length + (l.flatMap encWt).length := by unfold encLs; rw [List.length_append, hln]
 have hl1 : (encI (n : Int)).length + (l.flatMap encWt).length ≤ 1000000000000 := by omega
 have HL := Lib.hid hl1
 clear hln hlt0 hlen hl1
 have HX := Below.refl w.heap.size w
 go_enter Tryz.func79, Tryz.ntmps79
 go_wp2_with fail
 refine (xint (n : Int) _ (by omega) (by omega)).mono ?_
 rintro e w1 ⟨A1, q1, rfl, hq1, hm1, hown1, hb1⟩
 have hrow1 : RowRel w (encI (n : Int)) (.slice A1 (encI (n : Int)).length q1) w1 := ⟨hown1, hb1⟩
 go_wp2_with fail
 go_loopw [3, 4] (fun out i wr => ∃ k : Nat, k ≤ n ∧ i = .int .i64 (k : Int) ∧ RowRel w (encI (n : Int) ++ (l.take k).flatMap encWt) out wr) (fun _ i _ => n - (intOf i).toNat)
 case atStart => exact ⟨0, by omega, rfl, by simpa using hrow1⟩
 case round =>
  clear hown1 hb1 hrow1 hq1 hm1
  obtain ⟨k, hk, rfl, hrow⟩ := hrel
  obtain ⟨P0, HP0, LP0⟩ := named (encI (n : Int)) ((l.take k).flatMap encWt)
  rw [← HP0.out] at hrow
  obtain ⟨A0, q0, rfl, hq0, hm0⟩ := own_form hrow.1
  by_cases hlt : k < n
  · obtain ⟨ad, a, rfl, hl, hbk, hok, C0, C1, C2, C3⟩ := h.wt hlt
    have hsz : a.key.size ≤ (encKy a.key).length := by { have e : a.key.size = a.key.data.toList.length := (Array.length_toList (xs := a.key.data)).symm; unfold encKy encT; rw [List.length_append]; omega }
    have hd1 : decide ((k : Int) < (n : Int)) = true := by simp; omega
    have hk0 : (0 : Int) ≤ (k : Int) := by omega
    have hk1 : (k : Int) < (n : Int) := by omega
    have HT := Lib.hid (flat_snoc encWt hl)
    have hfl : ((l.take k).flatMap encWt).length + (encWt a).length ≤ (l.flatMap encWt).length := by
        have h1 := flat_take_le encWt l (k + 1)
        rw [HT.out, List.length_append] at h1; exact h1
    have HK := Lib.hid hfl
    have HE : RowKit.Hid ((encWt a).length = (encKy a.key).length + (encVl a.v).length) := Lib.hid (by unfold encWt; simp only [List.length_append])
    clear hl hfl
    have c0_0 : wr.cell? (ad.add (k * 4)) = some (.string a.key) := (hrow.2.cell (p := (ad.add (k * 4))) hbk).trans C0
    have c0_1 : wr.cell? ⟨(ad.add (k * 4)).block, (ad.add (k * 4)).off + 1, none⟩ = some (.int .i64 a.v.k) := (hrow.2.cell (p := ⟨(ad.add (k * 4)).block, (ad.add (k * 4)).off + 1, none⟩) hbk).trans C1
    have c0_2 : wr.cell? ⟨(ad.add (k * 4)).block, (ad.add (k * 4)).off + 2, none⟩ = some (.float .f64 a.v.n) := (hrow.2.cell (p := ⟨(ad.add (k * 4)).block, (ad.add (k * 4)).off + 2, none⟩) hbk).trans C2
    have c0_3 : wr.cell? ⟨(ad.add (k * 4)).block, (ad.add (k * 4)).off + 3, none⟩ = some (.string a.v.t) := (hrow.2.cell (p := ⟨(ad.add (k * 4)).block, (ad.add (k * 4)).off + 3, none⟩) hbk).trans C3
    have LL : RowKit.Hid (P0.length + (encWt a).length ≤ 1000000000000) := Lib.hid (by have h1 := LP0.out; have h2 := HL.out; have h3 := HK.out; omega)
    have LE := HE
    go_wp2_with fail
    refine (xtext a.key _ (by have := LL.out; have := LE.out; omega)).mono ?_
    rintro e w1 ⟨A1, q1, rfl, hq1, hm1, hown1, hb1⟩
    have hrow1 := hrow.below hb1
    have z1a : (P0).length + (encKy a.key).length ≤ maxLen := by unfold maxLen; have := LL.out; have := LE.out; omega
    have z1b : ((P0).length + (encKy a.key).length) * 1 ≤ 140737488355328 := by have := LL.out; have := LE.out; omega
    go_wp2_with (at_builtin; refine wpList_append_any _ rfl _ _ _ rfl (w).heap.size 5 i0 _ 1 1 Tryz.underlying48 hi0 hz0 hz1 hz2 rfl (by omega) (.slice A0 P0.length q0) _ (bytesV (P0)) (by rfl) hrow1.1 w1.heap.size A1 (encKy a.key).length q1 (bytesV (encKy a.key)) (by rfl) (Reads.of_own hown1) (bytesV_one _) z1a z1b hrow1.2.size ?_; intro v1' w1' hown1' hg1' hat1'; have hr1 := hrow1.push (Below.refl _ _) hown1' hg1'; obtain ⟨P1, HP1, LP1⟩ := named (P0) (encKy a.key); rw [← HP1.out] at hr1; obtain ⟨A1', q1', rfl, hq1', hm1'⟩ := own_form hr1.1; have c1_0 : (w1').cell? (ad.add (k * 4)) = some (.string a.key) := (hr1.2.cell (p := (ad.add (k * 4))) hbk).trans C0; have c1_1 : (w1').cell? ⟨(ad.add (k * 4)).block, (ad.add (k * 4)).off + 1, none⟩ = some (.int .i64 a.v.k) := (hr1.2.cell (p := ⟨(ad.add (k * 4)).block, (ad.add (k * 4)).off + 1, none⟩) hbk).trans C1; have c1_2 : (w1').cell? ⟨(ad.add (k * 4)).block, (ad.add (k * 4)).off + 2, none⟩ = some (.float .f64 a.v.n) := (hr1.2.cell (p := ⟨(ad.add (k * 4)).block, (ad.add (k * 4)).off + 2, none⟩) hbk).trans C2; have c1_3 : (w1').cell? ⟨(ad.add (k * 4)).block, (ad.add (k * 4)).off + 3, none⟩ = some (.string a.v.t) := (hr1.2.cell (p := ⟨(ad.add (k * 4)).block, (ad.add (k * 4)).off + 3, none⟩) hbk).trans C3)
    clear z1a z1b hown1' hg1' hat1' hrow1 hown1 hb1
    go_wp2_with fail
    refine (xPut a.v _ hok.2 (by have := LL.out; have := LE.out; omega)).mono ?_
    rintro e w2 ⟨A2, q2, rfl, hq2, hm2, hown2, hb2⟩
    have hrow2 := hr1.below hb2
    have z2a : (P1).length + (encVl a.v).length ≤ maxLen := by unfold maxLen; have := LL.out; have := LE.out; have := LP1.out; omega
    have z2b : ((P1).length + (encVl a.v).length) * 1 ≤ 140737488355328 := by have := LL.out; have := LE.out; have := LP1.out; omega
    go_wp2_with (at_builtin; refine wpList_append_any _ rfl _ _ _ rfl (w).heap.size 5 i0 _ 1 1 Tryz.underlying48 hi0 hz0 hz1 hz2 rfl (by omega) (.slice A1' P1.length q1') _ (bytesV (P1)) (by rfl) hrow2.1 w2.heap.size A2 (encVl a.v).length q2 (bytesV (encVl a.v)) (by rfl) (Reads.of_own hown2) (bytesV_one _) z2a z2b hrow2.2.size ?_; intro v2' w2' hown2' hg2' hat2'; have hr2 := hrow2.push (Below.refl _ _) hown2' hg2'; obtain ⟨P2, HP2, LP2⟩ := named (P1) (encVl a.v); rw [← HP2.out] at hr2; obtain ⟨A2', q2', rfl, hq2', hm2'⟩ := own_form hr2.1; have c2_0 : (w2').cell? (ad.add (k * 4)) = some (.string a.key) := (hr2.2.cell (p := (ad.add (k * 4))) hbk).trans C0; have c2_1 : (w2').cell? ⟨(ad.add (k * 4)).block, (ad.add (k * 4)).off + 1, none⟩ = some (.int .i64 a.v.k) := (hr2.2.cell (p := ⟨(ad.add (k * 4)).block, (ad.add (k * 4)).off + 1, none⟩) hbk).trans C1; have c2_2 : (w2').cell? ⟨(ad.add (k * 4)).block, (ad.add (k * 4)).off + 2, none⟩ = some (.float .f64 a.v.n) := (hr2.2.cell (p := ⟨(ad.add (k * 4)).block, (ad.add (k * 4)).off + 2, none⟩) hbk).trans C2; have c2_3 : (w2').cell? ⟨(ad.add (k * 4)).block, (ad.add (k * 4)).off + 3, none⟩ = some (.string a.v.t) := (hr2.2.cell (p := ⟨(ad.add (k * 4)).block, (ad.add (k * 4)).off + 3, none⟩) hbk).trans C3)
    clear z2a z2b hown2' hg2' hat2' hrow2 hown2 hb2
    go_roundw
    case rel =>
        refine ⟨k + 1, by omega, by go_num, ?_⟩
        have HQ : encI (n : Int) ++ (l.take (k + 1)).flatMap encWt = P2 := by rw [HT.out, HP2.out, HP1.out, HP0.out]; simp only [encWt, List.append_assoc]
        rw [HQ]
        exact hr2
    case measure => simp [intOf]; omega
  · have hd1 : decide ((k : Int) < (n : Int)) = false := by simp; omega
    go_wp2_with fail
    go_ret
    have HQ : encLs encWt l = P0 := by rw [HP0.out, flat_all encWt (by omega)]; unfold encLs; rw [HN.out]
    rw [HQ]
    exact hrow.post
theorem xPairs (A : Option Addr) (n c : Nat) (l : List Wt) (w : World) (h : Sl WtRel 4 w w.heap.size A n l) (hn : n ≤ maxLen) (hlen : (encLs encWt l).length ≤ 1000000000000) :
 Calls Tryz.prog 135 #[.slice A n c] w (RowPost w (encLs encWt l)) := by
 obtain ⟨i0, hi0, hz0, hz1, hz2⟩ := info_partsW u8_info
 unfold maxLen at hn
 have hln : l.length = n := h.1
 have hle : l.length ≤ n := by omega
 have hge : n ≤ l.length := by omega
 have HN := Lib.hid hln
 have hlt0 : (encLs encWt l).length = (encI (n : Int)).length + (l.flatMap encWt).length := by unfold encLs; rw [List.length_append, hln]
 have hl1 : (encI (n : Int)).length + (l.flatMap encWt).length ≤ 1000000000000 := by omega
 have HL := Lib.hid hl1
 clear hln hlt0 hlen hl1
 have HX := Below.refl w.heap.size w
 go_enter Tryz.func135, Tryz.ntmps135
 go_wp2_with fail
 refine (xint (n : Int) _ (by omega) (by omega)).mono ?_
 rintro e w1 ⟨A1, q1, rfl, hq1, hm1, hown1, hb1⟩
 have hrow1 : RowRel w (encI (n : Int)) (.slice A1 (encI (n : Int)).length q1) w1 := ⟨hown1, hb1⟩
 go_wp2_with fail
 go_loopw [3, 4] (fun out i wr => ∃ k : Nat, k ≤ n ∧ i = .int .i64 (k : Int) ∧ RowRel w (encI (n : Int) ++ (l.take k).flatMap encWt) out wr) (fun _ i _ => n - (intOf i).toNat)
 case atStart => exact ⟨0, by omega, rfl, by simpa using hrow1⟩
 case round =>
  clear hown1 hb1 hrow1 hq1 hm1
  obtain ⟨k, hk, rfl, hrow⟩ := hrel
  obtain ⟨P0, HP0, LP0⟩ := named (encI (n : Int)) ((l.take k).flatMap encWt)
  rw [← HP0.out] at hrow
  obtain ⟨A0, q0, rfl, hq0, hm0⟩ := own_form hrow.1
  by_cases hlt : k < n
  · obtain ⟨ad, a, rfl, hl, hbk, hok, C0, C1, C2, C3⟩ := h.wt hlt
    have hsz : a.key.size ≤ (encKy a.key).length := by { have e : a.key.size = a.key.data.toList.length := (Array.length_toList (xs := a.key.data)).symm; unfold encKy encT; rw [List.length_append]; omega }
    have hd1 : decide ((k : Int) < (n : Int)) = true := by simp; omega
    have hk0 : (0 : Int) ≤ (k : Int) := by omega
    have hk1 : (k : Int) < (n : Int) := by omega
    have HT := Lib.hid (flat_snoc encWt hl)
    have hfl : ((l.take k).flatMap encWt).length + (encWt a).length ≤ (l.flatMap encWt).length := by
        have h1 := flat_take_le encWt l (k + 1)
        rw [HT.out, List.length_append] at h1; exact h1
    have HK := Lib.hid hfl
    have HE : RowKit.Hid ((encWt a).length = (encKy a.key).length + (encVl a.v).length) := Lib.hid (by unfold encWt; simp only [List.length_append])
    clear hl hfl
    have c0_0 : wr.cell? (ad.add (k * 4)) = some (.string a.key) := (hrow.2.cell (p := (ad.add (k * 4))) hbk).trans C0
    have c0_1 : wr.cell? ⟨(ad.add (k * 4)).block, (ad.add (k * 4)).off + 1, none⟩ = some (.int .i64 a.v.k) := (hrow.2.cell (p := ⟨(ad.add (k * 4)).block, (ad.add (k * 4)).off + 1, none⟩) hbk).trans C1
    have c0_2 : wr.cell? ⟨(ad.add (k * 4)).block, (ad.add (k * 4)).off + 2, none⟩ = some (.float .f64 a.v.n) := (hrow.2.cell (p := ⟨(ad.add (k * 4)).block, (ad.add (k * 4)).off + 2, none⟩) hbk).trans C2
    have c0_3 : wr.cell? ⟨(ad.add (k * 4)).block, (ad.add (k * 4)).off + 3, none⟩ = some (.string a.v.t) := (hrow.2.cell (p := ⟨(ad.add (k * 4)).block, (ad.add (k * 4)).off + 3, none⟩) hbk).trans C3
    have LL : RowKit.Hid (P0.length + (encWt a).length ≤ 1000000000000) := Lib.hid (by have h1 := LP0.out; have h2 := HL.out; have h3 := HK.out; omega)
    have LE := HE
    go_wp2_with fail
    refine (xtext a.key _ (by have := LL.out; have := LE.out; omega)).mono ?_
    rintro e w1 ⟨A1, q1, rfl, hq1, hm1, hown1, hb1⟩
    have hrow1 := hrow.below hb1
    have z1a : (P0).length + (encKy a.key).length ≤ maxLen := by unfold maxLen; have := LL.out; have := LE.out; omega
    have z1b : ((P0).length + (encKy a.key).length) * 1 ≤ 140737488355328 := by have := LL.out; have := LE.out; omega
    go_wp2_with (at_builtin; refine wpList_append_any _ rfl _ _ _ rfl (w).heap.size 5 i0 _ 1 1 Tryz.underlying48 hi0 hz0 hz1 hz2 rfl (by omega) (.slice A0 P0.length q0) _ (bytesV (P0)) (by rfl) hrow1.1 w1.heap.size A1 (encKy a.key).length q1 (bytesV (encKy a.key)) (by rfl) (Reads.of_own hown1) (bytesV_one _) z1a z1b hrow1.2.size ?_; intro v1' w1' hown1' hg1' hat1'; have hr1 := hrow1.push (Below.refl _ _) hown1' hg1'; obtain ⟨P1, HP1, LP1⟩ := named (P0) (encKy a.key); rw [← HP1.out] at hr1; obtain ⟨A1', q1', rfl, hq1', hm1'⟩ := own_form hr1.1; have c1_0 : (w1').cell? (ad.add (k * 4)) = some (.string a.key) := (hr1.2.cell (p := (ad.add (k * 4))) hbk).trans C0; have c1_1 : (w1').cell? ⟨(ad.add (k * 4)).block, (ad.add (k * 4)).off + 1, none⟩ = some (.int .i64 a.v.k) := (hr1.2.cell (p := ⟨(ad.add (k * 4)).block, (ad.add (k * 4)).off + 1, none⟩) hbk).trans C1; have c1_2 : (w1').cell? ⟨(ad.add (k * 4)).block, (ad.add (k * 4)).off + 2, none⟩ = some (.float .f64 a.v.n) := (hr1.2.cell (p := ⟨(ad.add (k * 4)).block, (ad.add (k * 4)).off + 2, none⟩) hbk).trans C2; have c1_3 : (w1').cell? ⟨(ad.add (k * 4)).block, (ad.add (k * 4)).off + 3, none⟩ = some (.string a.v.t) := (hr1.2.cell (p := ⟨(ad.add (k * 4)).block, (ad.add (k * 4)).off + 3, none⟩) hbk).trans C3)
    clear z1a z1b hown1' hg1' hat1' hrow1 hown1 hb1
    go_wp2_with fail
    refine (xPut a.v _ hok.2 (by have := LL.out; have := LE.out; omega)).mono ?_
    rintro e w2 ⟨A2, q2, rfl, hq2, hm2, hown2, hb2⟩
    have hrow2 := hr1.below hb2
    have z2a : (P1).length + (encVl a.v).length ≤ maxLen := by unfold maxLen; have := LL.out; have := LE.out; have := LP1.out; omega
    have z2b : ((P1).length + (encVl a.v).length) * 1 ≤ 140737488355328 := by have := LL.out; have := LE.out; have := LP1.out; omega
    go_wp2_with (at_builtin; refine wpList_append_any _ rfl _ _ _ rfl (w).heap.size 5 i0 _ 1 1 Tryz.underlying48 hi0 hz0 hz1 hz2 rfl (by omega) (.slice A1' P1.length q1') _ (bytesV (P1)) (by rfl) hrow2.1 w2.heap.size A2 (encVl a.v).length q2 (bytesV (encVl a.v)) (by rfl) (Reads.of_own hown2) (bytesV_one _) z2a z2b hrow2.2.size ?_; intro v2' w2' hown2' hg2' hat2'; have hr2 := hrow2.push (Below.refl _ _) hown2' hg2'; obtain ⟨P2, HP2, LP2⟩ := named (P1) (encVl a.v); rw [← HP2.out] at hr2; obtain ⟨A2', q2', rfl, hq2', hm2'⟩ := own_form hr2.1; have c2_0 : (w2').cell? (ad.add (k * 4)) = some (.string a.key) := (hr2.2.cell (p := (ad.add (k * 4))) hbk).trans C0; have c2_1 : (w2').cell? ⟨(ad.add (k * 4)).block, (ad.add (k * 4)).off + 1, none⟩ = some (.int .i64 a.v.k) := (hr2.2.cell (p := ⟨(ad.add (k * 4)).block, (ad.add (k * 4)).off + 1, none⟩) hbk).trans C1; have c2_2 : (w2').cell? ⟨(ad.add (k * 4)).block, (ad.add (k * 4)).off + 2, none⟩ = some (.float .f64 a.v.n) := (hr2.2.cell (p := ⟨(ad.add (k * 4)).block, (ad.add (k * 4)).off + 2, none⟩) hbk).trans C2; have c2_3 : (w2').cell? ⟨(ad.add (k * 4)).block, (ad.add (k * 4)).off + 3, none⟩ = some (.string a.v.t) := (hr2.2.cell (p := ⟨(ad.add (k * 4)).block, (ad.add (k * 4)).off + 3, none⟩) hbk).trans C3)
    clear z2a z2b hown2' hg2' hat2' hrow2 hown2 hb2
    go_roundw
    case rel =>
        refine ⟨k + 1, by omega, by go_num, ?_⟩
        have HQ : encI (n : Int) ++ (l.take (k + 1)).flatMap encWt = P2 := by rw [HT.out, HP2.out, HP1.out, HP0.out]; simp only [encWt, List.append_assoc]
        rw [HQ]
        exact hr2
    case measure => simp [intOf]; omega
  · have hd1 : decide ((k : Int) < (n : Int)) = false := by simp; omega
    go_wp2_with fail
    go_ret
    have HQ : encLs encWt l = P0 := by rw [HP0.out, flat_all encWt (by omega)]; unfold encLs; rw [HN.out]
    rw [HQ]
    exact hrow.post
end Go.Proofs.YthdmanadhbpogaaGreat
/- Plain: the bytes of a record that weighs no more than 20000 are few. -/
namespace Go.Proofs.YthdmanadhbpogaaGreat
set_option linter.unusedVariables false
open Go.RowKit Fl
theorem Sl.mem {α : Type} {R : Rel α} {size : Nat} {w : World} {B n : Nat} {A : Option Addr} {l : List α} (h : Sl R size w B A n l) {a : α} (ha : a ∈ l) : ∃ cs, R w B cs a := by
 obtain ⟨i, hi⟩ := List.mem_iff_getElem?.1 ha
 obtain ⟨ad, cs, _, _, _, _, hr⟩ := h.2 i a hi
 exact ⟨cs, hr⟩
theorem ba_size (s : ByteArray) : s.data.toList.length = s.size := Array.length_toList (xs := s.data)
theorem lenKy {s : ByteArray} (h : s.size ≤ 140737488351232) : ((encKy s).length : Int) ≤ 10 * wtT s := by
 have h1 := ba_size s
 have h2 := encI_len (n := (s.data.toList.length : Int)) (by omega) (by omega)
 unfold encKy encT wtT
 rw [List.length_append]
 omega
theorem lenVl {v : Vl} (h : v.ok) : ((encVl v).length : Int) ≤ 20 + (v.t.size : Int) := by
 have hv := h.2.2
 have e1 : ∀ k : Int, k = 0 ∨ k = 1 ∨ k = 2 → (encI k).length = 1 := by rintro k (rfl | rfl | rfl) <;> rfl
 have h1 := ba_size v.t
 have h2 := encI_len (n := (v.t.data.toList.length : Int)) (by omega) (by omega)
 have h8 : (encF64 v.n).length = 8 := leW_len 8 _
 unfold encVl
 split
 · split
   · rw [List.length_append, e1 1 (by omega), h8]; omega
   · split
     · rw [List.length_append, e1 2 (by omega)]; unfold encKy encT; rw [List.length_append]; omega
     · rw [e1 0 (by omega)]; omega
 · rw [e1 0 (by omega)]; omega
theorem lenWt {a : Wt} (h : a.ok) : ((encWt a).length : Int) ≤ 30 * wtW a := by
 have h1 := lenKy h.1
 have h2 := lenVl h.2
 unfold wtT at h1
 unfold encWt wtW
 rw [List.length_append]
 omega
theorem lenSp {s : Sp} (ok : s.ok) : ((encSp s).length : Int) ≤ 30 := by
 have h1 := encI_len ok.1.1 ok.1.2
 have h2 := encI_len ok.2.1.1 ok.2.1.2
 have h3 := encI_len ok.2.2.1 ok.2.2.2
 unfold encSp; rw [List.length_append, List.length_append]; omega
theorem lenTx {s : Tx} (ok : s.ok) : ((encTx s).length : Int) ≤ 30 := by
 have h1 := encI_len ok.1.1 ok.1.2
 have h2 := encI_len ok.2.1.1 ok.2.1.2
 have h3 := encI_len ok.2.2.1 ok.2.2.2
 unfold encTx; rw [List.length_append, List.length_append]; omega
theorem lenVn {a : Vn} (h : a.ok) : ((encVn a).length : Int) ≤ 50 * wtV a := by
 have h1 := lenSp h.1
 have h2 := lenVl h.2
 unfold encVn wtV
 rw [List.length_append]
 omega
theorem lenN {n : Nat} (h : n ≤ 1000000000) : ((encI (n : Int)).length : Int) ≤ 10 := by
 have := encI_len (n := (n : Int)) (by omega) (by omega)
 omega
theorem lenHs {w : World} {B : Nat} {cs : List Value} {h : Hs} (hr : HsRel w B cs h) (hl : h.vs.length ≤ 1000000000) : ((encHs h).length : Int) ≤ 50 * wtH h := by
 obtain ⟨v, rfl, hk, A, n, c, rfl, _, _, hS⟩ := hr
 have h1 := lenKy hk
 have h2 := flat_leC encVn wtV 50 h.vs fun a ha => by obtain ⟨_, _, hok⟩ := hS.mem ha; exact lenVn hok
 have h3 := lenN hl
 unfold wtT at h1
 unfold encHs encLs wtH
 rw [List.length_append, List.length_append]
 omega
theorem lenPn {w : World} {B : Nat} {cs : List Value} {p : Pn} (hr : PnRel w B cs p) (hl : p.r.length ≤ 1000000000) (hl2 : p.w.length ≤ 1000000000) : ((encPn p).length : Int) ≤ 80 * wtP p := by
 obtain ⟨v, q, rfl, ht, hs, ⟨A, n, c, rfl, _, _, hS⟩, A2, n2, c2, rfl, _, _, hS2⟩ := hr
 have h1 := lenTx ht
 have h2 := lenSp hs
 have h3 := flat_leC encKy wtT 10 p.r fun a ha => by obtain ⟨_, _, hok⟩ := hS.mem ha; exact lenKy hok
 have h4 := flat_leC encWt wtW 30 p.w fun a ha => by obtain ⟨_, _, hok⟩ := hS2.mem ha; exact lenWt hok
 have h5 := lenN hl
 have h6 := lenN hl2
 have h7 := sum_nn wtT wtT_nn p.r
 have h8 := sum_nn wtW wtW_nn p.w
 unfold encPn encLs wtP
 rw [List.length_append, List.length_append, List.length_append, List.length_append, List.length_append]
 omega
theorem lenSt {w : World} {s : Stt} {A1 A2 : Option Addr} {n1 n2 : Nat} (hr : s.r.ok) (hf : s.f.ok) (hc : s.c.ok) (h1 : Sl HsRel 2 w w.heap.size A1 n1 s.h) (h2 : Sl PnRel 8 w w.heap.size A2 n2 s.p) (h : weighS 20000 s ≤ 20000) :
 ((encSt s).length : Int) ≤ 200 + 80 * ((s.h.map wtH).sum + (s.p.map wtP).sum) ∧ SmallH s.h ∧ SmallP s.p := by
 have hg := weighS_gain (by omega) s h
 have hsm := weighS_small (by omega) (by omega) h
 have k1 := sum_nn wtH wtH_nn s.h
 have k2 := sum_nn wtP wtP_nn s.p
 have l1 := len_sum wtH (fun a => by unfold wtH; have := sum_nn wtV wtV_nn a.vs; omega) s.h
 have l2 := len_sum wtP (fun a => by unfold wtP; have := sum_nn wtT wtT_nn a.r; have := sum_nn wtW wtW_nn a.w; omega) s.p
 have f1 := flat_leC encHs wtH 50 s.h fun a ha => by
  obtain ⟨_, hok⟩ := h1.mem ha
  refine lenHs hok ?_
  have m1 := mem_sum wtH wtH_nn ha
  have m2 := len_sum wtV (fun a => by unfold wtV; omega) a.vs
  have m0 : wtH a = 1 + (a.key.size : Int) + (a.vs.map wtV).sum := rfl
  omega
 have f2 := flat_leC encPn wtP 80 s.p fun a ha => by
  obtain ⟨_, hok⟩ := h2.mem ha
  have m1 := mem_sum wtP wtP_nn ha
  have m2 := len_sum wtT (fun a => by unfold wtT; omega) a.r
  have m3 := len_sum wtW (fun a => by unfold wtW; omega) a.w
  have m4 := sum_nn wtT wtT_nn a.r
  have m5 := sum_nn wtW wtW_nn a.w
  have m0 : wtP a = 1 + (a.r.map wtT).sum + (a.w.map wtW).sum := rfl
  exact lenPn hok (by omega) (by omega)
 have e1 := encI_len hr.1.1 hr.1.2
 have e2 := encI_len hr.2.1.1 hr.2.1.2
 have e3 : (encF64 s.r.lo).length = 8 := leW_len 8 _
 have e4 : (encF64 s.r.hi).length = 8 := leW_len 8 _
 have e5 := lenSp hf
 have e6 := lenSp hc
 have e7 := lenN (n := s.h.length) (by omega)
 have e8 := lenN (n := s.p.length) (by omega)
 refine ⟨?_, hsm⟩
 unfold encSt encRg encLs
 simp only [List.length_append]
 omega
theorem rec_small {w : World} {r : Rc} {h : Hds} (ok : r.ok) (i : RcIn w r h) (hw : weighRec 20000 r ≤ 20000) : RcSm r h ∧ (encRc r).length ≤ 2000000 := by
 obtain ⟨hg, hS⟩ := weighRec_gain (by omega) r hw
 obtain ⟨hSt, hsm1, hsm2⟩ := lenSt ok.rg ok.fl ok.cl i.hs i.pn hS
 have k1 := sum_nn wtH wtH_nn r.st.h
 have k2 := sum_nn wtP wtP_nn r.st.p
 have k3 := sum_nn wtT wtT_nn r.rd
 have k4 := sum_nn wtW wtW_nn r.wr
 have k5 := sum_nn wtW wtW_nn r.pr
 have l3 := len_sum wtT (fun a => by unfold wtT; omega) r.rd
 have l4 := len_sum wtW (fun a => by unfold wtW; omega) r.wr
 have l5 := len_sum wtW (fun a => by unfold wtW; omega) r.pr
 have f3 := flat_leC encKy wtT 10 r.rd fun a ha => by obtain ⟨_, _, hok⟩ := i.rd.mem ha; exact lenKy hok
 have f4 := flat_leC encWt wtW 30 r.wr fun a ha => by obtain ⟨_, _, hok⟩ := i.wr.mem ha; exact lenWt hok
 have f5 := flat_leC encWt wtW 30 r.pr fun a ha => by obtain ⟨_, _, hok⟩ := i.pr.mem ha; exact lenWt hok
 have f6 := flat_leC encI (fun _ => 1) 10 r.ps fun a ha => by
  obtain ⟨_, _, hok⟩ := i.ps.mem ha
  have := encI_len hok.1 hok.2
  omega
 have s6 : ∀ l : List Int, (l.map fun _ => (1 : Int)).sum = (l.length : Int) := by
  intro l
  induction l with
  | nil => rfl
  | cons a l ih => simp only [List.map_cons, List.sum_cons, List.length_cons, ih]; omega
 rw [s6] at f6
 have g1 := lenN (n := r.rd.length) (by omega)
 have g2 := lenN (n := r.wr.length) (by omega)
 have g3 := lenN (n := r.ps.length) (by omega)
 have g4 := lenN (n := r.pr.length) (by omega)
 have e1 := encI_len ok.k.1 ok.k.2
 have e2 := encI_len ok.n.1 ok.n.2
 have e3 : (encF64 r.pt).length = 8 := leW_len 8 _
 have e4 := lenSp ok.s
 have e5 := lenSp ok.pv
 have e6 := lenTx ok.t
 have e7 : (encB r.cm).length = 1 := rfl
 refine ⟨⟨by rw [← i.rd.1]; omega, by rw [← i.wr.1]; omega, by rw [← i.ps.1]; omega, by rw [← i.pr.1]; omega, hsm1, hsm2⟩, ?_⟩
 have hB : (encBody r).length ≤ 1900000 := by
  unfold encBody encPn encLs
  by_cases c1 : r.k = 1
  · rw [if_pos c1]; omega
  rw [if_neg c1]
  by_cases c2 : r.k = 2
  · rw [if_pos c2]; omega
  rw [if_neg c2]
  by_cases c3 : r.k = 3
  · rw [if_pos c3]; simp only [List.length_append]; omega
  rw [if_neg c3]
  by_cases c4 : r.k = 4
  · rw [if_pos c4]; simp only [List.length_append]; omega
  rw [if_neg c4]
  by_cases c5 : r.k = 5
  · rw [if_pos c5]; omega
  rw [if_neg c5]
  by_cases c6 : r.k = 6
  · rw [if_pos c6]; simp only [List.length_append]; omega
  rw [if_neg c6]
  by_cases c7 : r.k = 7
  · rw [if_pos c7]; omega
  rw [if_neg c7]
  by_cases c8 : r.k = 8
  · rw [if_pos c8]; omega
  rw [if_neg c8]
  by_cases c9 : r.k = 9
  · rw [if_pos c9]; simp only [List.length_append]; omega
  rw [if_neg c9]
  by_cases c10 : r.k = 10
  · rw [if_pos c10]; omega
  rw [if_neg c10]
  by_cases c11 : r.k = 11
  · rw [if_pos c11]; simp only [List.length_append]; omega
  rw [if_neg c11]
  by_cases c12 : r.k = 12
  · rw [if_pos c12]; simp only [List.length_append]; omega
  rw [if_neg c12]
  simp
 unfold encRc
 rw [List.length_append]
 omega
end Go.Proofs.YthdmanadhbpogaaGreat
