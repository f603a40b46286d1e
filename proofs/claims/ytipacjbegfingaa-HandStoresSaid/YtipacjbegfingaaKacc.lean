/- The walk of the document's At: what is read at a stamp. -/
import Derived.Test.YtipacjbegfingaaKabg
import Derived.Test.YtipacjbegfingaaKabi
namespace Go.Proofs.Ytipacjbegfingaa
set_option linter.unusedVariables false
open Go.RowKit Fl
attribute [local go_sem] run_store_float

theorem alloc_vlH (ev : Operand → Value) (op : Oper) (hop : op.op = .alloc 53) (w : World) : (execOp ev op).run Try.prog w = .ok (.value (.pointer (some ⟨w.heap.size, 0, none⟩))) (w.alloc (.cells #[.int .i64 0, .float .f64 0, .string ⟨#[]⟩] 53)) := by
  unfold execOp
  simp only [hop]
  go_simp
theorem pr_infoH : (Try.prog.info? 55).map (fun i => (i.zero, i.size, i.bytes)) = some (some (.agg #[.string ⟨#[]⟩, .int .i64 0, .float .f64 0, .string ⟨#[]⟩]), 4, 48) := by kernel_rfl
def atF (s : Sp) (H : List Hs) (h : Hs) : Option Wt := if (lastUp s (rvers h.key H)).v.k ≠ 0 then some ⟨h.key, (lastUp s (rvers h.key H)).v⟩ else none
theorem at_snoc {s : Sp} {H l : List Hs} {k : Nat} {a : Hs} (h : l[k]? = some a) : (l.take (k + 1)).filterMap (atF s H) = (l.take k).filterMap (atF s H) ++ (if (lastUp s (rvers a.key H)).v.k ≠ 0 then [⟨a.key, (lastUp s (rvers a.key H)).v⟩] else []) := by
  rw [List.take_add_one, h, List.filterMap_append]
  congr 1
  show [a].filterMap _ = _
  rw [List.filterMap_cons, List.filterMap_nil]
  unfold atF
  by_cases hk : (lastUp s (rvers a.key H)).v.k ≠ 0
  · rw [if_pos hk, if_pos hk]
  · rw [if_neg hk, if_neg hk]
def AtLRel (s : Sp) (H : List Hs) (w : World) (v i : Value) (wr : World) : Prop :=
  ∃ k : Nat, k ≤ H.length ∧ i = .int .i64 (k : Int) ∧ OwnL Wt.cells 55 4 (w.heap.size + 1) wr v ((H.take k).filterMap (atF s H)) ∧ Blk wr w.heap.size 26 s.arr ∧ Below w.heap.size w wr
set_option maxRecDepth 100000 in
set_option maxHeartbeats 8000000 in
theorem rAt_any (g : Nat) (B1 : Option Addr) (m1 d1 : Nat) (vP : Value) (L : Sp) (Hl : List Hs) (s : Sp) (w : World) (h : RSh w g B1 m1 d1 vP L Hl) (hH : Hl.length ≤ 3000000) :
    Calls Try.prog 15 #[.pointer (some ⟨g, 0, none⟩), s.val] w fun e w' => ∃ v, e = .returned v ∧ OwnL Wt.cells 55 4 w.heap.size w' v (atL s Hl) ∧ Below w.heap.size w w' := by
  obtain ⟨i0, hi0, hz0, hz1, hz2⟩ := info_parts pr_infoH
  have hm := h.m1
  unfold maxLen at hm
  have hl := h.hs.1
  have hge : m1 ≤ Hl.length := by omega
  have hle : Hl.length ≤ m1 := by omega
  have hX : Below w.heap.size w (w.alloc (.cells s.arr 26)) := by go_grown
  have i3 : Blk (w.alloc (.cells s.arr 26)) w.heap.size 26 s.arr := Blk.new _ _ _
  clear hl
  go_enter Try.func15, Try.ntmps15
  go_wp2
  go_loopw [5, 6] (fun v i wr => AtLRel s Hl w v i wr) (fun _ i _ => m1 - (intOf i).toNat)
  case atStart => exact ⟨0, by omega, rfl, OwnL.nil _, i3, hX⟩
  case round =>
    clear i3 hX
    obtain ⟨k, hk, rfl, hown, b3, hb⟩ := hrel
    have hzz := hb.size
    have hr := h.below hb
    obtain ⟨gl, k0, k1, -, -, -⟩ := hr.blk.fiveC
    obtain ⟨l3, y0, y1, y2⟩ := b3.three
    obtain ⟨A5, q5, rfl, hq5, hq5m⟩ := hown.form
    have hlen5 : ((Hl.take k).filterMap (atF s Hl)).length ≤ 3000000 := Nat.le_trans (List.length_filterMap_le _ _) (by rw [List.length_take]; omega)
    by_cases hlt : k < m1
    · obtain ⟨ad, a, A', n', c', rfl, ha, hbk, hok, c0, c1, hn', hc', hsv⟩ := hr.hist.hs hlt
      have hd1 : decide ((k : Int) < (m1 : Int)) = true := by simp; omega
      have hk0 : (0 : Int) ≤ (k : Int) := by omega
      have hk1 : (k : Int) < (m1 : Int) := by omega
      have HS := Lib.hid (at_snoc (s := s) (H := Hl) ha)
      have hU := fun w' (hw : Below wr.heap.size wr w') => rupto3_any g (some ad) m1 d1 vP L Hl a.key s w' (hr.below hw)
      clear ha
      generalize lastUp s (rvers a.key Hl) = u at *
      generalize (Hl.take k).filterMap (atF s Hl) = T1 at *
      go_wp2_with fail
      have s0 : Below wr.heap.size wr wr.drew := (Below.refl _ _).drew
      have hz1 := hU _ s0
      refine wp_region_held_drew (S := fun w' => w'.cell? ⟨g, 0, none⟩ = some (.slice (some ad) m1 d1) ∧ w'.cell? (ad.add (k * 2)) = some (.string a.key) ∧ w'.cell? ⟨w.heap.size, 0, none⟩ = some (.int .i64 s.w) ∧ w'.cell? ⟨w.heap.size, 1, none⟩ = some (.int .i64 s.l) ∧ w'.cell? ⟨w.heap.size, 2, none⟩ = some (.int .i64 s.n)) (by kernel_rfl) ⟨k0, c0, y0, y1, y2⟩ (fun hHeld => ?_)
      refine t0 0 17 ?_
      go_frame
      refine t0 1 18 ?_
      go_frame
      refine t0 2 19 ?_
      go_frame
      refine t0 3 20 ?_
      go_frame
      refine t0 4 21 ?_
      go_frame
      refine t0 5 22 ?_
      go_frame
      refine t0 6 23 ?_
      go_frame
      refine t0 7 24 ?_
      go_frame
      refine t0 8 25 ?_
      go_frame
      refine t0 9 26 ?_
      go_frame
      have hf : ∀ W : World, (Instr.field 98 (.agg (seenArr a.key u)) 1).run Try.prog W = .ok (.agg #[.int .i64 u.v.k, .float .f64 u.v.n, .string u.v.t]) W := fun _ => by kernel_rfl
      have sA : Below wr.heap.size wr ((wr.alloc (.cells #[.int .i64 0, .float .f64 0, .string ⟨#[]⟩] 53)).drew) := ((Below.refl wr.heap.size wr).alloc (Nat.le_refl _) _).drew
      have hz2 := hU _ sA
      refine wpAnyH_ready (rs := [10, 12]) (by kernel_rfl) (by simp) ?_
      refine AllReadyH.cons (o := ⟨some 27, _, _, _, _, _⟩) rfl (fun K hK => ?callA) (AllReadyH.cons (o := ⟨some 7, _, _, _, _, _⟩) rfl (fun K hK => ?allocA) AllReadyH.nil)
      case' callA =>
        go_simp
        (with_reducible refine hz1.mono ?_)
        rintro e w5 ⟨rfl, hb5⟩
        have s5 := s0.trans (hb5.mono s0.size)
        refine hK.out _ _ ⟨(s5.cell (by exact gl)).trans k0, (s5.cell (by exact hbk)).trans c0, (s5.cell (by exact l3)).trans y0, (s5.cell (by exact l3)).trans y1, (s5.cell (by exact l3)).trans y2⟩ (fun hHeld => ?_)
        clear hK K
        try go_frame
        refine t0 11 28 ?_
        go_frame
        clear hf
        have bV := Blk.new w5 53 #[.int .i64 0, .float .f64 0, .string ⟨#[]⟩]
        have s6 := s5.alloc s5.size (.cells #[.int .i64 0, .float .f64 0, .string ⟨#[]⟩] 53)
        refine wpAnyH_alloc (i := 12) (by kernel_rfl) rfl rfl _ rfl (.cells #[.int .i64 0, .float .f64 0, .string ⟨#[]⟩] 53) (alloc_vlH _ _ rfl _) ⟨(s6.cell (by exact gl)).trans k0, (s6.cell (by exact hbk)).trans c0, (s6.cell (by exact l3)).trans y0, (s6.cell (by exact l3)).trans y1, (s6.cell (by exact l3)).trans y2⟩ ?_
        go_frame
        have s7 := below_setRow s6 (g := w5.heap.size) s5.size #[.int .i64 u.v.k, .float .f64 u.v.n, .string u.v.t]
        refine wpAnyH_store_rowE (i := 13) (by kernel_rfl) rfl rfl _ _ _ rfl w5.heap.size #[.int .i64 u.v.k, .float .f64 u.v.n, .string u.v.t] (by kernel_rfl) (by kernel_rfl) _ #[.int .i64 0, .float .f64 0, .string ⟨#[]⟩] bV (by kernel_rfl) rfl (by kernel_rfl) ⟨(s7.cell (by exact gl)).trans k0, (s7.cell (by exact hbk)).trans c0, (s7.cell (by exact l3)).trans y0, (s7.cell (by exact l3)).trans y1, (s7.cell (by exact l3)).trans y2⟩ ?_
        intro w9 hw9
        have s9 : Below wr.heap.size wr w9 := by rw [hw9]; exact s7
        have bW : Blk w9 w5.heap.size 53 #[.int .i64 u.v.k, .float .f64 u.v.n, .string u.v.t] := by rw [hw9]; exact bV.setRow _
        obtain ⟨bb, hbb⟩ : ∃ bb, bb = w5.heap.size := ⟨_, rfl⟩
        have hbl : wr.heap.size ≤ bb := by rw [hbb]; exact s5.size
        rw [← hbb] at bW ⊢
        clear s0 s5 s6 s7 hw9 bV hbb hb5 sA hz1 hz2 hU
        go_frame
        refine wpAnyH_done (by kernel_rfl) ?_ _
      case' allocA =>
        go_simp
        refine hK.out _ _ ⟨(sA.cell (by exact gl)).trans k0, (sA.cell (by exact hbk)).trans c0, (sA.cell (by exact l3)).trans y0, (sA.cell (by exact l3)).trans y1, (sA.cell (by exact l3)).trans y2⟩ (fun hHeld => ?_)
        clear hK K
        try go_frame
        refine wpAnyH_ready (rs := [10]) (by kernel_rfl) (by simp) ?_
        refine AllReadyH.cons (o := ⟨some 27, _, _, _, _, _⟩) rfl (fun K hK => ?_) AllReadyH.nil
        go_simp
        (with_reducible refine hz2.mono ?_)
        rintro e w5 ⟨rfl, hb5⟩
        have s5 := sA.trans (hb5.mono sA.size)
        refine hK.out _ _ ⟨(s5.cell (by exact gl)).trans k0, (s5.cell (by exact hbk)).trans c0, (s5.cell (by exact l3)).trans y0, (s5.cell (by exact l3)).trans y1, (s5.cell (by exact l3)).trans y2⟩ (fun hHeld => ?_)
        clear hK K
        try go_frame
        refine t0 11 28 ?_
        go_frame
        clear hf
        have bV : Blk w5 wr.heap.size 53 #[.int .i64 0, .float .f64 0, .string ⟨#[]⟩] := (Blk.new wr 53 #[.int .i64 0, .float .f64 0, .string ⟨#[]⟩]).drew.below hb5 (by simp [World.drew])
        have s7 := below_setRow s5 (g := wr.heap.size) (Nat.le_refl _) #[.int .i64 u.v.k, .float .f64 u.v.n, .string u.v.t]
        refine wpAnyH_store_rowE (i := 13) (by kernel_rfl) rfl rfl _ _ _ rfl wr.heap.size #[.int .i64 u.v.k, .float .f64 u.v.n, .string u.v.t] (by kernel_rfl) (by kernel_rfl) _ #[.int .i64 0, .float .f64 0, .string ⟨#[]⟩] bV (by kernel_rfl) rfl (by kernel_rfl) ⟨(s7.cell (by exact gl)).trans k0, (s7.cell (by exact hbk)).trans c0, (s7.cell (by exact l3)).trans y0, (s7.cell (by exact l3)).trans y1, (s7.cell (by exact l3)).trans y2⟩ ?_
        intro w9 hw9
        have s9 : Below wr.heap.size wr w9 := by rw [hw9]; exact s7
        have bW : Blk w9 wr.heap.size 53 #[.int .i64 u.v.k, .float .f64 u.v.n, .string u.v.t] := by rw [hw9]; exact bV.setRow _
        obtain ⟨bb, hbb⟩ : ∃ bb, bb = wr.heap.size := ⟨_, rfl⟩
        have hbl : wr.heap.size ≤ bb := by rw [hbb]; exact Nat.le_refl _
        rw [← hbb] at bW ⊢
        clear s0 s5 s7 hw9 bV hbb hb5 sA hz1 hz2 hU
        go_frame
        refine wpAnyH_done (by kernel_rfl) ?_ _
      all_goals
        obtain ⟨lW, z0, z1, z2⟩ := bW.three
        have k09 := (s9.cell (p := ⟨g, 0, none⟩) gl).trans k0
        have c09 := (s9.cell (p := ad.add (k * 2)) hbk).trans c0
        have h9z := s9.size
        have b39 := b3.below s9 l3
        have hb9 := hb.trans (s9.mono hzz)
        have hown9 := hown.below s9
        by_cases hk0' : u.v.k = 0
        case' pos =>
          have hd2 : (u.v.k != 0) = false := by simp [hk0']
          have HS2 := Lib.hid (HS.out.trans (by rw [if_neg (fun e => e hk0'), List.append_nil]))
          clear HS
          go_wp2
          go_roundw
          case rel =>
            refine ⟨k + 1, by omega, by go_num, ?_, b39, hb9⟩
            rw [HS2.out]
            exact hown9
          case measure => simp [intOf]; omega
        case' neg =>
          have hd2 : (u.v.k != 0) = true := by simp [hk0']
          have HS2 := Lib.hid (HS.out.trans (by rw [if_pos hk0']))
          clear HS
          go_wp2_with fail
          refine wp_region_held_drew (S := fun w' => w'.cell? ⟨g, 0, none⟩ = some (.slice (some ad) m1 d1) ∧ w'.cell? (ad.add (k * 2)) = some (.string a.key) ∧ w'.cell? ⟨bb, 0, none⟩ = some (.int .i64 u.v.k) ∧ w'.cell? ⟨bb, 1, none⟩ = some (.float .f64 u.v.n) ∧ w'.cell? ⟨bb, 2, none⟩ = some (.string u.v.t)) (by kernel_rfl) ⟨k09, c09, z0, z1, z2⟩ (fun hHeld => ?_)
          refine t0 0 32 ?_
          go_frame
          refine t0 1 33 ?_
          go_frame
          refine t0 2 34 ?_
          go_frame
          refine t0 3 35 ?_
          go_frame
          refine t0 4 36 ?_
          go_frame
          refine t0 5 37 ?_
          go_frame
          refine t0 6 38 ?_
          go_frame
          refine t0 7 39 ?_
          go_frame
          refine t0 8 40 ?_
          go_frame
          refine t0 9 41 ?_
          go_frame
          refine t0 10 42 ?_
          go_frame
          have hgl : g < w.heap.size := h.blk.lt
          have hal : (ad.add (k * 2)).block < w.heap.size := by
            obtain ⟨_, t, cs, h2⟩ := h.row ad rfl
            rw [block_of_add]; exact h2.lt
          have kw : w.cell? ⟨g, 0, none⟩ = some (.slice (some ad) m1 d1) := h.blk.cell 0
          have cw : w.cell? (ad.add (k * 2)) = some (.string a.key) := (hb.cell hal).symm.trans c0
          have sP : Below w9.heap.size w9 ((w9.alloc (.cells #[.string a.key, .int .i64 u.v.k, .float .f64 u.v.n, .string u.v.t] 55)).drew) := ((Below.refl w9.heap.size w9).alloc (Nat.le_refl _) _).drew
          have hbP : Below w.heap.size w ((w9.alloc (.cells #[.string a.key, .int .i64 u.v.k, .float .f64 u.v.n, .string u.v.t] 55)).drew) := hb9.trans (sP.mono hb9.size)
          have bP := bW.below sP lW
          obtain ⟨lP, p0, p1, p2⟩ := bP.three
          have hownP := hown9.below sP
          have hrd : Reads ((w9.alloc (.cells #[.string a.key, .int .i64 u.v.k, .float .f64 u.v.n, .string u.v.t] 55)).drew) (w9.heap.size + 1) 4 (some ⟨w9.heap.size, 0, none⟩) 1 (Wt.cells ⟨a.key, u.v⟩) := reads_new' w9 55 (Wt.cells ⟨a.key, u.v⟩) 4 rfl
          have hlt5 := hown.lt
          have hsz5 : w9.heap.size + 1 = ((w9.alloc (.cells #[.string a.key, .int .i64 u.v.k, .float .f64 u.v.n, .string u.v.t] 55)).drew).heap.size := by simp [World.drew]
          refine wpAnyH_ready (rs := [11]) (by kernel_rfl) (by simp) ?_
          refine AllReadyH.cons (o := ⟨some 43, _, _, _, _, _⟩) rfl (fun K hK => ?_) AllReadyH.nil
          go_simp
          refine hK.out _ _ ⟨(hbP.cell hgl).trans kw, (hbP.cell hal).trans cw, p0, p1, p2⟩ (fun hHeld => ?_)
          clear hK K
          try go_frame
          refine wpAnyH_ready (rs := [12]) (by kernel_rfl) (by simp) ?_
          refine AllReadyH.cons (o := ⟨some 44, _, _, _, _, _⟩) rfl (fun K hK => ?_) AllReadyH.nil
          refine step_append_any _ rfl _ _ _ rfl (w.heap.size + 1) 55 i0 _ 4 48 Try.underlying49 hi0 hz0 hz1 hz2 rfl (by omega) (.slice A5 T1.length q5) _ (T1.flatMap Wt.cells) (by rfl) hownP _ (some ⟨w9.heap.size, 0, none⟩) 1 1 (Wt.cells ⟨a.key, u.v⟩) (by rfl) hrd (wt_one _) (by unfold maxLen; omega) (by omega) (by simp [World.drew]; omega) ?_
          intro v3 w3 hown3 hg3 hat3
          have hbw := hbP.grown hg3 hbP.size (fun q hq => by have := (hlt5 q hq).1; omega)
          have bQ := bP.grown hg3 (fun e => by have := (hlt5 bb e.symm).2; omega)
          have b33 := (b39.below sP (Nat.lt_of_lt_of_le l3 h9z)).grown hg3 (fun e => by have := (hlt5 _ e.symm).1; omega)
          obtain ⟨lQ, r0, r1, r2⟩ := bQ.three
          have hp := OwnL.push (⟨a.key, u.v⟩ : Wt) hown3
          obtain ⟨A3, q3, rfl, hq3, hq3m⟩ := own_form hown3
          refine hK.out _ _ ⟨(hbw.cell hgl).trans kw, (hbw.cell hal).trans cw, r0, r1, r2⟩ (fun hHeld => ?_)
          clear hK K
          try go_frame
          refine t0 13 5 ?_
          go_frame
          refine wpAnyH_done (by kernel_rfl) ?_ _
          go_wp2
          go_roundw
          case rel =>
            refine ⟨k + 1, by omega, by go_num, ?_, b33, hbw⟩
            rw [HS2.out]
            exact hp
          case measure => simp [intOf]; omega
    · have hd1 : decide ((k : Int) < (m1 : Int)) = false := by simp; omega
      have HT := Lib.hid (show atL s Hl = (Hl.take k).filterMap (atF s Hl) by rw [List.take_of_length_le (by omega)]; rfl)
      go_wp2
      go_ret
      exact ⟨_, rfl, by rw [HT.out]; exact hown.mono_base (Nat.le_succ _), hb⟩
end Go.Proofs.Ytipacjbegfingaa
