/- The walk of the document's version where there is a history of the key. -/
import Derived.Test.YtipacjbegfingaaKabg
import Derived.Test.YtipacjbegfingaaKabi
namespace Go.Proofs.Ytipacjbegfingaa
set_option linter.unusedVariables false
open Go.RowKit Fl
attribute [local go_sem] run_store_float

abbrev Vn.arr (v : Vn) : Array Value := #[.int .i64 v.s.w, .int .i64 v.s.l, .int .i64 v.s.n, .int .i64 v.v.k, .float .f64 v.v.n, .string v.v.t]
def VersR (v : Vn) (l : List Vn) (w : World) (u i : Value) (wr : World) : Prop :=
  ∃ k : Nat, k ≤ l.length ∧ i = .int .i64 (k : Int) ∧ (∀ x ∈ l.take k, decide (x.s.cmp v.s < 0) = true) ∧ OwnL Vn.cells 79 6 (w.heap.size + 1) wr u (l.take k) ∧ Blk wr w.heap.size 79 v.arr ∧ Below w.heap.size w wr
set_option maxRecDepth 100000 in
set_option maxHeartbeats 8000000 in
theorem rversion_at (g : Nat) (p : Addr) (m1 d1 : Nat) (vP : Value) (L : Sp) (Hl : List Hs) (key : ByteArray) (v : Vn) (i : Nat) (hh : Hs) (w : World) (h : RSh w g (some p) m1 d1 vP L Hl) (hok : v.ok) (hi : Hl[i]? = some hh) (hat : atFrom key 0 Hl = (i : Int)) (hV : hh.vs.length ≤ 3000000) :
    Calls Try.prog 50 #[.pointer (some ⟨g, 0, none⟩), .string key, .agg v.arr] w fun e w' => e = .returned (.tuple #[]) ∧ RSh w' g (some p) m1 d1 vP L (Hl.set i ⟨hh.key, insV v hh.vs⟩) ∧ KeepN w w' ∧ Chg w w' g (some p) := by
  obtain ⟨i6, hi6, iz0, iz1, iz2⟩ := info_parts vn_info
  have hm := h.m1
  unfold maxLen at hm
  have hX : Below w.heap.size w (w.alloc (.cells v.arr 79)) := by go_grown
  have i5 : Blk (w.alloc (.cells v.arr 79)) w.heap.size 79 v.arr := Blk.new _ _ _
  have hA := rat3_any g (some p) m1 d1 vP L Hl key _ (h.below hX)
  rw [hat] at hA
  have hilt : i < m1 := by have := (List.getElem?_eq_some_iff.1 hi).1; have := h.hs.1; omega
  have hd : decide ((i : Int) < 0) = false := by simp
  have hi0 : (0 : Int) ≤ (i : Int) := by omega
  have hi1 : (i : Int) < (m1 : Int) := by omega
  have HI := Lib.hid hi
  obtain ⟨rz, rt, rcs, hrow⟩ := h.row p rfl
  have hal : (p.add (i * 2)).block < w.heap.size := by rw [block_of_add]; exact hrow.lt
  have hrow2 : Blk w (p.add (i * 2)).block rt rcs := by rw [block_of_add]; exact hrow
  have hne : (p.add (i * 2)).block ≠ g := by rw [block_of_add]; omega
  have kw : w.cell? ⟨g, 0, none⟩ = some (.slice (some p) m1 d1) := h.blk.cell 0
  obtain ⟨ad0, a0, A0, n0, c0', e0, ha0, -, -, -, dw1, -, -, hsv0⟩ := h.hist.hs (k := i) hilt
  injection e0 with e0
  subst e0
  obtain rfl : hh = a0 := Option.some.inj (hi.symm.trans ha0)
  have HK := Lib.hid (⟨h, hrow2, hne, hsv0⟩ : RSh w g (some p) m1 d1 vP L Hl ∧ Blk w (p.add (i * 2)).block rt rcs ∧ (p.add (i * 2)).block ≠ g ∧ Sl VnRel 6 w w.heap.size A0 n0 hh.vs)
  clear hrow hrow2 hsv0 ha0
  have hgw : g < w.heap.size := h.blk.lt
  clear hi hat
  go_enter Try.func50, Try.ntmps50
  go_wp2_with fail
  refine hA.mono ?_
  rintro e w1 ⟨rfl, hb1⟩
  have j5 := i5.below hb1 i5.lt
  have hX1 := hX.trans (hb1.mono hX.size)
  clear hA hb1 i5 hX
  go_wp2_with fail
  go_loopw [9, 10] (fun u i wr => VersR v hh.vs w u i wr) (fun _ i _ => hh.vs.length - (intOf i).toNat)
  case atStart => exact ⟨0, by omega, rfl, fun x hx => by simp at hx, OwnL.nil _, j5, hX1⟩
  case round =>
    clear j5 hX1
    obtain ⟨j, hj, rfl, hall, hown, b5, hb⟩ := hrel
    have hzz := hb.size
    have hr := h.below hb
    obtain ⟨gl, k0, k1, -, -, -⟩ := hr.blk.fiveC
    obtain ⟨l5, y0, y1, y2, y3, y4, y5⟩ := b5.six
    obtain ⟨ad, a, A', n', c', e, ha, hbk, hkz, c0, c1, hn', hc', hsv⟩ := hr.hist.hs (k := i) hilt
    injection e with e
    subst e
    obtain rfl : hh = a := Option.some.inj (HI.out.symm.trans ha)
    clear ha
    have hdr : some (Value.slice A' n' c') = some (.slice A0 n0 c0') := c1.symm.trans ((hb.cell (p := ⟨(p.add (i * 2)).block, (p.add (i * 2)).off + 1, none⟩) hal).trans dw1)
    injection hdr with hdr
    injection hdr with qq1 qq2 qq3
    subst qq1 qq2 qq3
    have hle1 : n' ≤ hh.vs.length := by have := hsv.1; omega
    have hle2 : hh.vs.length ≤ n' := by have := hsv.1; omega
    unfold maxLen at hc'
    have hlt5 := hown.lt
    obtain ⟨A9, q9, rfl, hq9, hq9m⟩ := hown.form
    have hlen : (hh.vs.take j).length ≤ 3000000 := Nat.le_trans (List.length_take_le _ _) (by omega)
    by_cases hgo : ∃ x, hh.vs[j]? = some x ∧ decide (x.s.cmp v.s < 0) = true
    · obtain ⟨x, hx, hless⟩ := hgo
      have hlt : j < n' := by have := (List.getElem?_eq_some_iff.1 hx).1; omega
      obtain ⟨bd, x', rfl, hx', hbk2, hok2, x0, x1, x2, x3, x4, x5⟩ := hsv.vn hlt
      obtain rfl : x = x' := Option.some.inj (hx.symm.trans hx')
      have hd1 : decide ((j : Int) < (n' : Int)) = true := by simp; omega
      have hk0 : (0 : Int) ≤ (j : Int) := by omega
      have hk1 : (j : Int) < (n' : Int) := by omega
      have hL := fun w => rless_any x.s v.s w
      rw [hless] at hL
      have HS := Lib.hid (show hh.vs.take (j + 1) = hh.vs.take j ++ [x] by rw [List.take_add_one, hx]; rfl)
      have HA := Lib.hid (show ∀ y ∈ hh.vs.take j ++ [x], decide (y.s.cmp v.s < 0) = true from fun y hy => by
        rcases List.mem_append.1 hy with h1 | h1
        · exact hall y h1
        · simp only [List.mem_cons, List.not_mem_nil, or_false] at h1
          rw [h1]; exact hless)
      clear hall hx hx' hless
      generalize hh.vs.take j = T1 at *
      go_wp2_with fail
      go_region_held3 (fun w' => w'.cell? ⟨g, 0, none⟩ = some (.slice (some p) m1 d1) ∧ w'.cell? ⟨(p.add (i * 2)).block, (p.add (i * 2)).off + 1, none⟩ = some (.slice (some bd) n' c') ∧ w'.cell? (bd.add (j * 6)) = some (.int .i64 x.s.w) ∧ w'.cell? ⟨(bd.add (j * 6)).block, (bd.add (j * 6)).off + 1, none⟩ = some (.int .i64 x.s.l) ∧ w'.cell? ⟨(bd.add (j * 6)).block, (bd.add (j * 6)).off + 2, none⟩ = some (.int .i64 x.s.n) ∧ w'.cell? ⟨w.heap.size, 0, none⟩ = some (.int .i64 v.s.w) ∧ w'.cell? ⟨w.heap.size, 1, none⟩ = some (.int .i64 v.s.l) ∧ w'.cell? ⟨w.heap.size, 2, none⟩ = some (.int .i64 v.s.n))
        (first | exact ⟨k0, c1, x0, x1, x2, y0, y1, y2⟩ | exact ⟨(hb9.cell (by exact gl)).trans k0, (hb9.cell (by exact hbk)).trans c1, (hb9.cell (by exact hbk2)).trans x0, (hb9.cell (by exact hbk2)).trans x1, (hb9.cell (by exact hbk2)).trans x2, (hb9.cell (by exact l5)).trans y0, (hb9.cell (by exact l5)).trans y1, (hb9.cell (by exact l5)).trans y2⟩)
        (first | ((with_reducible refine (hL _).mono ?_); rintro e w5 ⟨rfl, hb5⟩; have hb9 : Below wr.heap.size wr w5 := (Below.refl wr.heap.size wr).drew.trans hb5))
      have k05 := (hb9.cell (p := ⟨g, 0, none⟩) gl).trans k0
      have c15 := (hb9.cell (p := ⟨(p.add (i * 2)).block, (p.add (i * 2)).off + 1, none⟩) hbk).trans c1
      have E := fun t (u : Value) (hc : wr.cell? ⟨(bd.add (j * 6)).block, (bd.add (j * 6)).off + t, none⟩ = some u) => (hb9.cell (p := ⟨(bd.add (j * 6)).block, (bd.add (j * 6)).off + t, none⟩) hbk2).trans hc
      have v0 := (hb9.cell (p := bd.add (j * 6)) hbk2).trans x0
      have v1 := E 1 _ x1
      have v2 := E 2 _ x2
      have v3 := E 3 _ x3
      have v4 := E 4 _ x4
      have v5 := E 5 _ x5
      have h5z := hb9.size
      have hX5 : Below wr.heap.size wr (w5.alloc (.cells (Vn.cells x).toArray 79)) := hb9.alloc hb9.size _
      have hown0 := hown.below hX5
      have hrd0 := reads_new' w5 79 (Vn.cells x) 6 rfl
      clear E x0 x1 x2 x3 x4 x5 k0 k1 c0 c1 y0 y1 y2 y3 y4 y5 hb5 hL
      go_wp2_with (first
        | (at_builtin
           refine wpList_append_any _ rfl (.tmp 93) (.tmp 105) _ rfl (w.heap.size + 1) 79 i6 _ 6 56 Try.underlying74 hi6 iz0 iz1 iz2 rfl (by omega) (.slice A9 T1.length q9) _ (T1.flatMap Vn.cells) (by rfl) hown0 _ (some ⟨w5.heap.size, 0, none⟩) 1 1 (Vn.cells x) (by rfl)
             hrd0 (vn_one x) (by unfold maxLen; omega) (by omega) (by simp; omega) ?_
           intro u3 w3 hown3 hg3 hat3
           have hp := OwnL.push x hown3
           obtain ⟨A3, q3, rfl, hq3, hq3m⟩ := own_form hown3))
      have hbw := (hb.trans (hX5.mono hzz)).grown hg3 (hb.trans (hX5.mono hzz)).size (fun q hq => by have := (hlt5 q hq).1; omega)
      have b53 := (b5.below hX5 l5).grown hg3 (fun e => by have := (hlt5 _ e.symm).1; omega)
      go_roundw
      case rel =>
        refine ⟨j + 1, by omega, by go_num, ?_, ?_, b53, hbw⟩
        · rw [HS.out]; exact HA.out
        · rw [HS.out]; exact hp
      case measure => simp [intOf]; omega
    · have hend : ∀ a, hh.vs[j]? = some a → decide (a.s.cmp v.s < 0) = false := fun a ha => by
        cases hx : decide (a.s.cmp v.s < 0)
        · rfl
        · exact absurd ⟨a, ha, hx⟩ hgo
      have HP := Lib.hid (insV_at hj hall hend)
      clear hgo hall
      generalize hh.vs.take j = T1 at *
      by_cases hlt : j < n'
      case' pos =>
        obtain ⟨bd, x, rfl, hx, hbk2, hok2, x0, x1, x2, x3, x4, x5⟩ := hsv.vn hlt
        have hd1 : decide ((j : Int) < (n' : Int)) = true := by simp; omega
        have hk0 : (0 : Int) ≤ (j : Int) := by omega
        have hk1 : (j : Int) < (n' : Int) := by omega
        have hL := fun w => rless_any x.s v.s w
        rw [hend x hx] at hL
        clear hx hend
        go_wp2_with fail
        go_region_held3 (fun w' => w'.cell? ⟨g, 0, none⟩ = some (.slice (some p) m1 d1) ∧ w'.cell? ⟨(p.add (i * 2)).block, (p.add (i * 2)).off + 1, none⟩ = some (.slice (some bd) n' c') ∧ w'.cell? (bd.add (j * 6)) = some (.int .i64 x.s.w) ∧ w'.cell? ⟨(bd.add (j * 6)).block, (bd.add (j * 6)).off + 1, none⟩ = some (.int .i64 x.s.l) ∧ w'.cell? ⟨(bd.add (j * 6)).block, (bd.add (j * 6)).off + 2, none⟩ = some (.int .i64 x.s.n) ∧ w'.cell? ⟨w.heap.size, 0, none⟩ = some (.int .i64 v.s.w) ∧ w'.cell? ⟨w.heap.size, 1, none⟩ = some (.int .i64 v.s.l) ∧ w'.cell? ⟨w.heap.size, 2, none⟩ = some (.int .i64 v.s.n))
          (first | exact ⟨k0, c1, x0, x1, x2, y0, y1, y2⟩ | exact ⟨(hb9.cell (by exact gl)).trans k0, (hb9.cell (by exact hbk)).trans c1, (hb9.cell (by exact hbk2)).trans x0, (hb9.cell (by exact hbk2)).trans x1, (hb9.cell (by exact hbk2)).trans x2, (hb9.cell (by exact l5)).trans y0, (hb9.cell (by exact l5)).trans y1, (hb9.cell (by exact l5)).trans y2⟩)
          (first | ((with_reducible refine (hL _).mono ?_); rintro e w5 ⟨rfl, hb5⟩; have hb9 : Below wr.heap.size wr w5 := (Below.refl wr.heap.size wr).drew.trans hb5))
        obtain ⟨WW, hWW⟩ : ∃ WW, WW = w5 := ⟨_, rfl⟩
        have hbW : Below wr.heap.size wr WW := by rw [hWW]; exact hb9
        rw [← hWW]
        clear hWW hb9 hb5 x0 x1 x2 x3 x4 x5 hbk2 hok2 hL hk0 hk1
      case' neg =>
        have hd1 : decide ((j : Int) < (n' : Int)) = false := by simp; omega
        clear hend
        go_wp2
        go_quiet (fail)
        obtain ⟨WW, hWW⟩ : ∃ WW, WW = wr.drewN nq := ⟨_, rfl⟩
        have hbW : Below wr.heap.size wr WW := by rw [hWW]; exact belowN nq
        rw [← hWW]
        clear hWW
      all_goals
        have h5z := hbW.size
        have b55 := b5.below hbW l5
        obtain ⟨l55, r0, r1, r2, r3, r4, r5⟩ := b55.six
        have hX5 : Below wr.heap.size wr (WW.alloc (.cells (Vn.cells v).toArray 79)) := hbW.alloc h5z _
        have hown0 := hown.below hX5
        have hrd0 := reads_new' WW 79 (Vn.cells v) 6 rfl
        have hjn : j ≤ n' := by omega
        clear y0 y1 y2 y3 y4 y5 k0 k1 c0 c1
        go_upto_region 16 with (first
          | (at_builtin
             refine wpList_append_any _ rfl (.tmp 109) (.tmp 111) _ rfl (w.heap.size + 1) 79 i6 _ 6 56 Try.underlying74 hi6 iz0 iz1 iz2 rfl (by omega) (.slice A9 T1.length q9) _ (T1.flatMap Vn.cells) (by rfl) hown0 _ (some ⟨WW.heap.size, 0, none⟩) 1 1 (Vn.cells v) (by rfl)
               hrd0 (vn_one v) (by unfold maxLen; omega) (by omega) (by simp; omega) ?_
             intro u7 w7 hown7 hg7 hat7))
        have hp7 := OwnL.push v hown7
        have hw7 := (hb.trans (hX5.mono hzz)).grown hg7 (hb.trans (hX5.mono hzz)).size (fun q hq => by have := (hlt5 q hq).1; omega)
        have hle7 : w.heap.size + 1 ≤ w7.heap.size := by
          have h1 := hg7.size
          rw [World.size_alloc] at h1
          have := b5.lt
          omega
        obtain ⟨A7, q7, rfl, hq7, hq7m⟩ := hp7.form
        have hlt7 := hp7.lt
        obtain ⟨T2, hT2⟩ : ∃ T2, T2 = T1 ++ [v] := ⟨_, rfl⟩
        have hT2l : T2.length ≤ 3000001 := by rw [hT2]; simp; omega
        rw [← hT2] at hp7 hlt7 hq7 ⊢
        have HT2 := Lib.hid hT2
        clear hT2 hown7 hg7 hat7 hown0 hrd0 hX5 b55 r0 r1 r2 r3 r4 r5 l55 hbW
        obtain ⟨-, hrow2, hne, hsv0⟩ := HK.out
        have k7 := (hw7.cell (p := ⟨g, 0, none⟩) hgw).trans kw
        have c7 := (hw7.cell (p := ⟨(p.add (i * 2)).block, (p.add (i * 2)).off + 1, none⟩) hal).trans dw1
        have hw7z := hw7.size
        have hrd := (((hsv0.below VnRel.kept hw7).more VnRel.kept hw7z).reads (by omega) vn_len).cut (k := j) (cap := c') hjn hn'
        rw [List.flatMap_def, drop_flat 6 _ _ (fun cs hcs => by obtain ⟨a, -, rfl⟩ := List.mem_map.1 hcs; exact vn_len a), ← List.map_drop, ← List.flatMap_def] at hrd
        have hjc : (j : Int) ≤ (n' : Int) := by omega
        have hj0 : (0 : Int) ≤ (j : Int) := by omega
        try simp only [Option.map_some] at hrd
        refine wp_region_held_drew (S := fun w' => w'.cell? ⟨g, 0, none⟩ = some (.slice (some p) m1 d1)) (by kernel_rfl) k7 (fun hHeld => ?_)
        refine t0 0 113 ?_
        go_frame
        refine t0 1 114 ?_
        go_frame
        refine t0 2 115 ?_
        go_frame
        refine t0 3 116 ?_
        go_frame
        refine t0 4 117 ?_
        go_frame
        refine t0 5 118 ?_
        go_frame
        refine t0 6 119 ?_
        go_frame
        refine t0 7 120 ?_
        go_frame
        refine t0 8 121 ?_
        go_frame
        refine t0 9 122 ?_
        go_frame
        refine t0 10 123 ?_
        go_frame
        refine t0 11 124 ?_
        go_frame
        refine t0 12 125 ?_
        go_frame
        refine t0 14 127 ?_
        go_frame
        refine wpAnyH_ready (rs := [13]) (by kernel_rfl) (by simp) ?_
        refine AllReadyH.cons (o := ⟨some 126, _, _, _, _, _⟩) rfl (fun K hK => ?_) AllReadyH.nil
        go_simp
        refine hK.out _ _ k7 (fun hHeld => ?_)
        clear hK K
        try go_frame
        refine t0 15 128 ?_
        go_frame
        refine wpAnyH_ready (rs := [16]) (by kernel_rfl) (by simp) ?_
        refine AllReadyH.cons (o := ⟨some 129, _, _, _, _, _⟩) rfl (fun K hK => ?_) AllReadyH.nil
        refine step_append_any _ rfl _ _ _ rfl (w.heap.size + 1) 79 i6 _ 6 56 Try.underlying74 hi6 iz0 iz1 iz2 rfl (by omega) (.slice A7 T2.length q7) _ (T2.flatMap Vn.cells) (by rfl) (OwnL.drew hp7) _ _ (n' - j) (c' - j) _ (by rfl) hrd (one_of vn_one _) (by unfold maxLen; omega) (by omega) (show w.heap.size + 1 ≤ w7.heap.size from hle7) ?_
        intro v9 w9 hown9 hg9 hat9
        have hw9 := hw7.drew.grown hg9 hw7z (fun q hq => by have := (hlt7 q hq).1; omega)
        have hp9 : OwnL Vn.cells 79 6 (w.heap.size + 1) w9 v9 (T2 ++ hh.vs.drop j) := by
          unfold OwnL
          have hdl : (hh.vs.drop j).length = n' - j := by rw [List.length_drop, hsv0.1]
          rw [List.length_append, List.flatMap_append, hdl]
          exact hown9
        obtain ⟨A8, q8, rfl, hq8, hq8m⟩ := hp9.form
        have kz := (hw9.cell (p := ⟨g, 0, none⟩) hgw).trans kw
        have cz := (hw9.cell (p := ⟨(p.add (i * 2)).block, (p.add (i * 2)).off + 1, none⟩) hal).trans dw1
        have fz := (hrow2.below hw9 hal).frozen ((p.add (i * 2)).off + 1)
        have lz : (p.add (i * 2)).block < w9.heap.size := Nat.lt_of_lt_of_le hal hw9.size
        have e9 : T2 ++ hh.vs.drop j = insV v hh.vs := by rw [HP.out, HT2.out, List.append_assoc]; rfl
        have HE9 := Lib.hid e9
        have HP9 := Lib.hid hp9
        have HW9 := Lib.hid hw9
        clear hown9 hg9 hat9 hp7 hlt7 hrd hsv0 hp9 e9
        refine hK.out _ _ kz (fun hHeld => ?_)
        clear hK K
        try go_frame
        refine t0 17 130 ?_
        go_frame
        refine t0 18 131 ?_
        go_frame
        refine wpAnyH_ready (rs := [19]) (by kernel_rfl) (by simp) ?_
        refine AllReadyH.cons (o := ⟨none, _, _, _, _, _⟩) rfl (fun K hK => ?_) AllReadyH.nil
        go_simp
        obtain ⟨hR, -, -, -⟩ := HK.out
        have hokl : ∀ a ∈ insV v hh.vs, a.ok := fun a ha => by
          have hold := Sl.all_ok HK.out.2.2.2
          unfold insV at ha
          rcases List.mem_append.1 ha with h1 | h1
          · exact hold a (List.takeWhile_subset _ h1)
          · rcases List.mem_cons.1 h1 with rfl | h1
            · exact hok
            · exact hold a (List.dropWhile_subset _ h1)
        have hp9 := HP9.out
        rw [HE9.out] at hp9
        obtain ⟨A6, n6, c6, e6, f1, f2, f3⟩ := hp9.sl (by omega) vn_len hokl
        obtain ⟨o1, o2, o3⟩ := RSh.set (hR.below HW9.out) HI.out f3 f1 f2 rfl
        rw [← e6] at o1 o2 o3
        have hfin : RSh (w9.setCell ⟨(p.add (i * 2)).block, (p.add (i * 2)).off + 1, none⟩ (.slice A8 (T2 ++ hh.vs.drop j).length q8)) g (some p) m1 d1 vP L (Hl.set i ⟨hh.key, insV v hh.vs⟩) ∧ KeepN w (w9.setCell ⟨(p.add (i * 2)).block, (p.add (i * 2)).off + 1, none⟩ (.slice A8 (T2 ++ hh.vs.drop j).length q8)) ∧ Chg w (w9.setCell ⟨(p.add (i * 2)).block, (p.add (i * 2)).off + 1, none⟩ (.slice A8 (T2 ++ hh.vs.drop j).length q8)) g (some p) :=
          by rw [HE9.out]; exact ⟨o1, (KeepN.below HW9.out).trans o2, (Chg.ofBelow g (some p) HW9.out).trans o3 fun p hp => .inl hp⟩
        have HF := Lib.hid hfin
        clear hfin o1 o2 o3 e6 f1 f2 f3 hp9 hokl hR
        refine hK.out _ _ ?_ (fun hHeld => ?_)
        · show (w9.setCell _ _).cell? ⟨g, 0, none⟩ = _
          rw [World.cell?_setCell_other _ _ _ _ (fun e => hne (congrArg Addr.block e))]
          exact kz
        clear hK K
        try go_frame
        refine wpAnyH_done (by kernel_rfl) ?_ _
        go_wp2
        all_goals go_end0
        all_goals
          have hF := HF.out
          rw [List.length_append, List.length_drop] at hF
          exact ⟨rfl, hF⟩
end Go.Proofs.Ytipacjbegfingaa
