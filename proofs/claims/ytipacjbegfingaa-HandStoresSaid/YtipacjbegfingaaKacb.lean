/- The walk of the document's Resolve. -/
import Derived.Test.YtipacjbegfingaaKabg
import Derived.Test.YtipacjbegfingaaKaca
namespace Go.Proofs.Ytipacjbegfingaa
set_option linter.unusedVariables false
open Go.RowKit Fl
attribute [local go_sem] run_store_float

theorem rversion_any (g : Nat) (B1 : Option Addr) (m1 d1 : Nat) (vP : Value) (L : Sp) (Hl : List Hs) (key q : ByteArray) (v : Vn) (w : World) (h : RSh w g B1 m1 d1 vP L Hl) (hok : v.ok) (hkey : key.size ≤ 140737488351232) (hr : riseH q Hl) (hL : LenH 3000000 Hl) :
    Calls Try.prog 50 #[.pointer (some ⟨g, 0, none⟩), .string key, .agg v.arr] w fun e w' => e = .returned (.tuple #[]) ∧ NewH w g vP L B1 (insH key v Hl) w' := by
  rcases at_find key Hl 0 with ⟨h1, h2⟩ | ⟨i, hh, h1, h2, h3⟩
  · exact rversion_no g B1 m1 d1 vP L Hl key v w h hok hkey h1 (at_none h2) hL.1
  · obtain ⟨p, _, rfl, _⟩ := h.hs.2 i hh h2
    have hk := List.find?_some h3
    refine (rversion_at g p m1 d1 vP L Hl key v i hh w h hok h2 (by rw [h1, Nat.zero_add]) (hL.2 hh (List.mem_of_getElem? h2))).mono ?_
    rintro e w' ⟨rfl, o1, o2, o3⟩
    refine ⟨rfl, some p, m1, d1, ?_, o2, o3, fun p hp => .inl hp⟩
    rw [insH_at hr h2 hk]
    exact o1
theorem Chg.blk {w w' : World} {g k : Nat} {B : Option Addr} {t : TypeId} {cs : Array Value} (h : Chg w w' g B) (hb : Blk w k t cs) (h1 : k ≠ g) (h2 : ∀ p, B = some p → k ≠ p.block) : Blk w' k t cs := (h.block k hb.lt h1 h2).trans hb
def ResR (w w0 : World) (g bp : Nat) (B1 : Option Addr) (vP : Value) (L : Sp) (at_ : Sp) (pc : Array Value) (l : List Wt) (H : List Hs) (i : Value) (wr : World) : Prop :=
  ∃ (k : Nat) (B : Option Addr) (m d : Nat), k ≤ l.length ∧ i = .int .i64 (k : Int) ∧ RSh wr g B m d vP L (insAll at_ (l.take k) H) ∧ KeepN w wr ∧ Chg w wr g B1 ∧ (∀ p, B = some p → B1 = some p ∨ w0.heap.size ≤ p.block) ∧ Blk wr (w.heap.size + 1) 26 at_.arr ∧ Blk wr bp 47 pc ∧ w0.heap.size ≤ wr.heap.size
def RestR (w wp : World) (bp : Nat) (at_ : Sp) (pc : Array Value) (l : List Pn) (u i : Value) (wr : World) : Prop :=
  ∃ (k n : Nat) (xs : List Value), k ≤ l.length ∧ i = .int .i64 (k : Int) ∧ n ≤ k ∧ wr.ownsRow (bp + 1) 47 8 u n xs ∧ Blk wr (w.heap.size + 1) 26 at_.arr ∧ Blk wr bp 47 pc ∧ Below w.heap.size w wr
set_option maxRecDepth 100000 in
set_option maxHeartbeats 8000000 in
theorem rresolve_any (g : Nat) (B1 B2 : Option Addr) (m1 d1 m2 d2 : Nat) (L : Sp) (Hl : List Hs) (Pl : List Pn) (t : Tx) (commit : Bool) (at_ : Sp) (q : ByteArray) (w : World) (h : RSu w g B1 m1 d1 B2 m2 d2 L Hl Pl) (hN : HRow w g B1) (hc1 : m1 ≤ d1) (hc2 : d1 ≤ maxLen)
    (hr : riseH q Hl) (hL : LenH 1000000 Hl) (hP : Pl.length ≤ 1000000) (hW : ∀ p ∈ Pl, p.w.length ≤ 1000000) (hKy : ∀ p ∈ Pl, ∀ a ∈ p.w, bl q a.key = true) (hat : at_.ok) :
    Calls Try.prog 14 #[.pointer (some ⟨g, 0, none⟩), t.val, .bool commit, at_.val] w fun e w' => e = .returned (.int .i64 (wouldE Hl Pl t commit at_)) ∧ ∃ vP, NewH w g vP L B1 (resH Hl Pl t commit at_) w' := by
  obtain ⟨i8, hi8, iz0, iz1, iz2⟩ := info_parts pn_info
  have hm := h.m2
  unfold maxLen at hm
  have hX : Below w.heap.size w ((w.alloc (.cells #[.int .i64 t.c, .int .i64 t.l, .int .i64 t.s] 43)).alloc (.cells at_.arr 26)) := by go_grown
  have i5 : Blk ((w.alloc (.cells #[.int .i64 t.c, .int .i64 t.l, .int .i64 t.s] 43)).alloc (.cells at_.arr 26)) w.heap.size 43 #[.int .i64 t.c, .int .i64 t.l, .int .i64 t.s] := (Blk.new _ _ _).alloc _
  have i7 : Blk ((w.alloc (.cells #[.int .i64 t.c, .int .i64 t.l, .int .i64 t.s] 43)).alloc (.cells at_.arr 26)) (w.heap.size + 1) 26 at_.arr := Blk.new' _ _ (by simp)
  have hWd := rwould_any g B1 B2 m1 d1 m2 d2 L Hl Pl t commit at_ _ (h.rst.below hX)
  have hrsh := h.rsh hN hc1 hc2
  by_cases h0 : wouldE Hl Pl t commit at_ = 0
  case' neg =>
    have hb0 : (wouldE Hl Pl t commit at_ != 0) = true := by simp [h0]
    have HR := Lib.hid (show resH Hl Pl t commit at_ = Hl by unfold resH; rw [if_neg h0])
    generalize wouldE Hl Pl t commit at_ = z at *
    go_enter Try.func14, Try.ntmps14
    go_wp2_with fail
    refine hWd.mono ?_
    rintro e w1 ⟨rfl, hb1⟩
    have hX1 := hX.trans (hb1.mono hX.size)
    go_wp2
    go_ret
    rw [HR.out]
    exact ⟨rfl, _, B1, m1, d1, hrsh.below hX1, KeepN.below hX1, Chg.ofBelow g B1 hX1, fun p hp => .inl hp⟩
  rcases wh_find t Pl 0 with ⟨hz, hf⟩ | ⟨i, p, hz, hi, hf⟩
  · unfold wouldE at h0; rw [hf] at h0; cases h0
  have HR := Lib.hid (show resH Hl Pl t commit at_ = if commit then insAll at_ p.w Hl else Hl by unfold resH; rw [if_pos h0, hf])
  have hWh := fun w' (hb : Below w.heap.size w w') => rwhere_any g B1 B2 m1 d1 m2 d2 L Hl Pl t w' (h.rst.below hb)
  rw [hz, Nat.zero_add] at hWh
  rw [h0] at hWd
  have H0 := Lib.hid h0
  have HI := Lib.hid hi
  have hi0 : (0 : Int) ≤ (i : Int) := by omega
  have hi2 : i < m2 := by have := (List.getElem?_eq_some_iff.1 hi).1; have := h.ps.1; omega
  have hi1 : (i : Int) < (m2 : Int) := by omega
  clear h0 hf hz hi
  go_enter Try.func14, Try.ntmps14
  go_wp2_with fail
  refine hWd.mono ?_
  rintro e w1 ⟨rfl, hb1⟩
  have hX1 := hX.trans (hb1.mono hX.size)
  have j5 := i5.below hb1 i5.lt
  have j7 := i7.below hb1 i7.lt
  obtain ⟨l5, t0', t1', t2'⟩ := j5.three
  clear hWd hb1 i5 i7 hX
  go_wp2_with fail
  refine (hWh _ hX1).mono ?_
  rintro e w2 ⟨rfl, hb2⟩
  have k7 := j7.below hb2 j7.lt
  have hX2 := hX1.trans (hb2.mono hX1.size)
  have hz2 : w.heap.size + 1 < w2.heap.size := k7.lt
  clear hWh t0' t1' t2' l5 j5 j7 hb2 hX1
  have hr2 := h.rst.below hX2
  obtain ⟨gl, k0, k1, -, -, -⟩ := hr2.blk.fiveC
  obtain ⟨ad, a, A3, n3, c3, A4, n4, c4, rfl, ha, hbk, hxt, hxs, e0, e1, e2, e3, e4, e5, e6, e7, hn3, hc3, hs3, hn4, hc4, hs4⟩ := hr2.pend.pn hi2
  obtain rfl : p = a := Option.some.inj (HI.out.symm.trans ha)
  clear ha
  obtain ⟨adw, aw, A3w, n3w, c3w, A4w, n4w, c4w, exw, haw, hbkw, -, -, -, -, -, -, -, -, -, f7, -, -, -, -, -, hs4w⟩ := h.rst.pend.pn hi2
  injection exw with exw
  subst exw
  obtain rfl : p = aw := Option.some.inj (HI.out.symm.trans haw)
  have hdr : some (Value.slice A4 n4 c4) = some (.slice A4w n4w c4w) := e7.symm.trans ((hX2.cell (p := ⟨(ad.add (i * 8)).block, (ad.add (i * 8)).off + 7, none⟩) hbkw).trans f7)
  injection hdr with hdr
  injection hdr with qq1 qq2 qq3
  subst qq1 qq2 qq3
  have HW4 := Lib.hid hs4w
  have hKp := Lib.hid (hKy p (List.mem_of_getElem? HI.out))
  clear haw f7 hs4w
  have hpw : p.w.length ≤ 1000000 := hW p (List.mem_of_getElem? HI.out)
  have bp0 : Blk (w2.alloc (.cells (p.arr (.slice A3 n3 c3) (.slice A4 n4 c4)) 47)) w2.heap.size 47 (p.arr (.slice A3 n3 c3) (.slice A4 n4 c4)) := Blk.new _ _ _
  have hX3 : Below w.heap.size w (w2.alloc (.cells (p.arr (.slice A3 n3 c3) (.slice A4 n4 c4)) 47)) := hX2.alloc hX2.size _
  have k73 := k7.alloc (.cells (p.arr (.slice A3 n3 c3) (.slice A4 n4 c4)) 47)
  go_wp2_with fail
  go_loopw [12, 13] (fun u i wr => RestR w w2 w2.heap.size at_ (p.arr (.slice A3 n3 c3) (.slice A4 n4 c4)) Pl u i wr) (fun _ i _ => m2 - (intOf i).toNat)
  case atStart => exact ⟨0, 0, [], by omega, rfl, Nat.le_refl _, World.ownsRow_nil _ _ _ _, k73, bp0, hX3⟩
  case round =>
    clear k73 bp0 hX3 e0 e1 e2 e3 e4 e5 e6 e7 k0 k1 gl hr2 hbk
    obtain ⟨k, n, xs, hk, rfl, hnk, hown, b7, bP, hb⟩ := hrel
    have hzz := hb.size
    have hrs := h.rst.below hb
    obtain ⟨gl, k0, k1, -, -, -⟩ := hrs.blk.fiveC
    obtain ⟨A5, q5, rfl, hq5, hq5m⟩ := own_form hown
    have hlt5 := World.ownsRow.lt hown
    have lP := bP.lt
    by_cases hlt : k < m2
    · obtain ⟨ad2, x, A6, n6, c6, A7, n7, c7, ex, hx, hbk, -, -, e0, e1, e2, e3, e4, e5, e6, e7, hn6, hc6, hs6, hn7, hc7, hs7⟩ := hrs.pend.pn hlt
      injection ex with ex
      subst ex
      have hd1 : decide ((k : Int) < (m2 : Int)) = true := by simp; omega
      have hk0 : (0 : Int) ≤ (k : Int) := by omega
      have hk1 : (k : Int) < (m2 : Int) := by omega
      clear hx
      by_cases hki : k = i
      · have hd2 : ((k : Int) != (i : Int)) = false := by simp [hki]
        have hkl : k < Pl.length := by have := h.ps.1; omega
        go_wp2
        go_roundw
        case rel => exact ⟨k + 1, n, xs, by omega, by go_num, by omega, hown, b7, bP, hb⟩
        case measure => simp [intOf]; omega
      · have hd2 : ((k : Int) != (i : Int)) = true := by simp; omega
        have hkl : k < Pl.length := by have := h.ps.1; omega
        have hown0 := hown.alloc (.cells (x.arr (.slice A6 n6 c6) (.slice A7 n7 c7)) 47)
        have hrd0 := reads_new' wr 47 (x.cs (.slice A6 n6 c6) (.slice A7 n7 c7)) 8 rfl
        have hX := hb.alloc hzz (.cells (x.arr (.slice A6 n6 c6) (.slice A7 n7 c7)) 47)
        go_wp2_with (first
          | (at_builtin
             refine wpList_append_any _ rfl (.tmp 45) (.tmp 53) _ rfl (w2.heap.size + 1) 47 i8 _ 8 96 Try.underlying28 hi8 iz0 iz1 iz2 rfl (by omega) (.slice A5 n q5) _ xs (by rfl) hown0 _ (some ⟨wr.heap.size, 0, none⟩) 1 1 (x.cs (.slice A6 n6 c6) (.slice A7 n7 c7)) (by rfl)
               hrd0 (pn_one x _ _ _ _ _ _) (by unfold maxLen; omega) (by omega) (by simp; omega) ?_
             intro u3 w3 hown3 hg3 hat3
             have hown4 := hown3
             obtain ⟨A8, q8, rfl, hq8, hq8m⟩ := own_form hown3))
        have hbw := hX.grown hg3 hX.size (fun q hq => by have := (hlt5 q hq).1; omega)
        have b73 := (b7.alloc (.cells (x.arr (.slice A6 n6 c6) (.slice A7 n7 c7)) 47)).grown hg3 (fun e => by have := (hlt5 _ e.symm).1; omega)
        have bP3 := (bP.alloc (.cells (x.arr (.slice A6 n6 c6) (.slice A7 n7 c7)) 47)).grown hg3 (fun e => by have := (hlt5 _ e.symm).1; omega)
        go_roundw
        case rel => exact ⟨k + 1, n + 1, _, by omega, by go_num, by omega, hown4, b73, bP3, hbw⟩
        case measure => simp [intOf]; omega
    · have hd1 : decide ((k : Int) < (m2 : Int)) = false := by simp; omega
      have hsh := hrsh.below hb
      obtain ⟨o1, o2, o3⟩ := hsh.setP (.slice A5 n q5)
      have f1 := hrs.blk.frozen 1
      have hK0 := (KeepN.below hb).trans o2
      have hC0 := (Chg.ofBelow g B1 hb).trans o3 fun p hp => .inl hp
      cases commit
      · have HR2 := Lib.hid (show resH Hl Pl t false at_ = Hl from HR.out)
        have HO := Lib.hid o1
        have HK0 := Lib.hid hK0
        have HC0 := Lib.hid hC0
        clear o1 o2 o3 hK0 hC0
        go_wp2
        go_ret
        rw [HR2.out, H0.out]
        exact ⟨rfl, _, B1, m1, d1, HO.out, HK0.out, HC0.out, fun p hp => .inl hp⟩
      · have HR2 := Lib.hid (show resH Hl Pl t true at_ = insAll at_ p.w Hl from HR.out)
        have hgw : g < w.heap.size := h.blk.lt
        have hlow : ∀ p', B1 = some p' → p'.block < w.heap.size := fun p' hp' => by
          obtain ⟨_, _, _, h2⟩ := hN p' hp'
          exact h2.lt
        have b70 := b7.far (p := ⟨g, 1, none⟩) (by show w.heap.size + 1 ≠ g; omega) (.slice A5 n q5)
        have bP0 := bP.far (p := ⟨g, 1, none⟩) (by show w2.heap.size ≠ g; omega) (.slice A5 n q5)
        have lP0 := bP0.lt
        clear o2 o3 hsh hown hlt5
        go_wp2_with fail
        clear b7 bP k0 k1 hrs lP hk hnk f1
        obtain ⟨W0, hW0⟩ : ∃ W0, W0 = wr.setCell ⟨g, 1, none⟩ (.slice A5 n q5) := ⟨_, rfl⟩
        rw [← hW0] at o1 hK0 hC0 b70 bP0 lP0 ⊢
        clear hW0
        go_loopw [14] (fun i wr => ResR w W0 g w2.heap.size B1 (.slice A5 n q5) L at_ (p.arr (.slice A3 n3 c3) (.slice A4 n4 c4)) p.w Hl i wr) (fun i _ => n4 - (intOf i).toNat)
        case atStart => exact ⟨0, B1, m1, d1, by omega, rfl, o1, hK0, hC0, fun p hp => .inl hp, b70, bP0, Nat.le_refl _⟩
        case round =>
          clear o1 hK0 hC0 b70 bP0
          obtain ⟨k, B, m, d, hk, rfl, hsh, hK, hC, hB, b7, bP, hz0⟩ := hrel
          have hwt := wt_keep HW4.out hK hC.size
          have z7 := bP.cell 7
          simp only [List.getElem?_toArray, List.getElem?_cons_succ, List.getElem?_cons_zero] at z7
          obtain ⟨l7, y0, y1, y2⟩ := b7.three
          have hl4 : n4 ≤ p.w.length := by have := hwt.1; omega
          have hl5 : p.w.length ≤ n4 := by have := hwt.1; omega
          by_cases hltk : k < n4
          · obtain ⟨bd, x, rfl, hx, hbk2, hokx, x0, x1, x2, x3⟩ := hwt.wt hltk
            have hd3 : decide ((k : Int) < (n4 : Int)) = true := by simp; omega
            have hk0 : (0 : Int) ≤ (k : Int) := by omega
            have hk1 : (k : Int) < (n4 : Int) := by omega
            have HS := Lib.hid (show insAll at_ (p.w.take (k + 1)) Hl = insH x.key ⟨at_, x.v⟩ (insAll at_ (p.w.take k) Hl) by rw [List.take_add_one, hx]; exact insAll_snoc _ _ _ _)
            have hV := rversion_any g B m d (.slice A5 n q5) L (insAll at_ (p.w.take k) Hl) x.key q ⟨at_, x.v⟩ wr.drew (hsh.below (Below.refl _ _).drew) ⟨hat, hokx.2⟩ hokx.1
              (insAll_rise at_ _ Hl q hr fun a ha => hKp.out a (List.mem_of_mem_take ha)) (insAll_lenH at_ _ hL (by rw [List.length_take]; omega))
            generalize insAll at_ (p.w.take k) Hl = H1 at *
            clear hx
            go_wp2_with fail
            refine wp_region_held_drew (S := fun w' => w'.cell? ⟨w2.heap.size, 7, none⟩ = some (.slice (some bd) n4 c4) ∧ w'.cell? (bd.add (k * 4)) = some (.string x.key) ∧ w'.cell? ⟨(bd.add (k * 4)).block, (bd.add (k * 4)).off + 1, none⟩ = some (.int .i64 x.v.k) ∧ w'.cell? ⟨(bd.add (k * 4)).block, (bd.add (k * 4)).off + 2, none⟩ = some (.float .f64 x.v.n) ∧ w'.cell? ⟨(bd.add (k * 4)).block, (bd.add (k * 4)).off + 3, none⟩ = some (.string x.v.t) ∧ w'.cell? ⟨w.heap.size + 1, 0, none⟩ = some (.int .i64 at_.w) ∧ w'.cell? ⟨w.heap.size + 1, 1, none⟩ = some (.int .i64 at_.l) ∧ w'.cell? ⟨w.heap.size + 1, 2, none⟩ = some (.int .i64 at_.n)) (by kernel_rfl) ⟨z7, x0, x1, x2, x3, y0, y1, y2⟩ (fun hHeld => ?_)
            refine t0 0 67 ?_
            go_frame
            refine t0 1 68 ?_
            go_frame
            refine t0 2 69 ?_
            go_frame
            refine t0 3 70 ?_
            go_frame
            refine t0 4 71 ?_
            go_frame
            refine t0 5 72 ?_
            go_frame
            refine t0 6 73 ?_
            go_frame
            refine t0 7 74 ?_
            go_frame
            refine t0 8 75 ?_
            go_frame
            refine t0 9 76 ?_
            go_frame
            refine t0 10 77 ?_
            go_frame
            refine t0 11 78 ?_
            go_frame
            refine t0 12 79 ?_
            go_frame
            refine t0 13 80 ?_
            go_frame
            refine t0 14 81 ?_
            go_frame
            refine wpAnyH_ready (rs := [15]) (by kernel_rfl) (by simp) ?_
            refine AllReadyH.cons (o := ⟨some 82, _, _, _, _, _⟩) rfl (fun K hK' => ?_) AllReadyH.nil
            go_simp
            refine hV.mono ?_
            rintro e w5 ⟨rfl, B', m', d', r1, r2, r3, r4⟩
            have r3' : Chg wr w5 g B := (Chg.ofBelow g B (Below.refl wr.heap.size wr).drew).trans r3 fun p hp => .inl hp
            have hK5 : KeepN wr w5 := (KeepN.below (Below.refl wr.heap.size wr).drew).trans r2
            have nb : ∀ p', B = some p' → w.heap.size + 1 ≠ p'.block ∧ w2.heap.size ≠ p'.block := fun p' hp' => by
              rcases hB p' hp' with e | e
              · have := hlow p' e; omega
              · omega
            have hC5 : Chg w w5 g B1 := hC.trans r3' fun p hp => by
              rcases hB p hp with e | e
              · exact .inl e
              · exact .inr (by omega)
            have b75 := r3'.blk b7 (by omega) (fun p hp => (nb p hp).1)
            have bP5 := r3'.blk bP (by omega) (fun p hp => (nb p hp).2)
            obtain ⟨l75, u0, u1, u2⟩ := b75.three
            have z75 := bP5.cell 7
            simp only [List.getElem?_toArray, List.getElem?_cons_succ, List.getElem?_cons_zero] at z75
            have hKw := hK.trans hK5
            have hB5 : ∀ p, B' = some p → B1 = some p ∨ W0.heap.size ≤ p.block := fun p hp => by
              rcases r4 p hp with e | e
              · exact hB p e
              · exact .inr (Nat.le_trans hz0 e)
            have hz5 : W0.heap.size ≤ w5.heap.size := Nat.le_trans hz0 r3'.size
            have HR1 := Lib.hid r1
            have HKw := Lib.hid hKw
            have HC5 := Lib.hid hC5
            have v0 := hK5 _ _ x0 (by intro _ _ _ e; cases e)
            have v1 := hK5 _ _ x1 (by intro _ _ _ e; cases e)
            have v2 := hK5 _ _ x2 (by intro _ _ _ e; cases e)
            have v3 := hK5 _ _ x3 (by intro _ _ _ e; cases e)
            clear r1 r2 r3 r3' hK5 hKw hC5 hK hC hV hsh r4
            refine hK'.out _ _ ⟨z75, v0, v1, v2, v3, u0, u1, u2⟩ (fun hHeld => ?_)
            clear hK' K
            try go_frame
            refine wpAnyH_done (by kernel_rfl) ?_ _
            go_wp2
            go_roundw
            case rel =>
              refine ⟨k + 1, B', m', d', by omega, by go_num, ?_, HKw.out, HC5.out, hB5, b75, bP5, hz5⟩
              rw [HS.out]
              exact HR1.out
            case measure => simp [intOf]; omega
          · have hd3 : decide ((k : Int) < (n4 : Int)) = false := by simp; omega
            rw [List.take_of_length_le (by omega)] at hsh
            have HSH := Lib.hid hsh
            have HKK := Lib.hid hK
            have HCC := Lib.hid hC
            clear hsh hK hC
            go_wp2
            go_ret
            rw [HR2.out, H0.out]
            exact ⟨rfl, _, B, m, d, HSH.out, HKK.out, HCC.out, fun p hp => by
              rcases hB p hp with e | e
              · exact .inl e
              · exact .inr (by omega)⟩
end Go.Proofs.Ytipacjbegfingaa
