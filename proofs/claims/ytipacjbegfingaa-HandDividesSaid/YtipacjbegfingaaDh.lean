/- The walk of mvcc's locked. -/
import Derived.Test.YtipacjbegfingaaDg
namespace Go.Proofs.Ytipacjbegfingaa
open Go.RowKit Fl
attribute [local go_sem] run_store_float

/-- does p bar x? -/
def clashB (p x : Pn) : Bool := x.w.any (fun a => wrL a.key p.w || inL a.key p.r) || x.r.any (fun k => wrL k p.w)
def lockedB (m : List Pn) (x : Pn) : Bool := m.any fun p => clashB p x
abbrev Pn.arr (p : Pn) (r q : Value) : Array Value := #[.int .i64 p.t.c, .int .i64 p.t.l, .int .i64 p.t.s, .int .i64 p.s.w, .int .i64 p.s.l, .int .i64 p.s.n, r, q]
theorem Pn.val_inj {p p' : Pn} {r r' q q' : Value} (h : p.val r q = p'.val r' q') : p.t = p'.t ∧ p.s = p'.s ∧ r = r' ∧ q = q' := by
  obtain ⟨⟨a, b, c⟩, ⟨d, e, f⟩, _, _⟩ := p
  obtain ⟨⟨a', b', c'⟩, ⟨d', e', f'⟩, _, _⟩ := p'
  simp at h
  simp [h]
def LockRel (b2 : Nat) (D : DataW Value) (m : List Pn) (x : Pn) (xs : Array Value) (w wr : World) : Prop :=
  ∃ (left : Lit → Bool) (cnt : Nat), wr.ranges Try.prog 43 anyE b2 (w.heap.size + 1) m.length D left cnt ∧ (∀ p ∈ m, left (txl p.t) = false → clashB p x = false) ∧ Below w.heap.size w wr ∧ Blk wr w.heap.size 47 xs

set_option maxRecDepth 100000 in
set_option maxHeartbeats 4000000 in
theorem locked_any (base g b1 b2 : Nat) (l : List Hs) (m : List Pn) (x : Pn) (A1 A2 : Option Addr) (n1 n2 c1 c2 : Nat) (w : World) (h : StoreW w base g b1 b2 l m) (hr : Sl KyRel 1 w w.heap.size A1 n1 x.r) (hw : Sl WtRel 4 w w.heap.size A2 n2 x.w) (hn1 : n1 ≤ maxLen) (hn2 : n2 ≤ maxLen) :
    Calls Try.prog 85 #[.pointer (some ⟨g, 0, none⟩), x.val (.slice A1 n1 c1) (.slice A2 n2 c2)] w fun e w' => e = .returned (.bool (lockedB m x)) ∧ Below w.heap.size w w' := by
  unfold maxLen at hn1 hn2
  obtain ⟨D, ho, hD⟩ := h.ps
  have hone := h.one
  obtain ⟨gl, k0, k1, k2, k3, k4⟩ := h.blk.fiveC
  have gl1 : g < w.heap.size + 1 := by omega
  have i3 := Blk.new w 47 (x.arr (.slice A1 n1 c1) (.slice A2 n2 c2))
  have hX : Below w.heap.size w (w.alloc (.cells (x.arr (.slice A1 n1 c1) (.slice A2 n2 c2)) 47)) := by go_grown
  go_enter Try.func85, Try.ntmps85
  go_wp2_with (first
    | (at_range
       refine wpList_range_own _ rfl _ 130 rfl 43 47 kTxn Try.underlying130 anyE b2 m.length D rfl (ho.alloc _) ?_
       intro w0 hrg0 hg0 hs0))
  go_frame
  simp only [World.size_alloc]
  have hb0 : Below w.heap.size w w0 := hX.grown hg0 (by simp) (by simp)
  have i30 := i3.grown hg0 (by simp)
  rw [show (w.alloc (.cells (x.arr (.slice A1 n1 c1) (.slice A2 n2 c2)) 47)).heap.size = w.heap.size + 1 from by simp] at hrg0
  clear hg0 hs0 i3 hX k0 k1 k2 k3 k4
  go_loopw [16] (fun _ wr => LockRel b2 D m x (x.arr (.slice A1 n1 c1) (.slice A2 n2 c2)) w wr) (fun _ wr => wr.rangeLeft b2 (w.heap.size + 1))
  case atStart =>
    refine ⟨_, _, hrg0, fun p hp hl => ?_, hb0, i30⟩
    obtain ⟨_, _, r, q, e, _⟩ := hD.2 p hp
    rw [Maps.has_true_of_atKey e] at hl
    cases hl
  case round =>
    obtain ⟨left, cnt, hrg, hdone, hb, i3⟩ := hrel
    have hzz := hb.size
    go_wp2_with (first
      | (at_next
         refine wpList_next_ranges (α := Value) (β := Value) _ rfl _ rfl 43 kTxn anyE id id (fun key kl _ => ⟨key, rfl⟩) (fun v y _ => ⟨v, rfl⟩) b2 (w.heap.size + 1) m.length D left cnt rfl hrg ?_ ?_))
    · intro _ hl0
      have HF := Lib.hid (show lockedB m x = false by
        unfold lockedB
        rw [List.any_eq_false]
        intro p hp
        rw [hdone p hp (hl0 _)]
        simp)
      go_wp2
      go_ret
      rw [HF.out]
      exact ⟨rfl, hb⟩
    · intro xk c kl y ps w1 cnt1 hkey hlk hR hps0 hat hrg1 hlt1 hg1 hs1 hen
      subst hR hps0
      obtain ⟨p, hp, rfl⟩ := hD.1 kl (Maps.has_true_of_atKey hat)
      obtain ⟨hpt, hps, r, q, e, hdr, hdq⟩ := hD.2 p hp
      have ec : c = p.val r q := by
        have h1 := hat .nil
        rw [e .nil] at h1
        injection h1 with h1
        exact h1.symm
      subst ec
      obtain ⟨A3, n3, c3, rfl, hn3, hc3, hs3⟩ := hdr
      obtain ⟨A4, n4, c4, rfl, hn4, hc4, hs4⟩ := hdq
      have hb1 : Below w.heap.size w w1 := hb.grown hg1 hzz (by intro k hk; injection hk with hk; omega)
      have i31 := i3.grown hg1 (by intro e; injection e with e; omega)
      have hdone1 : ∀ p' ∈ m, (left (txl p'.t) && !(txl p'.t).sameKey (txl p.t)) = false → clashB p x = false → clashB p' x = false := fun p' hp' hl hc => by
        cases hlp : left (txl p'.t)
        · exact hdone p' hp' hlp
        · rw [hlp] at hl
          have h2 : (txl p'.t).sameKey (txl p.t) = true := by simpa using hl
          have h3 := txl_inj (hD.2 p' hp').1 hpt (WideAt.sameKey_eq h2)
          rw [hone p' hp' p hp h3]
          exact hc
      have hmz := hrg.left_eq
      have hmz1 := hrg1.left_eq
      clear hat e hkey hrg hdone hs1
      have i6 := Blk.new w1 47 (p.arr (.slice A3 n3 c3) (.slice A4 n4 c4))
      have i32 := i31.alloc (.cells (p.arr (.slice A3 n3 c3) (.slice A4 n4 c4)) 47)
      have hb2 : Below w.heap.size w (w1.alloc (.cells (p.arr (.slice A3 n3 c3) (.slice A4 n4 c4)) 47)) := hb1.alloc hb1.size _
      have hrg2 := hrg1.alloc (.cells (p.arr (.slice A3 n3 c3) (.slice A4 n4 c4)) 47)
      obtain ⟨_, x30, x31, x32, x33, x34, x35, x36, x37⟩ := i31.eight
      have l31 := i31.lt
      have l32 : w.heap.size < w1.heap.size + 1 := by omega
      go_wp2
      generalize hg6 : w1.heap.size = g6 at *
      generalize (w1.alloc (.cells (p.arr (.slice A3 n3 c3) (.slice A4 n4 c4)) 47)) = w2 at *
      have hll := hw.1
      have hlr := hr.1
      have hge : n2 ≤ x.w.length := by omega
      have hge1 : n1 ≤ x.r.length := by omega
      have hle : x.w.length ≤ n2 := by omega
      have hle1 : x.r.length ≤ n1 := by omega
      have hl3 := hs3.1
      have hl4 := hs4.1
      clear x30 x31 x32 x33 x34 x35 x36 x37 l31 l32 hll hlr hen hg1 hrg1 i31
      go_loopw [23] (fun i wz => AnyRel (fun a : Wt => wrL a.key p.w || inL a.key p.r) x.w w2 i wz) (fun i _ => n2 - (intOf i).toNat)
      case atStart => exact ⟨0, by omega, rfl, rfl, Below.refl _ _⟩
      case round =>
        obtain ⟨k, hk, rfl, ha0, hbz⟩ := hrel
        have hz := hb2.size
        have hbwz : Below w.heap.size w wr := hb2.trans (hbz.mono hz)
        have hzz2 := hbz.size
        by_cases hlt : k < n2
        · obtain ⟨ad, a, rfl, ha, hbk, hok, c0, c1', c2', c3'⟩ := ((hw.below WtRel.kept hbwz).more WtRel.kept hbwz.size).wt hlt
          have hd1 : decide ((k : Int) < (n2 : Int)) = true := by simp; omega
          have hk0 : (0 : Int) ≤ (k : Int) := by omega
          have hk1 : (k : Int) < (n2 : Int) := by omega
          rw [any_drop ha] at ha0
          have hXz : Below wr.heap.size wr (wr.alloc (.cells #[.string a.key, .int .i64 a.v.k, .float .f64 a.v.n, .string a.v.t] 96)) := by go_grown
          have hXw : Below w.heap.size w (wr.alloc (.cells #[.string a.key, .int .i64 a.v.k, .float .f64 a.v.n, .string a.v.t] 96)) := hbwz.trans (hXz.mono hbwz.size)
          have i8 := Blk.new wr 96 #[.string a.key, .int .i64 a.v.k, .float .f64 a.v.n, .string a.v.t]
          have i6z := i6.below hbz i6.lt
          have i6X := i6z.alloc (.cells #[.string a.key, .int .i64 a.v.k, .float .f64 a.v.n, .string a.v.t] 96)
          obtain ⟨l6, y0, y1, y2, y3, y4, y5, y6, y7⟩ := i6z.eight
          have l66 : g6 < wr.heap.size + 1 := by omega
          have hW := writes_any p (.slice A3 n3 c3) a.key A4 n4 c4 _ rfl ((hs4.below WtRel.kept hXw).more WtRel.kept hXw.size) (by unfold maxLen; unfold maxLen at hc4; omega)
          cases hwl : wrL a.key p.w
          · rw [hwl] at hW
            cases hil : inL a.key p.r
            · have HT := Lib.hid (show (x.w.drop (k + 1)).any (fun a : Wt => wrL a.key p.w || inL a.key p.r) = x.w.any (fun a : Wt => wrL a.key p.w || inL a.key p.r) by rw [← ha0, hwl, hil]; rfl)
              clear ha0 ha
              go_wp2_with (first
                | ((with_reducible refine hW.mono ?_); rintro e w5 ⟨rfl, hb5⟩
                   have hXw5 : Below w.heap.size w w5 := hXw.trans (hb5.mono hXw.size)
                   obtain ⟨l65, v0, v1, v2, v3, v4, v5, v6, v7⟩ := (i6X.below hb5 i6X.lt).eight
                   obtain ⟨l85, u0, u1, u2, u3, -⟩ := (i8.below hb5 i8.lt).four
                   have hC := contains_any A3 n3 c3 p.r a.key w5 ((hs3.below KyRel.kept hXw5).more KyRel.kept hXw5.size) (by omega)
                   rw [hil] at hC)
                | ((with_reducible refine hC.mono ?_); rintro e w6 ⟨rfl, hb6⟩))
              go_roundw
              case rel => exact ⟨k + 1, by omega, by go_num, HT.out, hbz.trans (Below.mono (hXz.trans ((hb5.mono hXz.size).trans (hb6.mono (Nat.le_trans hXz.size hb5.size)))) hzz2)⟩
              case measure => simp [intOf]; omega
            · have HF := Lib.hid (show lockedB m x = true by
                unfold lockedB
                rw [List.any_eq_true]
                exact ⟨p, hp, by unfold clashB; rw [← ha0, hwl, hil]; rfl⟩)
              clear ha0 ha
              go_wp2_with (first
                | ((with_reducible refine hW.mono ?_); rintro e w5 ⟨rfl, hb5⟩
                   have hXw5 : Below w.heap.size w w5 := hXw.trans (hb5.mono hXw.size)
                   obtain ⟨l65, v0, v1, v2, v3, v4, v5, v6, v7⟩ := (i6X.below hb5 i6X.lt).eight
                   obtain ⟨l85, u0, u1, u2, u3, -⟩ := (i8.below hb5 i8.lt).four
                   have hC := contains_any A3 n3 c3 p.r a.key w5 ((hs3.below KyRel.kept hXw5).more KyRel.kept hXw5.size) (by omega)
                   rw [hil] at hC)
                | ((with_reducible refine hC.mono ?_); rintro e w6 ⟨rfl, hb6⟩))
              go_ret
              rw [HF.out]
              exact ⟨rfl, hXw5.trans (hb6.mono hXw5.size)⟩
          · rw [hwl] at hW
            have HF := Lib.hid (show lockedB m x = true by
              unfold lockedB
              rw [List.any_eq_true]
              exact ⟨p, hp, by unfold clashB; rw [← ha0, hwl]; rfl⟩)
            clear ha0 ha
            go_wp2_with ((with_reducible refine hW.mono ?_); rintro e w5 ⟨rfl, hb5⟩)
            go_ret
            rw [HF.out]
            exact ⟨rfl, hXw.trans (hb5.mono hXw.size)⟩
        · have hd1 : decide ((k : Int) < (n2 : Int)) = false := by simp; omega
          have hno : x.w.any (fun a : Wt => wrL a.key p.w || inL a.key p.r) = false := by rw [← ha0, List.drop_of_length_le (by omega)]; rfl
          clear ha0
          have i6z := i6.below hbz i6.lt
          have i3z := i32.below hbz i32.lt
          obtain ⟨l6, y0, y1, y2, y3, y4, y5, y6, y7⟩ := i6z.eight
          obtain ⟨l3, x30, x31, x32, x33, x34, x35, x36, x37⟩ := i3z.eight
          go_wp2
          have hrg3 := hrg2.kept (grownBy_below hbz none) (by simp) (by simp)
          obtain ⟨w3, rfl⟩ : ∃ w3, w3 = wr := ⟨_, rfl⟩
          clear y0 y1 y2 y3 y4 y5 y6 y7 x30 x31 x32 x33 x34 x35 x36 x37 hbz hrg2 i6 i32
          go_loopw [42] (fun i wq => AnyRel (fun k : ByteArray => wrL k p.w) x.r w3 i wq) (fun i _ => n1 - (intOf i).toNat)
          case atStart => exact ⟨0, by omega, rfl, rfl, Below.refl _ _⟩
          case round =>
            obtain ⟨k2, hk2, rfl, ha0, hbz⟩ := hrel
            have hz3 := hbwz.size
            have hbwy : Below w.heap.size w wr := hbwz.trans (hbz.mono hz3)
            have hzz3 := hbz.size
            have i6y := i6z.below hbz i6z.lt
            obtain ⟨l6y, y0, y1, y2, y3, y4, y5, y6, y7⟩ := i6y.eight
            by_cases hlt : k2 < n1
            · obtain ⟨ad, a, rfl, ha, hbk, hok, c0⟩ := ((hr.below KyRel.kept hbwy).more KyRel.kept hbwy.size).ky hlt
              have hd1 : decide ((k2 : Int) < (n1 : Int)) = true := by simp; omega
              have hk0 : (0 : Int) ≤ (k2 : Int) := by omega
              have hk1 : (k2 : Int) < (n1 : Int) := by omega
              rw [any_drop ha] at ha0
              have hW := writes_any p (.slice A3 n3 c3) a A4 n4 c4 wr rfl ((hs4.below WtRel.kept hbwy).more WtRel.kept hbwy.size) (by unfold maxLen; unfold maxLen at hc4; omega)
              cases hwl : wrL a p.w
              · rw [hwl] at hW ha0
                have HT := Lib.hid ha0
                clear ha0 ha
                go_wp2_with ((with_reducible refine hW.mono ?_); rintro e w5 ⟨rfl, hb5⟩)
                go_roundw
                case rel => exact ⟨k2 + 1, by omega, by go_num, HT.out, hbz.trans (hb5.mono hzz3)⟩
                case measure => simp [intOf]; omega
              · have HF := Lib.hid (show lockedB m x = true by
                  unfold lockedB
                  rw [List.any_eq_true]
                  exact ⟨p, hp, by unfold clashB; rw [← ha0, hwl]; simp⟩)
                rw [hwl] at hW
                clear ha0 ha
                go_wp2_with ((with_reducible refine hW.mono ?_); rintro e w5 ⟨rfl, hb5⟩)
                go_ret
                rw [HF.out]
                exact ⟨rfl, hbwy.trans (hb5.mono hbwy.size)⟩
            · have hd1 : decide ((k2 : Int) < (n1 : Int)) = false := by simp; omega
              have hno2 : x.r.any (fun k : ByteArray => wrL k p.w) = false := by rw [← ha0, List.drop_of_length_le (by omega)]; rfl
              clear ha0
              have hcl : clashB p x = false := by unfold clashB; rw [hno, hno2]; rfl
              have hrg4 := hrg3.kept (grownBy_below hbz none) (by simp) (by simp)
              have i3y := i3z.below hbz i3z.lt
              have hmy := hrg4.left_eq
              clear hno hno2 y0 y1 y2 y3 y4 y5 y6 y7
              go_wp2
              go_roundw
              case rel => exact ⟨_, _, hrg4, fun p' hp' hl => hdone1 p' hp' hl hcl, hbwy, i3y⟩
              case measure => rw [hmy, hmz]; omega
end Go.Proofs.Ytipacjbegfingaa
